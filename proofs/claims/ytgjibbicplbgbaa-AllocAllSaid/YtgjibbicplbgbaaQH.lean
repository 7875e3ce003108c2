/- QH: several texts in one. -/
import Derived.Test.YtgjibbicplbgbaaQA
import Derived.Test.YtgjibbicplbgbaaQF
import Derived.Test.YtgjibbicplbgbaaQB
set_option linter.unusedVariables false
set_option linter.unusedSimpArgs false
set_option linter.unusedSectionVars false
set_option maxRecDepth 100000
namespace Go.Proofs.Ytgjibbicplbgbaa
open Go Go.RowKit Go.Proofs Go.Proofs.Ytgjibbicplbgbaa.X
open Go.Proofs.Ytgjibbicplbgbaa.B (wr sb feq fls qf flt i2f aget aset isnan isnan_flt)
noncomputable def selvageref03_NaN_2.F : FI Try.prog 44 := ⟨Try.f44, 15, (Try.f44.body.getD .skip), Try.f44.results.toList, Try.call44, Try.func44, by kernel_rfl, by kernel_rfl, by kernel_rfl⟩
def selvageref03_NaN_2.m (a_1 : Nat) : Bool :=
  letC (wr .u64 ((a_1 : Int) * 2 ^ (min (1 : Int).toNat 64))) fun v_2 => letC (v_2 / 2 ^ (min (53 : Int).toNat 64)) fun v_3 => if v_3 = (2047 : Int) then (letC (wr .u64 ((a_1 : Int) * 2 ^ (min (12 : Int).toNat 64))) fun v_5 => (!(decide (v_5 = (0 : Int))))) else (false)
noncomputable def selvageref03_NaN_2.o (a_1 : Nat) (r : Bool) : Out := .ret (.v (.bool r)) [] []
theorem selvageref03_NaN_2.ev {a_1 : Nat} {r : Bool} (H : selvageref03_NaN_2.m a_1 = r) : Ev Try.prog 44 [.v (.float .f64 a_1)] [] [] (selvageref03_NaN_2.o a_1 r) := by
  unfold selvageref03_NaN_2.m at H
  let v_2 : Int := wr .u64 ((a_1 : Int) * 2 ^ (min (1 : Int).toNat 64))
  replace H := ltD H
  let v_3 : Int := v_2 / 2 ^ (min (53 : Int).toNat 64)
  replace H := ltD H
  rcases b2 (decide (v_3 = (2047 : Int))) with h_4 | h_4
  · have H := itT h_4 H
    let v_5 : Int := wr .u64 ((a_1 : Int) * 2 ^ (min (12 : Int).toNat 64))
    replace H := ltD H
    subst H
    exact selvageref03_NaN_2.F.run tb mixed [ext (ext_f64bitsx (c := a_1) Try.func45 (by kernel_rfl) (by kernel_rfl) (by kernel_rfl) (by kernel_rfl)), pf (by decide : 0 ≤ (1 : Int)), pf (by decide : 0 ≤ (53 : Int)), br h_4, pf (by decide : 0 ≤ (12 : Int)), pk (rfl : true = true)] rfl (by kernel_rfl)
  · have H := itF h_4 H
    subst H
    exact selvageref03_NaN_2.F.run tb mixed [ext (ext_f64bitsx (c := a_1) Try.func45 (by kernel_rfl) (by kernel_rfl) (by kernel_rfl) (by kernel_rfl)), pf (by decide : 0 ≤ (1 : Int)), pf (by decide : 0 ≤ (53 : Int)), br h_4, pk (rfl : false = false)] rfl (by kernel_rfl)
end Go.Proofs.Ytgjibbicplbgbaa
set_option maxRecDepth 100000
namespace Go.Proofs.Ytgjibbicplbgbaa
open Go Go.RowKit Go.Proofs Go.Proofs.Ytgjibbicplbgbaa.X
open Go.Proofs.Ytgjibbicplbgbaa.B (wr sb feq fls qf flt i2f aget aset isnan isnan_flt)
def selvageref03_NaN_3.m (a_1 : Nat) : Bool := isnan a_1
noncomputable def selvageref03_NaN_3.o (a_1 : Nat) (r : Bool) : Out := .ret (.v (.bool r)) [] []
theorem selvageref03_NaN_3.ev {a_1 : Nat} {r : Bool} (H : selvageref03_NaN_3.m a_1 = r) : Ev Try.prog 44 [.flt a_1] [] [] (selvageref03_NaN_3.o a_1 r) := by
  subst H
  refine Ev.fltE Try.call44 fun c hc => selvageref03_NaN_2.ev ?_
  unfold selvageref03_NaN_2.m selvageref03_NaN_3.m
  rw [← hc, isnan_flt]
  exact nan_ifB c
end Go.Proofs.Ytgjibbicplbgbaa
set_option maxRecDepth 100000
namespace Go.Proofs.Ytgjibbicplbgbaa
open Go Go.RowKit Go.Proofs Go.Proofs.Ytgjibbicplbgbaa.X
open Go.Proofs.Ytgjibbicplbgbaa.B (wr sb feq fls qf flt i2f aget aset isnan isnan_flt)
noncomputable def selvageref03_Rank.F : FI Try.prog 27 := ⟨Try.f27, 15, (Try.f27.body.getD .skip), Try.f27.results.toList, Try.call27, Try.func27, by kernel_rfl, by kernel_rfl, by kernel_rfl⟩
def selvageref03_Rank.m (a_1 : Nat) : Option (Int) :=
  letC (selvageref03_NaN_3.m a_1) fun r_2 => if r_2 = true then (some 0) else (if isnan a_1 = false then (letC ((a_1 : Int) / 2 ^ (min (63 : Int).toNat 64)) fun v_6 => if v_6 = (1 : Int) then (letC (bits .xor .u64 (bif IntKind.signed .u64 then -1 else IntKind.max .u64) (a_1 : Int)) fun v_8 => some v_8) else (letC (bits .or .u64 (a_1 : Int) (9223372036854775808 : Int)) fun v_9 => some v_9)) else none)
noncomputable def selvageref03_Rank.o (a_1 : Nat) (r : Int) : Out := .ret (.v (.int .u64 r)) [] []
theorem selvageref03_Rank.ev {a_1 : Nat} {r : Int} (H : selvageref03_Rank.m a_1 = some r) : Ev Try.prog 27 [.flt a_1] [] [] (selvageref03_Rank.o a_1 r) := by
  unfold selvageref03_Rank.m at H
  obtain ⟨r_2, e_3, H⟩ := ltE H
  rcases b2 r_2 with h_4 | h_4
  · have H := ibT h_4 H
    obtain rfl := Option.some.inj H
    exact selvageref03_Rank.F.run tb mixed [ca [] (selvageref03_NaN_3.ev e_3), br h_4] rfl (by kernel_rfl)
  · have H := ibF h_4 H
    obtain ⟨g_5, H⟩ := gdE H
    let v_6 : Int := (a_1 : Int) / 2 ^ (min (63 : Int).toNat 64)
    replace H := ltD H
    rcases b2 (decide (v_6 = (1 : Int))) with h_7 | h_7
    · have H := itT h_7 H
      let v_8 : Int := bits .xor .u64 (bif IntKind.signed .u64 then -1 else IntKind.max .u64) (a_1 : Int)
      replace H := ltD H
      obtain rfl := Option.some.inj H
      exact selvageref03_Rank.F.run tb mixed [ca [] (selvageref03_NaN_3.ev e_3), br h_4, ext (ext_f64bits Try.func45 (by kernel_rfl) (by kernel_rfl) (by kernel_rfl) (by kernel_rfl) g_5), pf (by decide : 0 ≤ (63 : Int)), br h_7] rfl (by kernel_rfl)
    · have H := itF h_7 H
      let v_9 : Int := bits .or .u64 (a_1 : Int) (9223372036854775808 : Int)
      replace H := ltD H
      obtain rfl := Option.some.inj H
      exact selvageref03_Rank.F.run tb mixed [ca [] (selvageref03_NaN_3.ev e_3), br h_4, ext (ext_f64bits Try.func45 (by kernel_rfl) (by kernel_rfl) (by kernel_rfl) (by kernel_rfl) g_5), pf (by decide : 0 ≤ (63 : Int)), br h_7] rfl (by kernel_rfl)
end Go.Proofs.Ytgjibbicplbgbaa
set_option maxRecDepth 100000
namespace Go.Proofs.Ytgjibbicplbgbaa
open Go Go.RowKit Go.Proofs Go.Proofs.Ytgjibbicplbgbaa.X
open Go.Proofs.Ytgjibbicplbgbaa.B (wr sb feq fls qf flt i2f aget aset isnan isnan_flt)
noncomputable def selvageref14_Homes.F : FI Try.prog 12 := ⟨Try.f12, 185, (Try.f12.body.getD .skip), Try.f12.results.toList, Try.call12, Try.func12, by kernel_rfl, by kernel_rfl, by kernel_rfl⟩
def selvageref14_Homes.l6 (a_1 : List api_Ins) (a_3 : Int) (o_49 : (List Int) × Int) (s_80 : Int × Int) (s_87 : Int × Int) : Option ((Int × Int) ⊕ Int) :=
  if s_87.2 < a_3 then ((if 0 ≤ s_80.2 ∧ s_80.2 < (a_1.length : Int) then (letC (gi a_1 s_80.2) fun v_96 => (selvageref10_Has.m v_96.Op 100).bind fun r_97 => if r_97 = true then (letC (gi a_1 s_80.2) fun v_100 => if 0 ≤ s_87.2 ∧ s_87.2 < (8 : Int) then (if 0 ≤ s_87.2 ∧ s_87.2 < (o_49.1.length : Int) then (letC (gi o_49.1 s_87.2) fun v_103 => if v_100.D = v_103 then (if s_87.1 < (0 : Int) then (some (true : Bool)) else (letC (gi o_49.1 s_87.2) fun v_106 => (selvageref14_weightOf.m a_1 v_106).bind fun r_107 => (selvageref03_Rank.m r_107).bind fun r_109 => if 0 ≤ s_87.1 ∧ s_87.1 < (8 : Int) then (if 0 ≤ s_87.1 ∧ s_87.1 < (o_49.1.length : Int) then (letC (gi o_49.1 s_87.1) fun v_113 => (selvageref14_weightOf.m a_1 v_113).bind fun r_114 => (selvageref03_Rank.m r_114).bind fun r_116 => some ((decide (r_109 < r_116)) : Bool)) else none) else none)) else (some (false : Bool))) else none) else none) else (some (false : Bool))) else none : Option Bool).bind fun o_92 => if o_92 = true then (letC (wr .i64 (s_87.2 + (1 : Int))) fun v_119 => some (Sum.inl (s_87.2, v_119))) else (letC (wr .i64 (s_87.2 + (1 : Int))) fun v_120 => some (Sum.inl (s_87.1, v_120)))) else (some (Sum.inr s_87.1))
def selvageref14_Homes.l5 (a_1 : List api_Ins) (a_3 : Int) (s_25 : (List Int) × (List api_Home) × Nat × Int × Int) (o_49 : (List Int) × Int) (s_80 : Int × Int) : Option ((Int × Int) ⊕ Int) :=
  if s_80.2 < s_25.2.2.2.2 then ((B.loop (selvageref14_Homes.l6 a_1 a_3 o_49 s_80) ((s_80.1, 0) : Int × Int)).bind fun o_88 => letC (wr .i64 (s_80.2 + (1 : Int))) fun v_121 => some (Sum.inl (o_88, v_121))) else (some (Sum.inr s_80.1))
def selvageref14_Homes.l4 (a_1 : List api_Ins) (s_25 : (List Int) × (List api_Home) × Nat × Int × Int) (s_48 : (List Int) × Int × Int) : Option (((List Int) × Int × Int) ⊕ ((List Int) × Int)) :=
  if s_48.2.2 ≥ (0 : Int) then (if 0 ≤ s_48.2.2 ∧ s_48.2.2 < (8 : Int) then (if 0 ≤ s_48.2.2 ∧ s_48.2.2 < (s_48.1.length : Int) then (letC (gi s_48.1 s_48.2.2) fun v_55 => (if v_55 ≥ (0 : Int) then (letC (gi s_48.1 s_48.2.2) fun v_60 => (selvageref14_Span.m a_1 v_60).bind fun r_61 => if r_61.2.1 < s_25.2.2.2.2 then (letC (s_48.1.set s_48.2.2.toNat (-1)) fun v_64 => some (v_64 : List Int)) else (some (s_48.1 : List Int))) else (some (s_48.1 : List Int)) : Option (List Int)).bind fun o_56 => if 0 ≤ s_48.2.2 ∧ s_48.2.2 < (o_56.length : Int) then (letC (gi o_56 s_48.2.2) fun v_66 => if v_66 < (0 : Int) then (letC (wr .i64 (s_48.2.2 - (1 : Int))) fun v_68 => some (Sum.inl (o_56, s_48.2.2, v_68))) else (letC (wr .i64 (s_48.2.2 - (1 : Int))) fun v_69 => some (Sum.inl (o_56, s_48.2.1, v_69)))) else none) else none) else none) else (some (Sum.inr (s_48.1, s_48.2.1)))
def selvageref14_Homes.l3 (v_35 : api_Ins) (s_38 : (List api_Home) × Nat) : Option (((List api_Home) × Nat) ⊕ ((List api_Home) × Nat)) :=
  if (s_38.2 : Int) ≤ v_35.D then (if s_38.1.length = s_38.2 then (if (s_38.2 + ([(api_Home.mk (-1) (-1))] : List api_Home).length) * 16 ≤ 140737488355328 then (letC (s_38.1 ++ ([(api_Home.mk (-1) (-1))] : List api_Home)) fun v_45 => some (Sum.inl (v_45, v_45.length))) else none) else none) else (some (Sum.inr (s_38.1, s_38.2)))
def selvageref14_Homes.l2 (a_1 : List api_Ins) (a_3 : Int) (s_25 : (List Int) × (List api_Home) × Nat × Int × Int) : Option (((List Int) × (List api_Home) × Nat × Int × Int) ⊕ ((List api_Home) × Nat)) :=
  if s_25.2.2.2.2 < (a_1.length : Int) then (if 0 ≤ s_25.2.2.2.2 ∧ s_25.2.2.2.2 < (a_1.length : Int) then (letC (gi a_1 s_25.2.2.2.2) fun v_31 => (selvageref10_Has.m v_31.Op 100).bind fun r_32 => if r_32 = true then (letC (gi a_1 s_25.2.2.2.2) fun v_35 => (B.loop (selvageref14_Homes.l3 v_35) ((s_25.2.1, s_25.2.2.1) : (List api_Home) × Nat)).bind fun o_39 => (B.loop (selvageref14_Homes.l4 a_1 s_25) ((s_25.1, (-1), (wr .i64 (a_3 - (1 : Int)))) : (List Int) × Int × Int)).bind fun o_49 => if o_49.2 ≥ (0 : Int) then (if 0 ≤ o_49.2 ∧ o_49.2 < (8 : Int) then (if 0 ≤ o_49.2 ∧ o_49.2 < (o_49.1.length : Int) then (letC (o_49.1.set o_49.2.toNat v_35.D) fun v_73 => if 0 ≤ v_35.D ∧ v_35.D < (o_39.2 : Int) then (if 0 ≤ v_35.D ∧ v_35.D < (o_39.1.length : Int) then (letC (o_39.1.set v_35.D.toNat (api_Home.mk o_49.2 0)) fun v_76 => letC (wr .i64 (s_25.2.2.2.2 + (1 : Int))) fun v_77 => some (Sum.inl (v_73, v_76, o_39.2, s_25.2.2.2.1, v_77))) else none) else none) else none) else none) else ((B.loop (selvageref14_Homes.l5 a_1 a_3 s_25 o_49) (((-1), 0) : Int × Int)).bind fun o_81 => letC (wr .i64 (s_25.2.2.2.1 + (1 : Int))) fun v_122 => (selvageref14_weightOf.m a_1 v_35.D).bind fun r_123 => (selvageref03_Rank.m r_123).bind fun r_125 => if 0 ≤ o_81 ∧ o_81 < (8 : Int) then (if 0 ≤ o_81 ∧ o_81 < (o_49.1.length : Int) then (letC (gi o_49.1 o_81) fun v_129 => (selvageref14_weightOf.m a_1 v_129).bind fun r_130 => (selvageref03_Rank.m r_130).bind fun r_132 => if r_125 < r_132 then (if 0 ≤ v_35.D ∧ v_35.D < (o_39.2 : Int) then (if 0 ≤ v_35.D ∧ v_35.D < (o_39.1.length : Int) then (letC (o_39.1.set v_35.D.toNat (api_Home.mk (-1) s_25.2.2.2.1)) fun v_137 => letC (wr .i64 (s_25.2.2.2.2 + (1 : Int))) fun v_138 => some (Sum.inl (o_49.1, v_137, o_39.2, v_122, v_138))) else none) else none) else (letC (gi o_49.1 o_81) fun v_139 => if 0 ≤ v_139 ∧ v_139 < (o_39.2 : Int) then (if 0 ≤ v_139 ∧ v_139 < (o_39.1.length : Int) then (letC (o_39.1.set v_139.toNat (api_Home.mk (-1) s_25.2.2.2.1)) fun v_142 => if 0 ≤ v_35.D ∧ v_35.D < (o_39.2 : Int) then (if 0 ≤ v_35.D ∧ v_35.D < (v_142.length : Int) then (letC (v_142.set v_35.D.toNat (api_Home.mk o_81 0)) fun v_145 => letC (o_49.1.set o_81.toNat v_35.D) fun v_146 => letC (wr .i64 (s_25.2.2.2.2 + (1 : Int))) fun v_147 => some (Sum.inl (v_146, v_145, o_39.2, v_122, v_147))) else none) else none) else none) else none)) else none) else none)) else (letC (wr .i64 (s_25.2.2.2.2 + (1 : Int))) fun v_148 => some (Sum.inl (s_25.1, s_25.2.1, s_25.2.2.1, s_25.2.2.2.1, v_148)))) else none) else (some (Sum.inr (s_25.2.1, s_25.2.2.1)))
def selvageref14_Homes.l1 (s_14 : (List Int) × Int) : Option (((List Int) × Int) ⊕ (List Int)) :=
  if s_14.2 < (8 : Int) then (if 0 ≤ s_14.2 ∧ s_14.2 < (8 : Int) then (if 0 ≤ s_14.2 ∧ s_14.2 < (s_14.1.length : Int) then (letC (s_14.1.set s_14.2.toNat (-1)) fun v_21 => letC (wr .i64 (s_14.2 + (1 : Int))) fun v_22 => some (Sum.inl (v_21, v_22))) else none) else none) else (some (Sum.inr s_14.1))
def selvageref14_Homes.m (a_1 : List api_Ins) (a_2 : List api_Loc) (a_3 : Int) : Option (Int ⊕ ((List api_Home) × Nat)) :=
  (selvageref10_Right.m a_1 a_2).bind fun r_4 => if r_4 = true then ((if a_3 < (1 : Int) then (some (true : Bool)) else (some ((decide (a_3 > (8 : Int))) : Bool)) : Option Bool).bind fun o_7 => if o_7 = true then (some (Sum.inl 1)) else ((B.loop selvageref14_Homes.l1 (((List.replicate 8 (0 : Int)), 0) : (List Int) × Int)).bind fun o_15 => (B.loop (selvageref14_Homes.l2 a_1 a_3) ((o_15, ([] : List api_Home), ([] : List api_Home).length, 0, 0) : (List Int) × (List api_Home) × Nat × Int × Int)).bind fun o_26 => some (Sum.inr (o_26.1, o_26.2)))) else (some (Sum.inl 3))
noncomputable def selvageref14_Homes.o (a_1 : List api_Ins) (a_2 : List api_Loc) (a_3 : Int) (r : Int ⊕ ((List api_Home) × Nat)) : Out := match r with | Sum.inl r => .ret (.tup [.v (.slice none 0 0), .v (.int .i64 r)]) [] [] | Sum.inr (r) => .ret (.tup [.sl 0 1 r.2 0 r.2, .v (.int .i64 0)]) [.dead, .arr true 30 2 r.2 (r.1.map api_Home.c)] []
theorem selvageref14_Homes.ev {a_1 : List api_Ins} {a_2 : List api_Loc} {a_3 : Int} {r : Int ⊕ ((List api_Home) × Nat)} (H : selvageref14_Homes.m a_1 a_2 a_3 = some r) : Ev Try.prog 12 [.ro false 8 a_1.length (a_1.map api_Ins.c), .ro false 2 a_2.length (a_2.map api_Loc.c), .v (.int .i64 a_3)] [] [] (selvageref14_Homes.o a_1 a_2 a_3 r) := by
  unfold selvageref14_Homes.m at H
  obtain ⟨r_4, e_5, H⟩ := bdE H
  rcases b2 r_4 with h_6 | h_6
  · have H := ibT h_6 H
    obtain ⟨o_7, e_8, H⟩ := bdE H
    have j_9 : Runs Try.prog selvageref14_Homes.F.N 0 (sub_ selvageref14_Homes.F.c [1, 1, 0, 0]) ⟨[(0, .ro false 8 a_1.length (a_1.map api_Ins.c)), (2, .v (.int .i64 a_3))], [], []⟩ ((fun _ => .normal : Bool → Ex) o_7) ((fun o_7 => ⟨[(0, .ro false 8 a_1.length (a_1.map api_Ins.c)), (2, .v (.int .i64 a_3)), (32, .v (.bool o_7))], [], []⟩ : Bool → ASt) o_7) := by
      clear H
      have H := e_8
      clear e_8
      rcases b2 (decide (a_3 < (1 : Int))) with h_10 | h_10
      · have H := itT h_10 H
        obtain rfl := Option.some.inj H
        exact Runs.fin (T := tb) mixed [br h_10, pk (rfl : true = true)] (by kernel_rfl)
      · have H := itF h_10 H
        obtain rfl := Option.some.inj H
        exact Runs.fin (T := tb) mixed [br h_10, pk (rfl : false = false)] (by kernel_rfl)
    rcases b2 o_7 with h_11 | h_11
    · have H := ibT h_11 H
      obtain rfl := Option.some.inj H
      exact selvageref14_Homes.F.run tb mixed [ca [] (selvageref10_Right.ev e_5), bn h_6, sg_ 3 j_9, br h_11] rfl (by kernel_rfl)
    · have H := ibF h_11 H
      obtain ⟨o_15, e_16, H⟩ := bdE H
      have j_17 := Runs.loop (P := Try.prog) (N := selvageref14_Homes.F.N) (m0 := 0) (c := sub_ selvageref14_Homes.F.c [1, 1, 1, 1, 1, 0, 1, 0, 0]) (f := selvageref14_Homes.l1) (St := fun s_14 => ⟨[(0, .ro false 8 a_1.length (a_1.map api_Ins.c)), (2, .v (.int .i64 a_3)), (8, .v (.slice none 0 0)), (9, .el 0 ((List.replicate 8 (0 : Int)).length) 0 0), (10, .v (.int .i64 s_14.2))], [.arr false 58 1 ((List.replicate 8 (0 : Int)).length) (s_14.1.map (cI .i64))], []⟩) (xo := (fun _ => (.exit 0) : (List Int) → Ex)) (So := (fun o_15 => ⟨[(0, .ro false 8 a_1.length (a_1.map api_Ins.c)), (2, .v (.int .i64 a_3)), (8, .v (.slice none 0 0)), (9, .el 0 ((List.replicate 8 (0 : Int)).length) 0 0)], [.arr false 58 1 ((List.replicate 8 (0 : Int)).length) (o_15.map (cI .i64))], []⟩ : (List Int) → ASt)) (by intro o; simp) (fun s_14 z H => by
        unfold selvageref14_Homes.l1 at H
        rcases b2 (decide (s_14.2 < (8 : Int))) with h_18 | h_18
        · have H := itT h_18 H
          obtain ⟨g_19, H⟩ := gdE H
          obtain ⟨g_20, H⟩ := gdE H
          let v_21 : List Int := s_14.1.set s_14.2.toNat (-1)
          replace H := ltD H
          let v_22 : Int := wr .i64 (s_14.2 + (1 : Int))
          replace H := ltD H
          obtain rfl := Option.some.inj H
          exact Runs.fin (T := tb) mixed [br h_18, pf g_19, up (cI .i64) 0 [.v (.int .i64 (-1))] (-1) g_20 (by kernel_rfl)] (by kernel_rfl)
        · have H := itF h_18 H
          obtain rfl := Option.some.inj H
          exact Runs.fin (T := tb) mixed [br h_18] (by kernel_rfl)) e_16
      obtain ⟨o_26, e_27, H⟩ := bdE H
      have j_28 := Runs.loop (P := Try.prog) (N := selvageref14_Homes.F.N) (m0 := 0) (c := sub_ selvageref14_Homes.F.c [1, 1, 1, 1, 1, 1, 1, 0, 1, 0, 0]) (f := (selvageref14_Homes.l2 a_1 a_3)) (St := fun s_25 => ⟨[(0, .ro false 8 a_1.length (a_1.map api_Ins.c)), (2, .v (.int .i64 a_3)), (8, .sl 0 1 s_25.2.2.1 0 s_25.2.2.1), (9, .el 0 ((List.replicate 8 (0 : Int)).length) 0 0), (11, .v (.int .i64 s_25.2.2.2.1)), (12, .v (.int .i64 s_25.2.2.2.2))], [.arr false 58 1 ((List.replicate 8 (0 : Int)).length) (s_25.1.map (cI .i64)), .arr true 30 2 s_25.2.2.1 (s_25.2.1.map api_Home.c)], []⟩) (xo := (fun _ => (.exit 2) : ((List api_Home) × Nat) → Ex)) (So := (fun o_26 => ⟨[(8, .sl 0 1 o_26.2 0 o_26.2)], [.dead, .arr true 30 2 o_26.2 (o_26.1.map api_Home.c)], []⟩ : ((List api_Home) × Nat) → ASt)) (by intro o; simp) (fun s_25 z H => by
        unfold selvageref14_Homes.l2 at H
        rcases b2 (decide (s_25.2.2.2.2 < (a_1.length : Int))) with h_29 | h_29
        · have H := itT h_29 H
          obtain ⟨g_30, H⟩ := gdE H
          let v_31 : api_Ins := gi a_1 s_25.2.2.2.2
          replace H := ltD H
          obtain ⟨r_32, e_33, H⟩ := bdE H
          rcases b2 r_32 with h_34 | h_34
          · have H := ibT h_34 H
            let v_35 : api_Ins := gi a_1 s_25.2.2.2.2
            replace H := ltD H
            obtain ⟨o_39, e_40, H⟩ := bdE H
            have j_41 := Runs.loop (P := Try.prog) (N := selvageref14_Homes.F.N) (m0 := 0) (c := sub_ selvageref14_Homes.F.c [1, 1, 1, 1, 1, 1, 1, 0, 1, 0, 0, 1, 0, 0, 1, 1, 0, 0, 0]) (f := (selvageref14_Homes.l3 v_35)) (St := fun s_38 => ⟨[(0, .ro false 8 a_1.length (a_1.map api_Ins.c)), (2, .v (.int .i64 a_3)), (8, .sl 0 1 s_38.2 0 s_38.2), (9, .el 0 ((List.replicate 8 (0 : Int)).length) 0 0), (11, .v (.int .i64 s_25.2.2.2.1)), (12, .v (.int .i64 s_25.2.2.2.2)), (13, .v (.int .i64 v_35.D))], [.arr false 58 1 ((List.replicate 8 (0 : Int)).length) (s_25.1.map (cI .i64)), .arr true 30 2 s_38.2 (s_38.1.map api_Home.c)], []⟩) (xo := (fun _ => (.exit 4) : ((List api_Home) × Nat) → Ex)) (So := (fun o_39 => ⟨[(0, .ro false 8 a_1.length (a_1.map api_Ins.c)), (2, .v (.int .i64 a_3)), (8, .sl 0 1 o_39.2 0 o_39.2), (9, .el 0 ((List.replicate 8 (0 : Int)).length) 0 0), (11, .v (.int .i64 s_25.2.2.2.1)), (12, .v (.int .i64 s_25.2.2.2.2)), (13, .v (.int .i64 v_35.D))], [.arr false 58 1 ((List.replicate 8 (0 : Int)).length) (s_25.1.map (cI .i64)), .arr true 30 2 o_39.2 (o_39.1.map api_Home.c)], []⟩ : ((List api_Home) × Nat) → ASt)) (by intro o; simp) (fun s_38 z H => by
              unfold selvageref14_Homes.l3 at H
              rcases b2 (decide ((s_38.2 : Int) ≤ v_35.D)) with h_42 | h_42
              · have H := itT h_42 H
                obtain ⟨g_43, H⟩ := gdE H
                obtain ⟨g_44, H⟩ := gdE H
                let v_45 : List api_Home := s_38.1 ++ ([(api_Home.mk (-1) (-1))] : List api_Home)
                replace H := ltD H
                obtain rfl := Option.some.inj H
                exact Runs.fin (T := tb) mixed [br h_42, apn api_Home.c 16 false s_38.1 ([(api_Home.mk (-1) (-1))] : List api_Home) s_38.2 g_43 g_44 (fun h => by cases h)] (by kernel_rfl)
              · have H := itF h_42 H
                obtain rfl := Option.some.inj H
                exact Runs.fin (T := tb) mixed [br h_42] (by kernel_rfl)) e_40
            obtain ⟨o_49, e_50, H⟩ := bdE H
            have j_51 := Runs.loop (P := Try.prog) (N := selvageref14_Homes.F.N) (m0 := 0) (c := sub_ selvageref14_Homes.F.c [1, 1, 1, 1, 1, 1, 1, 0, 1, 0, 0, 1, 0, 0, 1, 1, 1, 1, 0, 1, 0, 0]) (f := (selvageref14_Homes.l4 a_1 s_25)) (St := fun s_48 => ⟨[(0, .ro false 8 a_1.length (a_1.map api_Ins.c)), (2, .v (.int .i64 a_3)), (8, .sl 0 1 o_39.2 0 o_39.2), (9, .el 0 ((List.replicate 8 (0 : Int)).length) 0 0), (11, .v (.int .i64 s_25.2.2.2.1)), (12, .v (.int .i64 s_25.2.2.2.2)), (13, .v (.int .i64 v_35.D)), (14, .v (.int .i64 s_48.2.1)), (15, .v (.int .i64 s_48.2.2))], [.arr false 58 1 ((List.replicate 8 (0 : Int)).length) (s_48.1.map (cI .i64)), .arr true 30 2 o_39.2 (o_39.1.map api_Home.c)], []⟩) (xo := (fun _ => (.exit 6) : ((List Int) × Int) → Ex)) (So := (fun o_49 => ⟨[(0, .ro false 8 a_1.length (a_1.map api_Ins.c)), (2, .v (.int .i64 a_3)), (8, .sl 0 1 o_39.2 0 o_39.2), (9, .el 0 ((List.replicate 8 (0 : Int)).length) 0 0), (11, .v (.int .i64 s_25.2.2.2.1)), (12, .v (.int .i64 s_25.2.2.2.2)), (13, .v (.int .i64 v_35.D)), (14, .v (.int .i64 o_49.2))], [.arr false 58 1 ((List.replicate 8 (0 : Int)).length) (o_49.1.map (cI .i64)), .arr true 30 2 o_39.2 (o_39.1.map api_Home.c)], []⟩ : ((List Int) × Int) → ASt)) (by intro o; simp) (fun s_48 z H => by
              unfold selvageref14_Homes.l4 at H
              rcases b2 (decide (s_48.2.2 ≥ (0 : Int))) with h_52 | h_52
              · have H := itT h_52 H
                obtain ⟨g_53, H⟩ := gdE H
                obtain ⟨g_54, H⟩ := gdE H
                let v_55 : Int := gi s_48.1 s_48.2.2
                replace H := ltD H
                obtain ⟨o_56, e_57, H⟩ := bdE H
                have j_58 : Runs Try.prog selvageref14_Homes.F.N 0 (sub_ selvageref14_Homes.F.c [1, 1, 1, 1, 1, 1, 1, 0, 1, 0, 0, 1, 0, 0, 1, 1, 1, 1, 0, 1, 0, 0, 1, 0, 0, 0, 1]) ⟨[(0, .ro false 8 a_1.length (a_1.map api_Ins.c)), (2, .v (.int .i64 a_3)), (8, .sl 0 1 o_39.2 0 o_39.2), (9, .el 0 ((List.replicate 8 (0 : Int)).length) 0 0), (11, .v (.int .i64 s_25.2.2.2.1)), (12, .v (.int .i64 s_25.2.2.2.2)), (13, .v (.int .i64 v_35.D)), (14, .v (.int .i64 s_48.2.1)), (15, .v (.int .i64 s_48.2.2)), (74, .v (.bool (decide (v_55 ≥ (0 : Int)))))], [.arr false 58 1 ((List.replicate 8 (0 : Int)).length) (s_48.1.map (cI .i64)), .arr true 30 2 o_39.2 (o_39.1.map api_Home.c)], []⟩ ((fun _ => .normal : (List Int) → Ex) o_56) ((fun o_56 => ⟨[(0, .ro false 8 a_1.length (a_1.map api_Ins.c)), (2, .v (.int .i64 a_3)), (8, .sl 0 1 o_39.2 0 o_39.2), (9, .el 0 ((List.replicate 8 (0 : Int)).length) 0 0), (11, .v (.int .i64 s_25.2.2.2.1)), (12, .v (.int .i64 s_25.2.2.2.2)), (13, .v (.int .i64 v_35.D)), (14, .v (.int .i64 s_48.2.1)), (15, .v (.int .i64 s_48.2.2))], [.arr false 58 1 ((List.replicate 8 (0 : Int)).length) (o_56.map (cI .i64)), .arr true 30 2 o_39.2 (o_39.1.map api_Home.c)], []⟩ : (List Int) → ASt) o_56) := by
                  clear H
                  have H := e_57
                  clear e_57
                  rcases b2 (decide (v_55 ≥ (0 : Int))) with h_59 | h_59
                  · have H := itT h_59 H
                    let v_60 : Int := gi s_48.1 s_48.2.2
                    replace H := ltD H
                    obtain ⟨r_61, e_62, H⟩ := bdE H
                    rcases b2 (decide (r_61.2.1 < s_25.2.2.2.2)) with h_63 | h_63
                    · have H := itT h_63 H
                      let v_64 : List Int := s_48.1.set s_48.2.2.toNat (-1)
                      replace H := ltD H
                      obtain rfl := Option.some.inj H
                      exact Runs.fin (T := tb) mixed [br h_59, pf g_53, el (cI .i64) g_54, ca [] (selvageref14_Span.ev e_62), br h_63, pf g_53, up (cI .i64) 0 [.v (.int .i64 (-1))] (-1) g_54 (by kernel_rfl)] (by kernel_rfl)
                    · have H := itF h_63 H
                      obtain rfl := Option.some.inj H
                      exact Runs.fin (T := tb) mixed [br h_59, pf g_53, el (cI .i64) g_54, ca [] (selvageref14_Span.ev e_62), br h_63] (by kernel_rfl)
                  · have H := itF h_59 H
                    obtain rfl := Option.some.inj H
                    exact Runs.fin (T := tb) mixed [br h_59] (by kernel_rfl)
                obtain ⟨g_65, H⟩ := gdE H
                let v_66 : Int := gi o_56 s_48.2.2
                replace H := ltD H
                rcases b2 (decide (v_66 < (0 : Int))) with h_67 | h_67
                · have H := itT h_67 H
                  let v_68 : Int := wr .i64 (s_48.2.2 - (1 : Int))
                  replace H := ltD H
                  obtain rfl := Option.some.inj H
                  exact Runs.fin (T := tb) mixed [br h_52, pf g_53, el (cI .i64) g_54, sc_ j_58, pf g_53, el (cI .i64) g_65, br h_67] (by kernel_rfl)
                · have H := itF h_67 H
                  let v_69 : Int := wr .i64 (s_48.2.2 - (1 : Int))
                  replace H := ltD H
                  obtain rfl := Option.some.inj H
                  exact Runs.fin (T := tb) mixed [br h_52, pf g_53, el (cI .i64) g_54, sc_ j_58, pf g_53, el (cI .i64) g_65, br h_67] (by kernel_rfl)
              · have H := itF h_52 H
                obtain rfl := Option.some.inj H
                exact Runs.fin (T := tb) mixed [br h_52] (by kernel_rfl)) e_50
            rcases b2 (decide (o_49.2 ≥ (0 : Int))) with h_70 | h_70
            · have H := itT h_70 H
              obtain ⟨g_71, H⟩ := gdE H
              obtain ⟨g_72, H⟩ := gdE H
              let v_73 : List Int := o_49.1.set o_49.2.toNat v_35.D
              replace H := ltD H
              obtain ⟨g_74, H⟩ := gdE H
              obtain ⟨g_75, H⟩ := gdE H
              let v_76 : List api_Home := o_39.1.set v_35.D.toNat (api_Home.mk o_49.2 0)
              replace H := ltD H
              let v_77 : Int := wr .i64 (s_25.2.2.2.2 + (1 : Int))
              replace H := ltD H
              obtain rfl := Option.some.inj H
              exact Runs.fin (T := tb) mixed [br h_29, ix api_Ins.c g_30, ca [] (selvageref10_Has.ev e_33), bn h_34, ix api_Ins.c g_30, su j_41, su j_51, br h_70, pf g_71, up (cI .i64) 0 [.v (.int .i64 v_35.D)] v_35.D g_72 (by kernel_rfl), pf g_74, up api_Home.c 0 [.v (.int .i64 o_49.2), .v (.int .i64 0)] (api_Home.mk o_49.2 0) g_75 (by kernel_rfl)] (by kernel_rfl)
            · have H := itF h_70 H
              obtain ⟨o_81, e_82, H⟩ := bdE H
              have j_83 := Runs.loop (P := Try.prog) (N := selvageref14_Homes.F.N) (m0 := 0) (c := sub_ selvageref14_Homes.F.c [1, 1, 1, 1, 1, 1, 1, 0, 1, 0, 0, 1, 0, 0, 1, 1, 1, 1, 1, 1, 1, 0, 1, 0, 0]) (f := (selvageref14_Homes.l5 a_1 a_3 s_25 o_49)) (St := fun s_80 => ⟨[(0, .ro false 8 a_1.length (a_1.map api_Ins.c)), (2, .v (.int .i64 a_3)), (8, .sl 0 1 o_39.2 0 o_39.2), (9, .el 0 ((List.replicate 8 (0 : Int)).length) 0 0), (11, .v (.int .i64 s_25.2.2.2.1)), (12, .v (.int .i64 s_25.2.2.2.2)), (13, .v (.int .i64 v_35.D)), (19, .v (.int .i64 s_80.1)), (20, .v (.int .i64 s_80.2))], [.arr false 58 1 ((List.replicate 8 (0 : Int)).length) (o_49.1.map (cI .i64)), .arr true 30 2 o_39.2 (o_39.1.map api_Home.c)], []⟩) (xo := (fun _ => (.exit 8) : Int → Ex)) (So := (fun o_81 => ⟨[(0, .ro false 8 a_1.length (a_1.map api_Ins.c)), (2, .v (.int .i64 a_3)), (8, .sl 0 1 o_39.2 0 o_39.2), (9, .el 0 ((List.replicate 8 (0 : Int)).length) 0 0), (11, .v (.int .i64 s_25.2.2.2.1)), (12, .v (.int .i64 s_25.2.2.2.2)), (13, .v (.int .i64 v_35.D)), (19, .v (.int .i64 o_81))], [.arr false 58 1 ((List.replicate 8 (0 : Int)).length) (o_49.1.map (cI .i64)), .arr true 30 2 o_39.2 (o_39.1.map api_Home.c)], []⟩ : Int → ASt)) (by intro o; simp) (fun s_80 z H => by
                unfold selvageref14_Homes.l5 at H
                rcases b2 (decide (s_80.2 < s_25.2.2.2.2)) with h_84 | h_84
                · have H := itT h_84 H
                  obtain ⟨o_88, e_89, H⟩ := bdE H
                  have j_90 := Runs.loop (P := Try.prog) (N := selvageref14_Homes.F.N) (m0 := 0) (c := sub_ selvageref14_Homes.F.c [1, 1, 1, 1, 1, 1, 1, 0, 1, 0, 0, 1, 0, 0, 1, 1, 1, 1, 1, 1, 1, 0, 1, 0, 0, 1, 0, 0, 1, 0, 0]) (f := (selvageref14_Homes.l6 a_1 a_3 o_49 s_80)) (St := fun s_87 => ⟨[(0, .ro false 8 a_1.length (a_1.map api_Ins.c)), (2, .v (.int .i64 a_3)), (8, .sl 0 1 o_39.2 0 o_39.2), (9, .el 0 ((List.replicate 8 (0 : Int)).length) 0 0), (11, .v (.int .i64 s_25.2.2.2.1)), (12, .v (.int .i64 s_25.2.2.2.2)), (13, .v (.int .i64 v_35.D)), (19, .v (.int .i64 s_87.1)), (20, .v (.int .i64 s_80.2)), (21, .v (.int .i64 s_87.2))], [.arr false 58 1 ((List.replicate 8 (0 : Int)).length) (o_49.1.map (cI .i64)), .arr true 30 2 o_39.2 (o_39.1.map api_Home.c)], []⟩) (xo := (fun _ => (.exit 10) : Int → Ex)) (So := (fun o_88 => ⟨[(0, .ro false 8 a_1.length (a_1.map api_Ins.c)), (2, .v (.int .i64 a_3)), (8, .sl 0 1 o_39.2 0 o_39.2), (9, .el 0 ((List.replicate 8 (0 : Int)).length) 0 0), (11, .v (.int .i64 s_25.2.2.2.1)), (12, .v (.int .i64 s_25.2.2.2.2)), (13, .v (.int .i64 v_35.D)), (19, .v (.int .i64 o_88)), (20, .v (.int .i64 s_80.2))], [.arr false 58 1 ((List.replicate 8 (0 : Int)).length) (o_49.1.map (cI .i64)), .arr true 30 2 o_39.2 (o_39.1.map api_Home.c)], []⟩ : Int → ASt)) (by intro o; simp) (fun s_87 z H => by
                    unfold selvageref14_Homes.l6 at H
                    rcases b2 (decide (s_87.2 < a_3)) with h_91 | h_91
                    · have H := itT h_91 H
                      obtain ⟨o_92, e_93, H⟩ := bdE H
                      have j_94 : Runs Try.prog selvageref14_Homes.F.N 0 (sub_ selvageref14_Homes.F.c [1, 1, 1, 1, 1, 1, 1, 0, 1, 0, 0, 1, 0, 0, 1, 1, 1, 1, 1, 1, 1, 0, 1, 0, 0, 1, 0, 0, 1, 0, 0, 1, 0, 0, 0]) ⟨[(0, .ro false 8 a_1.length (a_1.map api_Ins.c)), (2, .v (.int .i64 a_3)), (8, .sl 0 1 o_39.2 0 o_39.2), (9, .el 0 ((List.replicate 8 (0 : Int)).length) 0 0), (11, .v (.int .i64 s_25.2.2.2.1)), (12, .v (.int .i64 s_25.2.2.2.2)), (13, .v (.int .i64 v_35.D)), (19, .v (.int .i64 s_87.1)), (20, .v (.int .i64 s_80.2)), (21, .v (.int .i64 s_87.2))], [.arr false 58 1 ((List.replicate 8 (0 : Int)).length) (o_49.1.map (cI .i64)), .arr true 30 2 o_39.2 (o_39.1.map api_Home.c)], []⟩ ((fun _ => .normal : Bool → Ex) o_92) ((fun o_92 => ⟨[(0, .ro false 8 a_1.length (a_1.map api_Ins.c)), (2, .v (.int .i64 a_3)), (8, .sl 0 1 o_39.2 0 o_39.2), (9, .el 0 ((List.replicate 8 (0 : Int)).length) 0 0), (11, .v (.int .i64 s_25.2.2.2.1)), (12, .v (.int .i64 s_25.2.2.2.2)), (13, .v (.int .i64 v_35.D)), (19, .v (.int .i64 s_87.1)), (20, .v (.int .i64 s_80.2)), (21, .v (.int .i64 s_87.2)), (149, .v (.bool o_92))], [.arr false 58 1 ((List.replicate 8 (0 : Int)).length) (o_49.1.map (cI .i64)), .arr true 30 2 o_39.2 (o_39.1.map api_Home.c)], []⟩ : Bool → ASt) o_92) := by
                        clear H
                        have H := e_93
                        clear e_93
                        obtain ⟨g_95, H⟩ := gdE H
                        let v_96 : api_Ins := gi a_1 s_80.2
                        replace H := ltD H
                        obtain ⟨r_97, e_98, H⟩ := bdE H
                        rcases b2 r_97 with h_99 | h_99
                        · have H := ibT h_99 H
                          let v_100 : api_Ins := gi a_1 s_80.2
                          replace H := ltD H
                          obtain ⟨g_101, H⟩ := gdE H
                          obtain ⟨g_102, H⟩ := gdE H
                          let v_103 : Int := gi o_49.1 s_87.2
                          replace H := ltD H
                          rcases b2 (decide (v_100.D = v_103)) with h_104 | h_104
                          · have H := itT h_104 H
                            rcases b2 (decide (s_87.1 < (0 : Int))) with h_105 | h_105
                            · have H := itT h_105 H
                              obtain rfl := Option.some.inj H
                              exact Runs.fin (T := tb) mixed [ix api_Ins.c g_95, ca [] (selvageref10_Has.ev e_98), br h_99, ix api_Ins.c g_95, pf g_101, el (cI .i64) g_102, pk (rfl : true = true), br h_104, br h_105, pk (rfl : true = true), pk (rfl : true = true)] (by kernel_rfl)
                            · have H := itF h_105 H
                              let v_106 : Int := gi o_49.1 s_87.2
                              replace H := ltD H
                              obtain ⟨r_107, e_108, H⟩ := bdE H
                              obtain ⟨r_109, e_110, H⟩ := bdE H
                              obtain ⟨g_111, H⟩ := gdE H
                              obtain ⟨g_112, H⟩ := gdE H
                              let v_113 : Int := gi o_49.1 s_87.1
                              replace H := ltD H
                              obtain ⟨r_114, e_115, H⟩ := bdE H
                              obtain ⟨r_116, e_117, H⟩ := bdE H
                              obtain rfl := Option.some.inj H
                              exact Runs.fin (T := tb) mixed [ix api_Ins.c g_95, ca [] (selvageref10_Has.ev e_98), br h_99, ix api_Ins.c g_95, pf g_101, el (cI .i64) g_102, pk (rfl : true = true), br h_104, br h_105, pf g_101, el (cI .i64) g_102, ca [] (selvageref14_weightOf.ev e_108), ca [] (selvageref03_Rank.ev e_110), pf g_111, el (cI .i64) g_112, ca [] (selvageref14_weightOf.ev e_115), ca [] (selvageref03_Rank.ev e_117), pk (rfl : false = false), pk (rfl : true = true)] (by kernel_rfl)
                          · have H := itF h_104 H
                            obtain rfl := Option.some.inj H
                            exact Runs.fin (T := tb) mixed [ix api_Ins.c g_95, ca [] (selvageref10_Has.ev e_98), br h_99, ix api_Ins.c g_95, pf g_101, el (cI .i64) g_102, pk (rfl : true = true), br h_104, pk (rfl : false = false)] (by kernel_rfl)
                        · have H := ibF h_99 H
                          obtain rfl := Option.some.inj H
                          exact Runs.fin (T := tb) mixed [ix api_Ins.c g_95, ca [] (selvageref10_Has.ev e_98), br h_99, pk (rfl : false = false), au, pk (rfl : false = false)] (by kernel_rfl)
                      rcases b2 o_92 with h_118 | h_118
                      · have H := ibT h_118 H
                        let v_119 : Int := wr .i64 (s_87.2 + (1 : Int))
                        replace H := ltD H
                        obtain rfl := Option.some.inj H
                        exact Runs.fin (T := tb) mixed [br h_91, sg_ 39 j_94, br h_118] (by kernel_rfl)
                      · have H := ibF h_118 H
                        let v_120 : Int := wr .i64 (s_87.2 + (1 : Int))
                        replace H := ltD H
                        obtain rfl := Option.some.inj H
                        exact Runs.fin (T := tb) mixed [br h_91, sg_ 39 j_94, br h_118] (by kernel_rfl)
                    · have H := itF h_91 H
                      obtain rfl := Option.some.inj H
                      exact Runs.fin (T := tb) mixed [br h_91] (by kernel_rfl)) e_89
                  let v_121 : Int := wr .i64 (s_80.2 + (1 : Int))
                  replace H := ltD H
                  obtain rfl := Option.some.inj H
                  exact Runs.fin (T := tb) mixed [br h_84, su j_90] (by kernel_rfl)
                · have H := itF h_84 H
                  obtain rfl := Option.some.inj H
                  exact Runs.fin (T := tb) mixed [br h_84] (by kernel_rfl)) e_82
              let v_122 : Int := wr .i64 (s_25.2.2.2.1 + (1 : Int))
              replace H := ltD H
              obtain ⟨r_123, e_124, H⟩ := bdE H
              obtain ⟨r_125, e_126, H⟩ := bdE H
              obtain ⟨g_127, H⟩ := gdE H
              obtain ⟨g_128, H⟩ := gdE H
              let v_129 : Int := gi o_49.1 o_81
              replace H := ltD H
              obtain ⟨r_130, e_131, H⟩ := bdE H
              obtain ⟨r_132, e_133, H⟩ := bdE H
              rcases b2 (decide (r_125 < r_132)) with h_134 | h_134
              · have H := itT h_134 H
                obtain ⟨g_135, H⟩ := gdE H
                obtain ⟨g_136, H⟩ := gdE H
                let v_137 : List api_Home := o_39.1.set v_35.D.toNat (api_Home.mk (-1) s_25.2.2.2.1)
                replace H := ltD H
                let v_138 : Int := wr .i64 (s_25.2.2.2.2 + (1 : Int))
                replace H := ltD H
                obtain rfl := Option.some.inj H
                exact Runs.fin (T := tb) mixed [br h_29, ix api_Ins.c g_30, ca [] (selvageref10_Has.ev e_33), bn h_34, ix api_Ins.c g_30, su j_41, su j_51, br h_70, su j_83, ca [] (selvageref14_weightOf.ev e_124), ca [] (selvageref03_Rank.ev e_126), pf g_127, el (cI .i64) g_128, ca [] (selvageref14_weightOf.ev e_131), ca [] (selvageref03_Rank.ev e_133), br h_134, pf g_135, up api_Home.c 0 [.v (.int .i64 (-1)), .v (.int .i64 s_25.2.2.2.1)] (api_Home.mk (-1) s_25.2.2.2.1) g_136 (by kernel_rfl)] (by kernel_rfl)
              · have H := itF h_134 H
                let v_139 : Int := gi o_49.1 o_81
                replace H := ltD H
                obtain ⟨g_140, H⟩ := gdE H
                obtain ⟨g_141, H⟩ := gdE H
                let v_142 : List api_Home := o_39.1.set v_139.toNat (api_Home.mk (-1) s_25.2.2.2.1)
                replace H := ltD H
                obtain ⟨g_143, H⟩ := gdE H
                obtain ⟨g_144, H⟩ := gdE H
                let v_145 : List api_Home := v_142.set v_35.D.toNat (api_Home.mk o_81 0)
                replace H := ltD H
                let v_146 : List Int := o_49.1.set o_81.toNat v_35.D
                replace H := ltD H
                let v_147 : Int := wr .i64 (s_25.2.2.2.2 + (1 : Int))
                replace H := ltD H
                obtain rfl := Option.some.inj H
                exact Runs.fin (T := tb) mixed [br h_29, ix api_Ins.c g_30, ca [] (selvageref10_Has.ev e_33), bn h_34, ix api_Ins.c g_30, su j_41, su j_51, br h_70, su j_83, ca [] (selvageref14_weightOf.ev e_124), ca [] (selvageref03_Rank.ev e_126), pf g_127, el (cI .i64) g_128, ca [] (selvageref14_weightOf.ev e_131), ca [] (selvageref03_Rank.ev e_133), br h_134, pf g_127, el (cI .i64) g_128, pf g_140, up api_Home.c 0 [.v (.int .i64 (-1)), .v (.int .i64 s_25.2.2.2.1)] (api_Home.mk (-1) s_25.2.2.2.1) g_141 (by kernel_rfl), pf g_143, up api_Home.c 0 [.v (.int .i64 o_81), .v (.int .i64 0)] (api_Home.mk o_81 0) g_144 (by kernel_rfl), pf g_127, up (cI .i64) 0 [.v (.int .i64 v_35.D)] v_35.D g_128 (by kernel_rfl)] (by kernel_rfl)
          · have H := ibF h_34 H
            let v_148 : Int := wr .i64 (s_25.2.2.2.2 + (1 : Int))
            replace H := ltD H
            obtain rfl := Option.some.inj H
            exact Runs.fin (T := tb) mixed [br h_29, ix api_Ins.c g_30, ca [] (selvageref10_Has.ev e_33), bn h_34] (by kernel_rfl)
        · have H := itF h_29 H
          obtain rfl := Option.some.inj H
          exact Runs.fin (T := tb) mixed [br h_29] (by kernel_rfl)) e_27
      obtain rfl := Option.some.inj H
      exact selvageref14_Homes.F.run tb mixed [ca [] (selvageref10_Right.ev e_5), bn h_6, sg_ 3 j_9, br h_11, on_ 9 (na (cI .i64) (0 : Int) 8 1 rfl), su j_17, su j_28, adL 8 (some 30) 2] rfl (by kernel_rfl)
  · have H := ibF h_6 H
    obtain rfl := Option.some.inj H
    exact selvageref14_Homes.F.run tb mixed [ca [] (selvageref10_Right.ev e_5), bn h_6] rfl (by kernel_rfl)
end Go.Proofs.Ytgjibbicplbgbaa
set_option maxRecDepth 100000
namespace Go.Proofs.Ytgjibbicplbgbaa
open Go Go.RowKit Go.Proofs Go.Proofs.Ytgjibbicplbgbaa.X
open Go.Proofs.Ytgjibbicplbgbaa.B (wr sb feq fls qf flt i2f aget aset isnan isnan_flt)
noncomputable def selvageref14_Same_2.F : FI Try.prog 13 := ⟨Try.f13, 26, (Try.f13.body.getD .skip), Try.f13.results.toList, Try.call13, Try.func13, by kernel_rfl, by kernel_rfl, by kernel_rfl⟩
def selvageref14_Same_2.l1 (a_1 : List api_Home) (a_2 : List api_Home) (s_6 : Int) : Option (Int ⊕ (Unit ⊕ Unit)) :=
  if s_6 < (a_1.length : Int) then (if 0 ≤ s_6 ∧ s_6 < (a_1.length : Int) then (letC (gi a_1 s_6) fun v_14 => if 0 ≤ s_6 ∧ s_6 < (a_2.length : Int) then (letC (gi a_2 s_6) fun v_16 => if ((v_14.Reg == v_16.Reg) && ((v_14.Slot == v_16.Slot) && true)) = true then (some (Sum.inl (wr .i64 (s_6 + (1 : Int))))) else (some (Sum.inr (Sum.inl ())))) else none) else none) else (some (Sum.inr (Sum.inr ())))
def selvageref14_Same_2.m (a_1 : List api_Home) (a_2 : List api_Home) : Option (Bool) :=
  if (a_1.length : Int) = (a_2.length : Int) then ((B.loop (selvageref14_Same_2.l1 a_1 a_2) (0 : Int)).bind fun o_7 => match o_7 with | Sum.inl s_10 => (some false) | Sum.inr (s_11) => (some true)) else (some false)
noncomputable def selvageref14_Same_2.o (a_1 : List api_Home) (a_2 : List api_Home) (r : Bool) : Out := .ret (.v (.bool r)) [] []
theorem selvageref14_Same_2.ev {a_1 : List api_Home} {a_2 : List api_Home} {r : Bool} (H : selvageref14_Same_2.m a_1 a_2 = some r) : Ev Try.prog 13 [.ro false 2 a_1.length (a_1.map api_Home.c), .ro false 2 a_2.length (a_2.map api_Home.c)] [] [] (selvageref14_Same_2.o a_1 a_2 r) := by
  unfold selvageref14_Same_2.m at H
  rcases b2 (decide ((a_1.length : Int) = (a_2.length : Int))) with h_3 | h_3
  · have H := itT h_3 H
    obtain ⟨o_7, e_8, H⟩ := bdE H
    have j_9 := Runs.loop (P := Try.prog) (N := selvageref14_Same_2.F.N) (m0 := 0) (c := sub_ selvageref14_Same_2.F.c [1, 1, 0, 1, 0, 0]) (f := (selvageref14_Same_2.l1 a_1 a_2)) (St := fun s_6 => ⟨[(0, .ro false 2 a_1.length (a_1.map api_Home.c)), (1, .ro false 2 a_2.length (a_2.map api_Home.c)), (5, .v (.int .i64 s_6))], [], []⟩) (xo := (fun o => match o with | Sum.inl _ => .ret | Sum.inr (_) => (.exit 0) : (Unit ⊕ Unit) → Ex)) (So := (fun o => match o with | Sum.inl s_10 => ⟨[(4, .v (.bool false))], [], []⟩ | Sum.inr (s_11) => ⟨[], [], []⟩ : (Unit ⊕ Unit) → ASt)) (by intro o; rcases o with _ | _ <;> simp) (fun s_6 z H => by
      unfold selvageref14_Same_2.l1 at H
      rcases b2 (decide (s_6 < (a_1.length : Int))) with h_12 | h_12
      · have H := itT h_12 H
        obtain ⟨g_13, H⟩ := gdE H
        let v_14 : api_Home := gi a_1 s_6
        replace H := ltD H
        obtain ⟨g_15, H⟩ := gdE H
        let v_16 : api_Home := gi a_2 s_6
        replace H := ltD H
        rcases b2 ((v_14.Reg == v_16.Reg) && ((v_14.Slot == v_16.Slot) && true)) with h_17 | h_17
        · have H := ibT h_17 H
          obtain rfl := Option.some.inj H
          exact Runs.fin (T := tb) mixed [br h_12, ix api_Home.c g_13, ix api_Home.c g_15, eqs (P := Try.prog) (xt := 30) ⟨by kernel_rfl, by kernel_rfl⟩, bn h_17] (by kernel_rfl)
        · have H := ibF h_17 H
          obtain rfl := Option.some.inj H
          exact Runs.fin (T := tb) mixed [br h_12, ix api_Home.c g_13, ix api_Home.c g_15, eqs (P := Try.prog) (xt := 30) ⟨by kernel_rfl, by kernel_rfl⟩, bn h_17] (by kernel_rfl)
      · have H := itF h_12 H
        obtain rfl := Option.some.inj H
        exact Runs.fin (T := tb) mixed [br h_12] (by kernel_rfl)) e_8
    rcases o_7 with s_10 | s_11
    · obtain rfl := Option.some.inj H
      exact selvageref14_Same_2.F.run tb mixed [bn h_3, su j_9] rfl (by kernel_rfl)
    · obtain rfl := Option.some.inj H
      exact selvageref14_Same_2.F.run tb mixed [bn h_3, su j_9] rfl (by kernel_rfl)
  · have H := itF h_3 H
    obtain rfl := Option.some.inj H
    exact selvageref14_Same_2.F.run tb mixed [bn h_3] rfl (by kernel_rfl)
end Go.Proofs.Ytgjibbicplbgbaa
set_option maxRecDepth 100000
namespace Go.Proofs.Ytgjibbicplbgbaa
open Go Go.RowKit Go.Proofs Go.Proofs.Ytgjibbicplbgbaa.X
open Go.Proofs.Ytgjibbicplbgbaa.B (wr sb feq fls qf flt i2f aget aset isnan isnan_flt)
noncomputable def selvageref14_Same_3.F : FI Try.prog 13 := ⟨Try.f13, 26, (Try.f13.body.getD .skip), Try.f13.results.toList, Try.call13, Try.func13, by kernel_rfl, by kernel_rfl, by kernel_rfl⟩
def selvageref14_Same_3.l1 (a_1 : List api_Home) (a_2 : List api_Home) (a_3 : Nat) (s_7 : Int) : Option (Int ⊕ (Unit ⊕ Unit)) :=
  if s_7 < (a_1.length : Int) then (if 0 ≤ s_7 ∧ s_7 < (a_1.length : Int) then (letC (gi a_1 s_7) fun v_15 => if 0 ≤ s_7 ∧ s_7 < (a_3 : Int) then (if 0 ≤ s_7 ∧ s_7 < (a_2.length : Int) then (letC (gi a_2 s_7) fun v_18 => if ((v_15.Reg == v_18.Reg) && ((v_15.Slot == v_18.Slot) && true)) = true then (some (Sum.inl (wr .i64 (s_7 + (1 : Int))))) else (some (Sum.inr (Sum.inl ())))) else none) else none) else none) else (some (Sum.inr (Sum.inr ())))
def selvageref14_Same_3.m (a_1 : List api_Home) (a_2 : List api_Home) (a_3 : Nat) : Option (Bool) :=
  if (a_1.length : Int) = (a_3 : Int) then ((B.loop (selvageref14_Same_3.l1 a_1 a_2 a_3) (0 : Int)).bind fun o_8 => match o_8 with | Sum.inl s_11 => (some false) | Sum.inr (s_12) => (some true)) else (some false)
noncomputable def selvageref14_Same_3.o (a_1 : List api_Home) (a_2 : List api_Home) (a_3 : Nat) (r : Bool) : Out := .ret (.v (.bool r)) [.arr true 30 2 a_3 (a_2.map api_Home.c)] []
theorem selvageref14_Same_3.ev {a_1 : List api_Home} {a_2 : List api_Home} {a_3 : Nat} {r : Bool} (H : selvageref14_Same_3.m a_1 a_2 a_3 = some r) : Ev Try.prog 13 [.ro false 2 a_1.length (a_1.map api_Home.c), .sl 0 0 a_3 0 a_3] [.arr true 30 2 a_3 (a_2.map api_Home.c)] [] (selvageref14_Same_3.o a_1 a_2 a_3 r) := by
  unfold selvageref14_Same_3.m at H
  rcases b2 (decide ((a_1.length : Int) = (a_3 : Int))) with h_4 | h_4
  · have H := itT h_4 H
    obtain ⟨o_8, e_9, H⟩ := bdE H
    have j_10 := Runs.loop (P := Try.prog) (N := selvageref14_Same_3.F.N) (m0 := 1) (c := sub_ selvageref14_Same_3.F.c [1, 1, 0, 1, 0, 0]) (f := (selvageref14_Same_3.l1 a_1 a_2 a_3)) (St := fun s_7 => ⟨[(0, .ro false 2 a_1.length (a_1.map api_Home.c)), (1, .sl 0 0 a_3 0 a_3), (5, .v (.int .i64 s_7))], [.arr true 30 2 a_3 (a_2.map api_Home.c)], []⟩) (xo := (fun o => match o with | Sum.inl _ => .ret | Sum.inr (_) => (.exit 0) : (Unit ⊕ Unit) → Ex)) (So := (fun o => match o with | Sum.inl s_11 => ⟨[(4, .v (.bool false))], [.arr true 30 2 a_3 (a_2.map api_Home.c)], []⟩ | Sum.inr (s_12) => ⟨[], [.arr true 30 2 a_3 (a_2.map api_Home.c)], []⟩ : (Unit ⊕ Unit) → ASt)) (by intro o; rcases o with _ | _ <;> simp) (fun s_7 z H => by
      unfold selvageref14_Same_3.l1 at H
      rcases b2 (decide (s_7 < (a_1.length : Int))) with h_13 | h_13
      · have H := itT h_13 H
        obtain ⟨g_14, H⟩ := gdE H
        let v_15 : api_Home := gi a_1 s_7
        replace H := ltD H
        obtain ⟨g_16, H⟩ := gdE H
        obtain ⟨g_17, H⟩ := gdE H
        let v_18 : api_Home := gi a_2 s_7
        replace H := ltD H
        rcases b2 ((v_15.Reg == v_18.Reg) && ((v_15.Slot == v_18.Slot) && true)) with h_19 | h_19
        · have H := ibT h_19 H
          obtain rfl := Option.some.inj H
          exact Runs.fin (T := tb) mixed [br h_13, ix api_Home.c g_14, pf g_16, el api_Home.c g_17, eqs (P := Try.prog) (xt := 30) ⟨by kernel_rfl, by kernel_rfl⟩, bn h_19] (by kernel_rfl)
        · have H := ibF h_19 H
          obtain rfl := Option.some.inj H
          exact Runs.fin (T := tb) mixed [br h_13, ix api_Home.c g_14, pf g_16, el api_Home.c g_17, eqs (P := Try.prog) (xt := 30) ⟨by kernel_rfl, by kernel_rfl⟩, bn h_19] (by kernel_rfl)
      · have H := itF h_13 H
        obtain rfl := Option.some.inj H
        exact Runs.fin (T := tb) mixed [br h_13] (by kernel_rfl)) e_9
    rcases o_8 with s_11 | s_12
    · obtain rfl := Option.some.inj H
      exact selvageref14_Same_3.F.run tb mixed [bn h_4, su j_10] rfl (by kernel_rfl)
    · obtain rfl := Option.some.inj H
      exact selvageref14_Same_3.F.run tb mixed [bn h_4, su j_10] rfl (by kernel_rfl)
  · have H := itF h_4 H
    obtain rfl := Option.some.inj H
    exact selvageref14_Same_3.F.run tb mixed [bn h_4] rfl (by kernel_rfl)
end Go.Proofs.Ytgjibbicplbgbaa
set_option maxRecDepth 100000
namespace Go.Proofs.Ytgjibbicplbgbaa
open Go Go.RowKit Go.Proofs Go.Proofs.Ytgjibbicplbgbaa.X
open Go.Proofs.Ytgjibbicplbgbaa.B (wr sb feq fls qf flt i2f aget aset isnan isnan_flt)
noncomputable def selvageref14_Same_4.F : FI Try.prog 13 := ⟨Try.f13, 26, (Try.f13.body.getD .skip), Try.f13.results.toList, Try.call13, Try.func13, by kernel_rfl, by kernel_rfl, by kernel_rfl⟩
def selvageref14_Same_4.l1 (a_1 : List api_Home) (a_2 : List api_Home) (a_3 : Nat) (s_7 : Int) : Option (Int ⊕ (Unit ⊕ Unit)) :=
  if s_7 < (a_3 : Int) then (if 0 ≤ s_7 ∧ s_7 < (a_3 : Int) then (if 0 ≤ s_7 ∧ s_7 < (a_2.length : Int) then (letC (gi a_2 s_7) fun v_16 => if 0 ≤ s_7 ∧ s_7 < (a_1.length : Int) then (letC (gi a_1 s_7) fun v_18 => if ((v_16.Reg == v_18.Reg) && ((v_16.Slot == v_18.Slot) && true)) = true then (some (Sum.inl (wr .i64 (s_7 + (1 : Int))))) else (some (Sum.inr (Sum.inl ())))) else none) else none) else none) else (some (Sum.inr (Sum.inr ())))
def selvageref14_Same_4.m (a_1 : List api_Home) (a_2 : List api_Home) (a_3 : Nat) : Option (Bool) :=
  if (a_3 : Int) = (a_1.length : Int) then ((B.loop (selvageref14_Same_4.l1 a_1 a_2 a_3) (0 : Int)).bind fun o_8 => match o_8 with | Sum.inl s_11 => (some false) | Sum.inr (s_12) => (some true)) else (some false)
noncomputable def selvageref14_Same_4.o (a_1 : List api_Home) (a_2 : List api_Home) (a_3 : Nat) (r : Bool) : Out := .ret (.v (.bool r)) [.arr true 30 2 a_3 (a_2.map api_Home.c)] []
theorem selvageref14_Same_4.ev {a_1 : List api_Home} {a_2 : List api_Home} {a_3 : Nat} {r : Bool} (H : selvageref14_Same_4.m a_1 a_2 a_3 = some r) : Ev Try.prog 13 [.sl 0 0 a_3 0 a_3, .ro false 2 a_1.length (a_1.map api_Home.c)] [.arr true 30 2 a_3 (a_2.map api_Home.c)] [] (selvageref14_Same_4.o a_1 a_2 a_3 r) := by
  unfold selvageref14_Same_4.m at H
  rcases b2 (decide ((a_3 : Int) = (a_1.length : Int))) with h_4 | h_4
  · have H := itT h_4 H
    obtain ⟨o_8, e_9, H⟩ := bdE H
    have j_10 := Runs.loop (P := Try.prog) (N := selvageref14_Same_4.F.N) (m0 := 1) (c := sub_ selvageref14_Same_4.F.c [1, 1, 0, 1, 0, 0]) (f := (selvageref14_Same_4.l1 a_1 a_2 a_3)) (St := fun s_7 => ⟨[(0, .sl 0 0 a_3 0 a_3), (1, .ro false 2 a_1.length (a_1.map api_Home.c)), (5, .v (.int .i64 s_7))], [.arr true 30 2 a_3 (a_2.map api_Home.c)], []⟩) (xo := (fun o => match o with | Sum.inl _ => .ret | Sum.inr (_) => (.exit 0) : (Unit ⊕ Unit) → Ex)) (So := (fun o => match o with | Sum.inl s_11 => ⟨[(4, .v (.bool false))], [.arr true 30 2 a_3 (a_2.map api_Home.c)], []⟩ | Sum.inr (s_12) => ⟨[], [.arr true 30 2 a_3 (a_2.map api_Home.c)], []⟩ : (Unit ⊕ Unit) → ASt)) (by intro o; rcases o with _ | _ <;> simp) (fun s_7 z H => by
      unfold selvageref14_Same_4.l1 at H
      rcases b2 (decide (s_7 < (a_3 : Int))) with h_13 | h_13
      · have H := itT h_13 H
        obtain ⟨g_14, H⟩ := gdE H
        obtain ⟨g_15, H⟩ := gdE H
        let v_16 : api_Home := gi a_2 s_7
        replace H := ltD H
        obtain ⟨g_17, H⟩ := gdE H
        let v_18 : api_Home := gi a_1 s_7
        replace H := ltD H
        rcases b2 ((v_16.Reg == v_18.Reg) && ((v_16.Slot == v_18.Slot) && true)) with h_19 | h_19
        · have H := ibT h_19 H
          obtain rfl := Option.some.inj H
          exact Runs.fin (T := tb) mixed [br h_13, pf g_14, el api_Home.c g_15, ix api_Home.c g_17, eqs (P := Try.prog) (xt := 30) ⟨by kernel_rfl, by kernel_rfl⟩, bn h_19] (by kernel_rfl)
        · have H := ibF h_19 H
          obtain rfl := Option.some.inj H
          exact Runs.fin (T := tb) mixed [br h_13, pf g_14, el api_Home.c g_15, ix api_Home.c g_17, eqs (P := Try.prog) (xt := 30) ⟨by kernel_rfl, by kernel_rfl⟩, bn h_19] (by kernel_rfl)
      · have H := itF h_13 H
        obtain rfl := Option.some.inj H
        exact Runs.fin (T := tb) mixed [br h_13] (by kernel_rfl)) e_9
    rcases o_8 with s_11 | s_12
    · obtain rfl := Option.some.inj H
      exact selvageref14_Same_4.F.run tb mixed [bn h_4, su j_10] rfl (by kernel_rfl)
    · obtain rfl := Option.some.inj H
      exact selvageref14_Same_4.F.run tb mixed [bn h_4, su j_10] rfl (by kernel_rfl)
  · have H := itF h_4 H
    obtain rfl := Option.some.inj H
    exact selvageref14_Same_4.F.run tb mixed [bn h_4] rfl (by kernel_rfl)
end Go.Proofs.Ytgjibbicplbgbaa
set_option maxRecDepth 100000
namespace Go.Proofs.Ytgjibbicplbgbaa
open Go Go.RowKit Go.Proofs Go.Proofs.Ytgjibbicplbgbaa.X
open Go.Proofs.Ytgjibbicplbgbaa.B (wr sb feq fls qf flt i2f aget aset isnan isnan_flt)
noncomputable def selvageref14_Same_5.F : FI Try.prog 13 := ⟨Try.f13, 26, (Try.f13.body.getD .skip), Try.f13.results.toList, Try.call13, Try.func13, by kernel_rfl, by kernel_rfl, by kernel_rfl⟩
def selvageref14_Same_5.l1 (a_1 : List api_Home) (a_2 : Nat) (a_3 : List api_Home) (a_4 : Nat) (s_8 : Int) : Option (Int ⊕ (Unit ⊕ Unit)) :=
  if s_8 < (a_2 : Int) then (if 0 ≤ s_8 ∧ s_8 < (a_2 : Int) then (if 0 ≤ s_8 ∧ s_8 < (a_1.length : Int) then (letC (gi a_1 s_8) fun v_17 => if 0 ≤ s_8 ∧ s_8 < (a_4 : Int) then (if 0 ≤ s_8 ∧ s_8 < (a_3.length : Int) then (letC (gi a_3 s_8) fun v_20 => if ((v_17.Reg == v_20.Reg) && ((v_17.Slot == v_20.Slot) && true)) = true then (some (Sum.inl (wr .i64 (s_8 + (1 : Int))))) else (some (Sum.inr (Sum.inl ())))) else none) else none) else none) else none) else (some (Sum.inr (Sum.inr ())))
def selvageref14_Same_5.m (a_1 : List api_Home) (a_2 : Nat) (a_3 : List api_Home) (a_4 : Nat) : Option (Bool) :=
  if (a_2 : Int) = (a_4 : Int) then ((B.loop (selvageref14_Same_5.l1 a_1 a_2 a_3 a_4) (0 : Int)).bind fun o_9 => match o_9 with | Sum.inl s_12 => (some false) | Sum.inr (s_13) => (some true)) else (some false)
noncomputable def selvageref14_Same_5.o (a_1 : List api_Home) (a_2 : Nat) (a_3 : List api_Home) (a_4 : Nat) (r : Bool) : Out := .ret (.v (.bool r)) [.arr true 30 2 a_2 (a_1.map api_Home.c), .arr true 30 2 a_4 (a_3.map api_Home.c)] []
theorem selvageref14_Same_5.ev {a_1 : List api_Home} {a_2 : Nat} {a_3 : List api_Home} {a_4 : Nat} {r : Bool} (H : selvageref14_Same_5.m a_1 a_2 a_3 a_4 = some r) : Ev Try.prog 13 [.sl 0 0 a_2 0 a_2, .sl 0 1 a_4 0 a_4] [.arr true 30 2 a_2 (a_1.map api_Home.c), .arr true 30 2 a_4 (a_3.map api_Home.c)] [] (selvageref14_Same_5.o a_1 a_2 a_3 a_4 r) := by
  unfold selvageref14_Same_5.m at H
  rcases b2 (decide ((a_2 : Int) = (a_4 : Int))) with h_5 | h_5
  · have H := itT h_5 H
    obtain ⟨o_9, e_10, H⟩ := bdE H
    have j_11 := Runs.loop (P := Try.prog) (N := selvageref14_Same_5.F.N) (m0 := 2) (c := sub_ selvageref14_Same_5.F.c [1, 1, 0, 1, 0, 0]) (f := (selvageref14_Same_5.l1 a_1 a_2 a_3 a_4)) (St := fun s_8 => ⟨[(0, .sl 0 0 a_2 0 a_2), (1, .sl 0 1 a_4 0 a_4), (5, .v (.int .i64 s_8))], [.arr true 30 2 a_2 (a_1.map api_Home.c), .arr true 30 2 a_4 (a_3.map api_Home.c)], []⟩) (xo := (fun o => match o with | Sum.inl _ => .ret | Sum.inr (_) => (.exit 0) : (Unit ⊕ Unit) → Ex)) (So := (fun o => match o with | Sum.inl s_12 => ⟨[(4, .v (.bool false))], [.arr true 30 2 a_2 (a_1.map api_Home.c), .arr true 30 2 a_4 (a_3.map api_Home.c)], []⟩ | Sum.inr (s_13) => ⟨[], [.arr true 30 2 a_2 (a_1.map api_Home.c), .arr true 30 2 a_4 (a_3.map api_Home.c)], []⟩ : (Unit ⊕ Unit) → ASt)) (by intro o; rcases o with _ | _ <;> simp) (fun s_8 z H => by
      unfold selvageref14_Same_5.l1 at H
      rcases b2 (decide (s_8 < (a_2 : Int))) with h_14 | h_14
      · have H := itT h_14 H
        obtain ⟨g_15, H⟩ := gdE H
        obtain ⟨g_16, H⟩ := gdE H
        let v_17 : api_Home := gi a_1 s_8
        replace H := ltD H
        obtain ⟨g_18, H⟩ := gdE H
        obtain ⟨g_19, H⟩ := gdE H
        let v_20 : api_Home := gi a_3 s_8
        replace H := ltD H
        rcases b2 ((v_17.Reg == v_20.Reg) && ((v_17.Slot == v_20.Slot) && true)) with h_21 | h_21
        · have H := ibT h_21 H
          obtain rfl := Option.some.inj H
          exact Runs.fin (T := tb) mixed [br h_14, pf g_15, el api_Home.c g_16, pf g_18, el api_Home.c g_19, eqs (P := Try.prog) (xt := 30) ⟨by kernel_rfl, by kernel_rfl⟩, bn h_21] (by kernel_rfl)
        · have H := ibF h_21 H
          obtain rfl := Option.some.inj H
          exact Runs.fin (T := tb) mixed [br h_14, pf g_15, el api_Home.c g_16, pf g_18, el api_Home.c g_19, eqs (P := Try.prog) (xt := 30) ⟨by kernel_rfl, by kernel_rfl⟩, bn h_21] (by kernel_rfl)
      · have H := itF h_14 H
        obtain rfl := Option.some.inj H
        exact Runs.fin (T := tb) mixed [br h_14] (by kernel_rfl)) e_10
    rcases o_9 with s_12 | s_13
    · obtain rfl := Option.some.inj H
      exact selvageref14_Same_5.F.run tb mixed [bn h_5, su j_11] rfl (by kernel_rfl)
    · obtain rfl := Option.some.inj H
      exact selvageref14_Same_5.F.run tb mixed [bn h_5, su j_11] rfl (by kernel_rfl)
  · have H := itF h_5 H
    obtain rfl := Option.some.inj H
    exact selvageref14_Same_5.F.run tb mixed [bn h_5] rfl (by kernel_rfl)
end Go.Proofs.Ytgjibbicplbgbaa
set_option maxRecDepth 100000
namespace Go.Proofs.Ytgjibbicplbgbaa
open Go Go.RowKit Go.Proofs Go.Proofs.Ytgjibbicplbgbaa.X
open Go.Proofs.Ytgjibbicplbgbaa.B (wr sb feq fls qf flt i2f aget aset isnan isnan_flt)
noncomputable def selvagelaw14_AllocAll.F : FI Try.prog 4 := ⟨Try.f4, 80, (Try.f4.body.getD .skip), Try.f4.results.toList, Try.call4, Try.func4, by kernel_rfl, by kernel_rfl, by kernel_rfl⟩
def selvagelaw14_AllocAll.m (a_1 : List api_Ins) (a_2 : List api_Loc) (a_3 : Int) (a_4 : Int) : Option (Bool) :=
  (selvagelaw14_awake.m).bind fun r_5 => if r_5 = true then ((if (a_1.length : Int) > (120 : Int) then (some (true : Bool)) else (some ((decide ((a_2.length : Int) > (16 : Int))) : Bool)) : Option Bool).bind fun o_8 => if o_8 = true then (some true) else ((alloc_Span.m a_1 a_4).bind fun r_13 => (selvageref14_Span.m a_1 a_4).bind fun r_15 => (alloc_Homes.m a_1 a_2 a_3).bind fun r_17 => match r_17 with | Sum.inl r_19 => ((selvageref14_Homes.m a_1 a_2 a_3).bind fun r_21 => match r_21 with | Sum.inl r_23 => (if r_13.1 = r_15.1 then (if r_13.2.1 = r_15.2.1 then (if (r_13.2.2 == r_15.2.2) = true then (if r_19 = r_23 then ((selvageref14_Same_2.m ([] : List api_Home) ([] : List api_Home)).bind fun r_29 => some r_29) else (some false)) else (some false)) else (some false)) else (some false)) | Sum.inr (r_24) => (if r_13.1 = r_15.1 then (if r_13.2.1 = r_15.2.1 then (if (r_13.2.2 == r_15.2.2) = true then (if r_19 = (0 : Int) then ((selvageref14_Same_3.m ([] : List api_Home) r_24.1 r_24.2).bind fun r_35 => some r_35) else (some false)) else (some false)) else (some false)) else (some false))) | Sum.inr (r_20) => ((selvageref14_Homes.m a_1 a_2 a_3).bind fun r_37 => match r_37 with | Sum.inl r_39 => (if r_13.1 = r_15.1 then (if r_13.2.1 = r_15.2.1 then (if (r_13.2.2 == r_15.2.2) = true then (if (0 : Int) = r_39 then ((selvageref14_Same_4.m ([] : List api_Home) r_20.1 r_20.2).bind fun r_45 => some r_45) else (some false)) else (some false)) else (some false)) else (some false)) | Sum.inr (r_40) => (if r_13.1 = r_15.1 then (if r_13.2.1 = r_15.2.1 then (if (r_13.2.2 == r_15.2.2) = true then ((selvageref14_Same_5.m r_20.1 r_20.2 r_40.1 r_40.2).bind fun r_50 => some r_50) else (some false)) else (some false)) else (some false))))) else (some false)
noncomputable def selvagelaw14_AllocAll.o (a_1 : List api_Ins) (a_2 : List api_Loc) (a_3 : Int) (a_4 : Int) (r : Bool) : Out := .ret (.v (.bool r)) [] []
theorem selvagelaw14_AllocAll.ev {a_1 : List api_Ins} {a_2 : List api_Loc} {a_3 : Int} {a_4 : Int} {r : Bool} (H : selvagelaw14_AllocAll.m a_1 a_2 a_3 a_4 = some r) : Ev Try.prog 4 [.ro false 8 a_1.length (a_1.map api_Ins.c), .ro false 2 a_2.length (a_2.map api_Loc.c), .v (.int .i64 a_3), .v (.int .i64 a_4)] [] [] (selvagelaw14_AllocAll.o a_1 a_2 a_3 a_4 r) := by
  unfold selvagelaw14_AllocAll.m at H
  obtain ⟨r_5, e_6, H⟩ := bdE H
  rcases b2 r_5 with h_7 | h_7
  · have H := ibT h_7 H
    obtain ⟨o_8, e_9, H⟩ := bdE H
    have j_10 : Runs Try.prog selvagelaw14_AllocAll.F.N 0 (sub_ selvagelaw14_AllocAll.F.c [1, 1, 0, 0]) ⟨[(0, .ro false 8 a_1.length (a_1.map api_Ins.c)), (1, .ro false 2 a_2.length (a_2.map api_Loc.c)), (2, .v (.int .i64 a_3)), (3, .v (.int .i64 a_4))], [], []⟩ ((fun _ => .normal : Bool → Ex) o_8) ((fun o_8 => ⟨[(0, .ro false 8 a_1.length (a_1.map api_Ins.c)), (1, .ro false 2 a_2.length (a_2.map api_Loc.c)), (2, .v (.int .i64 a_3)), (3, .v (.int .i64 a_4)), (28, .v (.bool o_8))], [], []⟩ : Bool → ASt) o_8) := by
      clear H
      have H := e_9
      clear e_9
      rcases b2 (decide ((a_1.length : Int) > (120 : Int))) with h_11 | h_11
      · have H := itT h_11 H
        obtain rfl := Option.some.inj H
        exact Runs.fin (T := tb) mixed [br h_11, pk (rfl : true = true)] (by kernel_rfl)
      · have H := itF h_11 H
        obtain rfl := Option.some.inj H
        exact Runs.fin (T := tb) mixed [br h_11, pk (rfl : false = false)] (by kernel_rfl)
    rcases b2 o_8 with h_12 | h_12
    · have H := ibT h_12 H
      obtain rfl := Option.some.inj H
      exact selvagelaw14_AllocAll.F.run tb mixed [ca [] (selvagelaw14_awake.ev e_6), bn h_7, sg_ 3 j_10, br h_12] rfl (by kernel_rfl)
    · have H := ibF h_12 H
      obtain ⟨r_13, e_14, H⟩ := bdE H
      obtain ⟨r_15, e_16, H⟩ := bdE H
      obtain ⟨r_17, e_18, H⟩ := bdE H
      rcases r_17 with r_19 | r_20
      · obtain ⟨r_21, e_22, H⟩ := bdE H
        rcases r_21 with r_23 | r_24
        · rcases b2 (decide (r_13.1 = r_15.1)) with h_25 | h_25
          · have H := itT h_25 H
            rcases b2 (decide (r_13.2.1 = r_15.2.1)) with h_26 | h_26
            · have H := itT h_26 H
              rcases b2 (r_13.2.2 == r_15.2.2) with h_27 | h_27
              · have H := ibT h_27 H
                rcases b2 (decide (r_19 = r_23)) with h_28 | h_28
                · have H := itT h_28 H
                  obtain ⟨r_29, e_30, H⟩ := bdE H
                  obtain rfl := Option.some.inj H
                  exact selvagelaw14_AllocAll.F.run tb mixed [ca [] (selvagelaw14_awake.ev e_6), bn h_7, sg_ 3 j_10, br h_12, ca [] (alloc_Span.ev e_14), ca [] (selvageref14_Span.ev e_16), ca [] (alloc_Homes.ev e_18), on_ 15 (nzm 2), ca [] (selvageref14_Homes.ev e_22), on_ 17 (nzm 2), br h_25, pk (rfl : true = true), br h_26, pk (rfl : true = true), br h_27, pk (rfl : true = true), br h_28, ca [] (selvageref14_Same_2.ev e_30), pk (rfl : true = true)] rfl (by kernel_rfl)
                · have H := itF h_28 H
                  obtain rfl := Option.some.inj H
                  exact selvagelaw14_AllocAll.F.run tb mixed [ca [] (selvagelaw14_awake.ev e_6), bn h_7, sg_ 3 j_10, br h_12, ca [] (alloc_Span.ev e_14), ca [] (selvageref14_Span.ev e_16), ca [] (alloc_Homes.ev e_18), on_ 15 (nzm 2), ca [] (selvageref14_Homes.ev e_22), on_ 17 (nzm 2), br h_25, pk (rfl : true = true), br h_26, pk (rfl : true = true), br h_27, pk (rfl : true = true), br h_28, pk (rfl : false = false)] rfl (by kernel_rfl)
              · have H := ibF h_27 H
                obtain rfl := Option.some.inj H
                exact selvagelaw14_AllocAll.F.run tb mixed [ca [] (selvagelaw14_awake.ev e_6), bn h_7, sg_ 3 j_10, br h_12, ca [] (alloc_Span.ev e_14), ca [] (selvageref14_Span.ev e_16), ca [] (alloc_Homes.ev e_18), on_ 15 (nzm 2), ca [] (selvageref14_Homes.ev e_22), on_ 17 (nzm 2), br h_25, pk (rfl : true = true), br h_26, pk (rfl : true = true), br h_27, pk (rfl : false = false), au, pk (rfl : false = false)] rfl (by kernel_rfl)
            · have H := itF h_26 H
              obtain rfl := Option.some.inj H
              exact selvagelaw14_AllocAll.F.run tb mixed [ca [] (selvagelaw14_awake.ev e_6), bn h_7, sg_ 3 j_10, br h_12, ca [] (alloc_Span.ev e_14), ca [] (selvageref14_Span.ev e_16), ca [] (alloc_Homes.ev e_18), on_ 15 (nzm 2), ca [] (selvageref14_Homes.ev e_22), on_ 17 (nzm 2), br h_25, pk (rfl : true = true), br h_26, pk (rfl : false = false), au, pk (rfl : false = false), au, pk (rfl : false = false)] rfl (by kernel_rfl)
          · have H := itF h_25 H
            obtain rfl := Option.some.inj H
            exact selvagelaw14_AllocAll.F.run tb mixed [ca [] (selvagelaw14_awake.ev e_6), bn h_7, sg_ 3 j_10, br h_12, ca [] (alloc_Span.ev e_14), ca [] (selvageref14_Span.ev e_16), ca [] (alloc_Homes.ev e_18), on_ 15 (nzm 2), ca [] (selvageref14_Homes.ev e_22), on_ 17 (nzm 2), br h_25, pk (rfl : false = false), au, pk (rfl : false = false), au, pk (rfl : false = false), au, pk (rfl : false = false)] rfl (by kernel_rfl)
        · rcases b2 (decide (r_13.1 = r_15.1)) with h_31 | h_31
          · have H := itT h_31 H
            rcases b2 (decide (r_13.2.1 = r_15.2.1)) with h_32 | h_32
            · have H := itT h_32 H
              rcases b2 (r_13.2.2 == r_15.2.2) with h_33 | h_33
              · have H := ibT h_33 H
                rcases b2 (decide (r_19 = (0 : Int))) with h_34 | h_34
                · have H := itT h_34 H
                  obtain ⟨r_35, e_36, H⟩ := bdE H
                  obtain rfl := Option.some.inj H
                  exact selvagelaw14_AllocAll.F.run tb mixed [ca [] (selvagelaw14_awake.ev e_6), bn h_7, sg_ 3 j_10, br h_12, ca [] (alloc_Span.ev e_14), ca [] (selvageref14_Span.ev e_16), ca [] (alloc_Homes.ev e_18), on_ 15 (nzm 2), ca [] (selvageref14_Homes.ev e_22), br h_31, pk (rfl : true = true), br h_32, pk (rfl : true = true), br h_33, pk (rfl : true = true), br h_34, ca [1] (selvageref14_Same_3.ev e_36), pk (rfl : true = true)] rfl (by kernel_rfl)
                · have H := itF h_34 H
                  obtain rfl := Option.some.inj H
                  exact selvagelaw14_AllocAll.F.run tb mixed [ca [] (selvagelaw14_awake.ev e_6), bn h_7, sg_ 3 j_10, br h_12, ca [] (alloc_Span.ev e_14), ca [] (selvageref14_Span.ev e_16), ca [] (alloc_Homes.ev e_18), on_ 15 (nzm 2), ca [] (selvageref14_Homes.ev e_22), br h_31, pk (rfl : true = true), br h_32, pk (rfl : true = true), br h_33, pk (rfl : true = true), br h_34, pk (rfl : false = false)] rfl (by kernel_rfl)
              · have H := ibF h_33 H
                obtain rfl := Option.some.inj H
                exact selvagelaw14_AllocAll.F.run tb mixed [ca [] (selvagelaw14_awake.ev e_6), bn h_7, sg_ 3 j_10, br h_12, ca [] (alloc_Span.ev e_14), ca [] (selvageref14_Span.ev e_16), ca [] (alloc_Homes.ev e_18), on_ 15 (nzm 2), ca [] (selvageref14_Homes.ev e_22), br h_31, pk (rfl : true = true), br h_32, pk (rfl : true = true), br h_33, pk (rfl : false = false), au, pk (rfl : false = false)] rfl (by kernel_rfl)
            · have H := itF h_32 H
              obtain rfl := Option.some.inj H
              exact selvagelaw14_AllocAll.F.run tb mixed [ca [] (selvagelaw14_awake.ev e_6), bn h_7, sg_ 3 j_10, br h_12, ca [] (alloc_Span.ev e_14), ca [] (selvageref14_Span.ev e_16), ca [] (alloc_Homes.ev e_18), on_ 15 (nzm 2), ca [] (selvageref14_Homes.ev e_22), br h_31, pk (rfl : true = true), br h_32, pk (rfl : false = false), au, pk (rfl : false = false), au, pk (rfl : false = false)] rfl (by kernel_rfl)
          · have H := itF h_31 H
            obtain rfl := Option.some.inj H
            exact selvagelaw14_AllocAll.F.run tb mixed [ca [] (selvagelaw14_awake.ev e_6), bn h_7, sg_ 3 j_10, br h_12, ca [] (alloc_Span.ev e_14), ca [] (selvageref14_Span.ev e_16), ca [] (alloc_Homes.ev e_18), on_ 15 (nzm 2), ca [] (selvageref14_Homes.ev e_22), br h_31, pk (rfl : false = false), au, pk (rfl : false = false), au, pk (rfl : false = false), au, pk (rfl : false = false)] rfl (by kernel_rfl)
      · obtain ⟨r_37, e_38, H⟩ := bdE H
        rcases r_37 with r_39 | r_40
        · rcases b2 (decide (r_13.1 = r_15.1)) with h_41 | h_41
          · have H := itT h_41 H
            rcases b2 (decide (r_13.2.1 = r_15.2.1)) with h_42 | h_42
            · have H := itT h_42 H
              rcases b2 (r_13.2.2 == r_15.2.2) with h_43 | h_43
              · have H := ibT h_43 H
                rcases b2 (decide ((0 : Int) = r_39)) with h_44 | h_44
                · have H := itT h_44 H
                  obtain ⟨r_45, e_46, H⟩ := bdE H
                  obtain rfl := Option.some.inj H
                  exact selvagelaw14_AllocAll.F.run tb mixed [ca [] (selvagelaw14_awake.ev e_6), bn h_7, sg_ 3 j_10, br h_12, ca [] (alloc_Span.ev e_14), ca [] (selvageref14_Span.ev e_16), ca [] (alloc_Homes.ev e_18), ca [] (selvageref14_Homes.ev e_38), on_ 17 (nzm 2), br h_41, pk (rfl : true = true), br h_42, pk (rfl : true = true), br h_43, pk (rfl : true = true), br h_44, ca [0] (selvageref14_Same_4.ev e_46), pk (rfl : true = true)] rfl (by kernel_rfl)
                · have H := itF h_44 H
                  obtain rfl := Option.some.inj H
                  exact selvagelaw14_AllocAll.F.run tb mixed [ca [] (selvagelaw14_awake.ev e_6), bn h_7, sg_ 3 j_10, br h_12, ca [] (alloc_Span.ev e_14), ca [] (selvageref14_Span.ev e_16), ca [] (alloc_Homes.ev e_18), ca [] (selvageref14_Homes.ev e_38), on_ 17 (nzm 2), br h_41, pk (rfl : true = true), br h_42, pk (rfl : true = true), br h_43, pk (rfl : true = true), br h_44, pk (rfl : false = false)] rfl (by kernel_rfl)
              · have H := ibF h_43 H
                obtain rfl := Option.some.inj H
                exact selvagelaw14_AllocAll.F.run tb mixed [ca [] (selvagelaw14_awake.ev e_6), bn h_7, sg_ 3 j_10, br h_12, ca [] (alloc_Span.ev e_14), ca [] (selvageref14_Span.ev e_16), ca [] (alloc_Homes.ev e_18), ca [] (selvageref14_Homes.ev e_38), on_ 17 (nzm 2), br h_41, pk (rfl : true = true), br h_42, pk (rfl : true = true), br h_43, pk (rfl : false = false), au, pk (rfl : false = false)] rfl (by kernel_rfl)
            · have H := itF h_42 H
              obtain rfl := Option.some.inj H
              exact selvagelaw14_AllocAll.F.run tb mixed [ca [] (selvagelaw14_awake.ev e_6), bn h_7, sg_ 3 j_10, br h_12, ca [] (alloc_Span.ev e_14), ca [] (selvageref14_Span.ev e_16), ca [] (alloc_Homes.ev e_18), ca [] (selvageref14_Homes.ev e_38), on_ 17 (nzm 2), br h_41, pk (rfl : true = true), br h_42, pk (rfl : false = false), au, pk (rfl : false = false), au, pk (rfl : false = false)] rfl (by kernel_rfl)
          · have H := itF h_41 H
            obtain rfl := Option.some.inj H
            exact selvagelaw14_AllocAll.F.run tb mixed [ca [] (selvagelaw14_awake.ev e_6), bn h_7, sg_ 3 j_10, br h_12, ca [] (alloc_Span.ev e_14), ca [] (selvageref14_Span.ev e_16), ca [] (alloc_Homes.ev e_18), ca [] (selvageref14_Homes.ev e_38), on_ 17 (nzm 2), br h_41, pk (rfl : false = false), au, pk (rfl : false = false), au, pk (rfl : false = false), au, pk (rfl : false = false)] rfl (by kernel_rfl)
        · rcases b2 (decide (r_13.1 = r_15.1)) with h_47 | h_47
          · have H := itT h_47 H
            rcases b2 (decide (r_13.2.1 = r_15.2.1)) with h_48 | h_48
            · have H := itT h_48 H
              rcases b2 (r_13.2.2 == r_15.2.2) with h_49 | h_49
              · have H := ibT h_49 H
                obtain ⟨r_50, e_51, H⟩ := bdE H
                obtain rfl := Option.some.inj H
                exact selvagelaw14_AllocAll.F.run tb mixed [ca [] (selvagelaw14_awake.ev e_6), bn h_7, sg_ 3 j_10, br h_12, ca [] (alloc_Span.ev e_14), ca [] (selvageref14_Span.ev e_16), ca [] (alloc_Homes.ev e_18), ca [] (selvageref14_Homes.ev e_38), br h_47, pk (rfl : true = true), br h_48, pk (rfl : true = true), br h_49, pk (rfl : true = true), au, ca [0, 2] (selvageref14_Same_5.ev e_51), pk (rfl : true = true)] rfl (by kernel_rfl)
              · have H := ibF h_49 H
                obtain rfl := Option.some.inj H
                exact selvagelaw14_AllocAll.F.run tb mixed [ca [] (selvagelaw14_awake.ev e_6), bn h_7, sg_ 3 j_10, br h_12, ca [] (alloc_Span.ev e_14), ca [] (selvageref14_Span.ev e_16), ca [] (alloc_Homes.ev e_18), ca [] (selvageref14_Homes.ev e_38), br h_47, pk (rfl : true = true), br h_48, pk (rfl : true = true), br h_49, pk (rfl : false = false), au, pk (rfl : false = false)] rfl (by kernel_rfl)
            · have H := itF h_48 H
              obtain rfl := Option.some.inj H
              exact selvagelaw14_AllocAll.F.run tb mixed [ca [] (selvagelaw14_awake.ev e_6), bn h_7, sg_ 3 j_10, br h_12, ca [] (alloc_Span.ev e_14), ca [] (selvageref14_Span.ev e_16), ca [] (alloc_Homes.ev e_18), ca [] (selvageref14_Homes.ev e_38), br h_47, pk (rfl : true = true), br h_48, pk (rfl : false = false), au, pk (rfl : false = false), au, pk (rfl : false = false)] rfl (by kernel_rfl)
          · have H := itF h_47 H
            obtain rfl := Option.some.inj H
            exact selvagelaw14_AllocAll.F.run tb mixed [ca [] (selvagelaw14_awake.ev e_6), bn h_7, sg_ 3 j_10, br h_12, ca [] (alloc_Span.ev e_14), ca [] (selvageref14_Span.ev e_16), ca [] (alloc_Homes.ev e_18), ca [] (selvageref14_Homes.ev e_38), br h_47, pk (rfl : false = false), au, pk (rfl : false = false), au, pk (rfl : false = false), au, pk (rfl : false = false)] rfl (by kernel_rfl)
  · have H := ibF h_7 H
    obtain rfl := Option.some.inj H
    exact selvagelaw14_AllocAll.F.run tb mixed [ca [] (selvagelaw14_awake.ev e_6), bn h_7] rfl (by kernel_rfl)
end Go.Proofs.Ytgjibbicplbgbaa
