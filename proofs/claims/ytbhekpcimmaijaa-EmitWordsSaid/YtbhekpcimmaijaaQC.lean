/- QC: several texts in one. -/
import Derived.Test.YtbhekpcimmaijaaQA
import Derived.Test.YtbhekpcimmaijaaQB
import Derived.Test.YtbhekpcimmaijaaLE
set_option linter.unusedVariables false
set_option linter.unusedSimpArgs false
set_option linter.unusedSectionVars false
set_option maxRecDepth 100000
namespace Go.Proofs.Ytbhekpcimmaijaa
open Go Go.RowKit Go.Proofs Go.Proofs.Ytbhekpcimmaijaa.X
open Go.Proofs.Ytbhekpcimmaijaa.B (wr sb feq fls qf flt i2f aget aset isnan isnan_flt)
noncomputable def thread_Do.F : FI Try.prog 14 := ⟨Try.f14, 91, (Try.f14.body.getD .skip), Try.f14.results.toList, Try.call14, Try.func14, by kernel_rfl, by kernel_rfl, by kernel_rfl⟩
noncomputable def thread_Do.G : FI Try.prog 30 := ⟨Try.f30, 14, (Try.f30.body.getD .skip), Try.f30.results.toList, Try.call30, Try.func30, by kernel_rfl, by kernel_rfl, by kernel_rfl⟩
def thread_Do.l2 (a_1 : List api_Inst) (a_2 : Int) (v_28 : Int) (s_35 : (List Int) × (Arr thread_cell 32) × (Arr thread_cell 400) × Bool × Bool × Int × Int × Int × Int × Int × (List api_Event) × Int × Int) : Option (((List Int) × (Arr thread_cell 32) × (Arr thread_cell 400) × Bool × Bool × Int × Int × Int × Int × Int × (List api_Event) × Int × Int) ⊕ ((Int × (List Int) × (Arr thread_cell 32) × (Arr thread_cell 400) × Bool × Bool × Int × Int × Int × Int × Int × (List api_Event)) ⊕ ((List Int) × (Arr thread_cell 32) × (Arr thread_cell 400) × Bool × Bool × Int × Int × Int × Int × Int × (List api_Event) × Int))) :=
 (if s_35.2.2.2.2.2.2.2.2.2.2.2.1 < 0 then (some (true : Bool)) else (some ((decide (s_35.2.2.2.2.2.2.2.2.2.2.2.1 ≥ (a_1.length : Int))) : Bool)) : Option Bool).bind fun o_41 => if o_41 = true then (some (Sum.inr (Sum.inl (6, s_35.1, s_35.2.1, s_35.2.2.1, s_35.2.2.2.1, s_35.2.2.2.2.1, s_35.2.2.2.2.2.1, s_35.2.2.2.2.2.2.1, s_35.2.2.2.2.2.2.2.1, s_35.2.2.2.2.2.2.2.2.1, s_35.2.2.2.2.2.2.2.2.2.1, s_35.2.2.2.2.2.2.2.2.2.2.1)))) else (if s_35.2.2.2.2.2.2.2.2.2.2.2.2 = 8000 then (some (Sum.inr (Sum.inl (5, s_35.1, s_35.2.1, s_35.2.2.1, s_35.2.2.2.1, s_35.2.2.2.2.1, s_35.2.2.2.2.2.1, s_35.2.2.2.2.2.2.1, s_35.2.2.2.2.2.2.2.1, s_35.2.2.2.2.2.2.2.2.1, s_35.2.2.2.2.2.2.2.2.2.1, s_35.2.2.2.2.2.2.2.2.2.2.1)))) else (if 0 ≤ s_35.2.2.2.2.2.2.2.2.2.2.2.1 ∧ s_35.2.2.2.2.2.2.2.2.2.2.2.1 < (a_1.length : Int) then (letC (gi a_1 s_35.2.2.2.2.2.2.2.2.2.2.2.1) fun v_48 => (thread_thread_step_2.m v_48 a_1 a_2 v_28 s_35.1 s_35.2.1 s_35.2.2.1 s_35.2.2.2.1 s_35.2.2.2.2.1 s_35.2.2.2.2.2.1 s_35.2.2.2.2.2.2.1 s_35.2.2.2.2.2.2.2.1 s_35.2.2.2.2.2.2.2.2.1 s_35.2.2.2.2.2.2.2.2.2.1 s_35.2.2.2.2.2.2.2.2.2.2.1).bind fun r_49 => match r_49 with | Sum.inl r_51 => (letC (wr .i64 (s_35.2.2.2.2.2.2.2.2.2.2.2.1 + r_51.2.2.2.2.2.2.2.2.2.2.2)) fun v_53 => letC (wr .i64 (s_35.2.2.2.2.2.2.2.2.2.2.2.2 + 1)) fun v_54 => some (Sum.inl (r_51.1, r_51.2.1, r_51.2.2.1, r_51.2.2.2.1, r_51.2.2.2.2.1, r_51.2.2.2.2.2.1, r_51.2.2.2.2.2.2.1, r_51.2.2.2.2.2.2.2.1, r_51.2.2.2.2.2.2.2.2.1, r_51.2.2.2.2.2.2.2.2.2.1, r_51.2.2.2.2.2.2.2.2.2.2.1, v_53, v_54))) | Sum.inr (r_52) => (some (Sum.inr (Sum.inr ((s_35.1, s_35.2.1, s_35.2.2.1, s_35.2.2.2.1, s_35.2.2.2.2.1, s_35.2.2.2.2.2.1, s_35.2.2.2.2.2.2.1, s_35.2.2.2.2.2.2.2.1, s_35.2.2.2.2.2.2.2.2.1, s_35.2.2.2.2.2.2.2.2.2.1, s_35.2.2.2.2.2.2.2.2.2.2.1, r_52)))))) else none))
def thread_Do.l1 (a_1 : List api_Inst) (s_15 : Int) : Option (Int ⊕ (Unit ⊕ Unit)) :=
 if s_15 < (a_1.length : Int) then (if 0 ≤ s_15 ∧ s_15 < (a_1.length : Int) then (letC (gi a_1 s_15) fun v_23 => (isa_Encode.m v_23).bind fun r_24 => if r_24.2 = 0 then (some (Sum.inl (wr .i64 (s_15 + 1)))) else (some (Sum.inr (Sum.inl ())))) else none) else (some (Sum.inr (Sum.inr (()))))
def thread_Do.m (a_1 : List api_Inst) (a_2 : Int) (a_3 : Int) (a_4 : List Int) (a_5 : Nat) : Option (Unit ⊕ ((List api_Event) × Int)) :=
 (if a_2 < 0 then (some (true : Bool)) else (if a_2 > 16 then (some (true : Bool)) else (if a_3 < 0 then (some (true : Bool)) else (some ((decide (a_3 ≥ 3)) : Bool)))) : Option Bool).bind fun o_6 => if o_6 = true then (some (Sum.inl ())) else ((B.loop (thread_Do.l1 a_1) (0 : Int)).bind fun o_16 => match o_16 with | Sum.inl s_19 => (some (Sum.inl ())) | Sum.inr (s_20) => (letC (wr .i64 (a_3 * 2 ^ (min (16 : Int).toNat 64))) fun v_27 => letC (wr .i64 ((1048576 : Int) + v_27)) fun v_28 => letC ((Arr.r 32 ((thread_cell.mk 0 0) : thread_cell) : Arr thread_cell 32).g 1) fun v_29 => letC ((Arr.r 32 ((thread_cell.mk 0 0) : thread_cell) : Arr thread_cell 32).s 1 (thread_cell.mk v_28 v_29.hang)) fun v_30 => letC (v_30.g 2) fun v_31 => letC (v_30.s 2 (thread_cell.mk 65536 v_31.hang)) fun v_32 => (B.loop (thread_Do.l2 a_1 a_2 v_28) ((a_4, v_32, (Arr.r 400 ((thread_cell.mk 0 0) : thread_cell) : Arr thread_cell 400), false, false, 0, 0, 0, (-1), 0, ([] : List api_Event), 0, 0) : (List Int) × (Arr thread_cell 32) × (Arr thread_cell 400) × Bool × Bool × Int × Int × Int × Int × Int × (List api_Event) × Int × Int)).bind fun o_36 => match o_36 with | Sum.inl s_39 => (some (Sum.inr ((s_39.2.2.2.2.2.2.2.2.2.2.2, s_39.1)))) | Sum.inr (s_40) => (some (Sum.inr ((s_40.2.2.2.2.2.2.2.2.2.2.1, s_40.2.2.2.2.2.2.2.2.2.2.2))))))
noncomputable def thread_Do.o (a_1 : List api_Inst) (a_2 : Int) (a_3 : Int) (a_4 : List Int) (a_5 : Nat) (r : Unit ⊕ ((List api_Event) × Int)) : Out := match r with | Sum.inl r => .ret (.agg [.v (.slice none 0 0), .v (.int .i64 0)]) [.dead] [] | Sum.inr (r) => .ret (.agg [.sl 0 4 r.1.length 0 r.1.length, .v (.int .i64 r.2)]) [.dead, .dead, .dead, .dead, .arr true 48 8 r.1.length (r.1.map api_Event.c)] []
theorem thread_Do.ev {a_1 : List api_Inst} {a_2 : Int} {a_3 : Int} {a_4 : List Int} {a_5 : Nat} {r : Unit ⊕ ((List api_Event) × Int)} (H : thread_Do.m a_1 a_2 a_3 a_4 a_5 = some r) : Ev Try.prog 14 [.ro false 5 a_1.length (a_1.map api_Inst.c), .v (.int .i64 a_2), .v (.int .i64 a_3), .sl 0 0 a_5 0 a_5] [.arr false 2 1 a_5 (a_4.map (cI .i64))] [] (thread_Do.o a_1 a_2 a_3 a_4 a_5 r) := by
 unfold thread_Do.m at H
 obtain ⟨o_6, e_7, H⟩ := bdE H
 have j_8 : Runs Try.prog thread_Do.F.N 1 (sub_ thread_Do.F.c [1, 0, 0]) ⟨[(0, .ro false 5 a_1.length (a_1.map api_Inst.c)), (1, .v (.int .i64 a_2)), (2, .v (.int .i64 a_3)), (3, .ro false 1 a_4.length (a_4.map (cI .i64))), (8, .ref 1 0)], [.dead, .box [.v (.slice none 0 0), .v (.int .i64 0)]], []⟩ ((fun _ => .normal : Bool → Ex) o_6) ((fun o_6 => ⟨[(0, .ro false 5 a_1.length (a_1.map api_Inst.c)), (1, .v (.int .i64 a_2)), (2, .v (.int .i64 a_3)), (3, .ro false 1 a_4.length (a_4.map (cI .i64))), (8, .ref 1 0), (29, .v (.bool o_6))], [.dead, .box [.v (.slice none 0 0), .v (.int .i64 0)]], []⟩ : Bool → ASt) o_6) := by
  clear H
  have H := e_7
  clear e_7
  rcases ic H with ⟨h_9, H⟩ | ⟨h_9, H⟩
  ·obtain rfl := sj H
   exact fn [br h_9, pT, au, pT, au, pT] (by kernel_rfl)
  ·rcases ic H with ⟨h_10, H⟩ | ⟨h_10, H⟩
   ·obtain rfl := sj H
    exact fn [br h_9, pF, br h_10, pT, au, pT] (by kernel_rfl)
   ·rcases ic H with ⟨h_11, H⟩ | ⟨h_11, H⟩
    ·obtain rfl := sj H
     exact fn [br h_9, pF, br h_10, pF, br h_11, pT] (by kernel_rfl)
    ·obtain rfl := sj H
     exact fn [br h_9, pF, br h_10, pF, br h_11, pF] (by kernel_rfl)
 rcases ie H with ⟨h_12, H⟩ | ⟨h_12, H⟩
 ·obtain rfl := sj H
  exact thread_Do.F.runD thread_Do.G tb mixed [here 0, frz 0 [3] [], ron 3 none (cI .i64) a_4, sg_ 1 j_8, br h_12] rfl (by kernel_rfl) (by kernel_rfl)
 ·obtain ⟨o_16, e_17, H⟩ := bdE H
  have j_18 := Runs.loop (P := Try.prog) (N := thread_Do.F.N) (m0 := 1) (c := sub_ thread_Do.F.c [1, 1, 0, 1, 0, 0]) (f := (thread_Do.l1 a_1)) (St := fun s_15 => ⟨[(0, .ro false 5 a_1.length (a_1.map api_Inst.c)), (1, .v (.int .i64 a_2)), (2, .v (.int .i64 a_3)), (3, .ro false 1 a_4.length (a_4.map (cI .i64))), (8, .ref 1 0), (31, .ro false 5 a_1.length (a_1.map api_Inst.c)), (32, .v (.int .i64 (a_1.length : Int))), (33, .v (.int .i64 s_15))], [.dead, .box [.v (.slice none 0 0), .v (.int .i64 0)]], []⟩) (xo := (fun o => match o with | Sum.inl _ => .ret | Sum.inr (_) => (.exit 0) : (Unit ⊕ Unit) → Ex)) (So := (fun o => match o with | Sum.inl s_19 => ⟨[(8, .ref 1 0)], [.dead, .box [.v (.slice none 0 0), .v (.int .i64 0)]], []⟩ | Sum.inr (s_20) => ⟨[(0, .ro false 5 a_1.length (a_1.map api_Inst.c)), (1, .v (.int .i64 a_2)), (2, .v (.int .i64 a_3)), (3, .ro false 1 a_4.length (a_4.map (cI .i64))), (8, .ref 1 0)], [.dead, .box [.v (.slice none 0 0), .v (.int .i64 0)]], []⟩ : (Unit ⊕ Unit) → ASt)) (by intro o; rcases o with _ | _ <;> simp) (fun s_15 z H => by
   unfold thread_Do.l1 at H
   rcases ic H with ⟨h_21, H⟩ | ⟨h_21, H⟩
   ·obtain ⟨g_22, H⟩ := gdE H
    let v_23 : api_Inst := gi a_1 s_15
    replace H := ltD H
    obtain ⟨r_24, e_25, H⟩ := bdE H
    rcases ic H with ⟨h_26, H⟩ | ⟨h_26, H⟩
    ·obtain rfl := sj H
     exact fn [br h_21, ix api_Inst.c g_22, ca [] (isa_Encode.ev e_25), bn h_26] (by kernel_rfl)
    ·obtain rfl := sj H
     exact fn [br h_21, ix api_Inst.c g_22, ca [] (isa_Encode.ev e_25), bn h_26] (by kernel_rfl)
   ·obtain rfl := sj H
    exact fn [br h_21] (by kernel_rfl)) e_17
  rcases o_16 with s_19 | s_20
  ·obtain rfl := sj H
   exact thread_Do.F.runD thread_Do.G tb mixed [here 0, frz 0 [3] [], ron 3 none (cI .i64) a_4, sg_ 1 j_8, br h_12, su j_18] rfl (by kernel_rfl) (by kernel_rfl)
  ·let v_27 : Int := wr .i64 (a_3 * 2 ^ (min (16 : Int).toNat 64))
   replace H := ltD H
   let v_28 : Int := wr .i64 ((1048576 : Int) + v_27)
   replace H := ltD H
   let v_29 : thread_cell := (Arr.r 32 ((thread_cell.mk 0 0) : thread_cell) : Arr thread_cell 32).g 1
   replace H := ltD H
   let v_30 : Arr thread_cell 32 := (Arr.r 32 ((thread_cell.mk 0 0) : thread_cell) : Arr thread_cell 32).s 1 (thread_cell.mk v_28 v_29.hang)
   replace H := ltD H
   let v_31 : thread_cell := v_30.g 2
   replace H := ltD H
   let v_32 : Arr thread_cell 32 := v_30.s 2 (thread_cell.mk 65536 v_31.hang)
   replace H := ltD H
   obtain ⟨o_36, e_37, H⟩ := bdE H
   have j_38 := Runs.loop (P := Try.prog) (N := thread_Do.F.N) (m0 := 4) (c := sub_ thread_Do.F.c [1, 1, 1, 1, 1, 1, 1, 0, 0]) (f := (thread_Do.l2 a_1 a_2 v_28)) (St := fun s_35 => ⟨[(0, .ro false 5 a_1.length (a_1.map api_Inst.c)), (8, .ref 1 0), (13, .ref 3 0), (14, .v (.int .i64 s_35.2.2.2.2.2.2.2.2.2.2.2.1)), (15, .v (.int .i64 s_35.2.2.2.2.2.2.2.2.2.2.2.2))], [.dead, .box [.v (.slice none 0 0), .v (.int .i64 0)], .seg [.c (.ro false 5 a_1.length (a_1.map api_Inst.c)), .c (.v (.int .i64 a_2)), .c (.v (.int .i64 v_28)), .c (.ro false 1 s_35.1.length (s_35.1.map (cI .i64))), .a 2 32 (s_35.2.1.l.map thread_cell.c), .a 2 400 (s_35.2.2.1.l.map thread_cell.c), .c (.v (.bool s_35.2.2.2.1)), .c (.v (.bool s_35.2.2.2.2.1)), .c (.v (.int .u64 s_35.2.2.2.2.2.1)), .c (.v (.int .u64 s_35.2.2.2.2.2.2.1)), .c (.v (.int .u64 s_35.2.2.2.2.2.2.2.1)), .c (.v (.int .i64 s_35.2.2.2.2.2.2.2.2.1)), .c (.v (.int .i64 s_35.2.2.2.2.2.2.2.2.2.1)), .c (.sl 0 4 s_35.2.2.2.2.2.2.2.2.2.2.1.length 0 s_35.2.2.2.2.2.2.2.2.2.2.1.length)], .box [.ref 2 0], .arr true 48 8 s_35.2.2.2.2.2.2.2.2.2.2.1.length (s_35.2.2.2.2.2.2.2.2.2.2.1.map api_Event.c)], []⟩) (xo := (fun o => match o with | Sum.inl _ => .ret | Sum.inr (s_40) => (.pan (.ifc 97 (.v (.int .i64 s_40.2.2.2.2.2.2.2.2.2.2.2)))) : ((Int × (List Int) × (Arr thread_cell 32) × (Arr thread_cell 400) × Bool × Bool × Int × Int × Int × Int × Int × (List api_Event)) ⊕ ((List Int) × (Arr thread_cell 32) × (Arr thread_cell 400) × Bool × Bool × Int × Int × Int × Int × Int × (List api_Event) × Int)) → Ex)) (So := (fun o => match o with | Sum.inl s_39 => ⟨[(8, .ref 1 0)], [.dead, .box [.v (.slice none 0 0), .v (.int .i64 s_39.1)], .seg [.c (.ro false 5 a_1.length (a_1.map api_Inst.c)), .c (.v (.int .i64 a_2)), .c (.v (.int .i64 v_28)), .c (.ro false 1 s_39.2.1.length (s_39.2.1.map (cI .i64))), .a 2 32 (s_39.2.2.1.l.map thread_cell.c), .a 2 400 (s_39.2.2.2.1.l.map thread_cell.c), .c (.v (.bool s_39.2.2.2.2.1)), .c (.v (.bool s_39.2.2.2.2.2.1)), .c (.v (.int .u64 s_39.2.2.2.2.2.2.1)), .c (.v (.int .u64 s_39.2.2.2.2.2.2.2.1)), .c (.v (.int .u64 s_39.2.2.2.2.2.2.2.2.1)), .c (.v (.int .i64 s_39.2.2.2.2.2.2.2.2.2.1)), .c (.v (.int .i64 s_39.2.2.2.2.2.2.2.2.2.2.1)), .c (.sl 0 4 s_39.2.2.2.2.2.2.2.2.2.2.2.length 0 s_39.2.2.2.2.2.2.2.2.2.2.2.length)], .box [.ref 2 0], .arr true 48 8 s_39.2.2.2.2.2.2.2.2.2.2.2.length (s_39.2.2.2.2.2.2.2.2.2.2.2.map api_Event.c)], []⟩ | Sum.inr (s_40) => ⟨[(8, .ref 1 0)], [.dead, .box [.v (.slice none 0 0), .v (.int .i64 0)], .seg [.c (.ro false 5 a_1.length (a_1.map api_Inst.c)), .c (.v (.int .i64 a_2)), .c (.v (.int .i64 v_28)), .c (.ro false 1 s_40.1.length (s_40.1.map (cI .i64))), .a 2 32 (s_40.2.1.l.map thread_cell.c), .a 2 400 (s_40.2.2.1.l.map thread_cell.c), .c (.v (.bool s_40.2.2.2.1)), .c (.v (.bool s_40.2.2.2.2.1)), .c (.v (.int .u64 s_40.2.2.2.2.2.1)), .c (.v (.int .u64 s_40.2.2.2.2.2.2.1)), .c (.v (.int .u64 s_40.2.2.2.2.2.2.2.1)), .c (.v (.int .i64 s_40.2.2.2.2.2.2.2.2.1)), .c (.v (.int .i64 s_40.2.2.2.2.2.2.2.2.2.1)), .c (.sl 0 4 s_40.2.2.2.2.2.2.2.2.2.2.1.length 0 s_40.2.2.2.2.2.2.2.2.2.2.1.length)], .box [.ref 2 0], .arr true 48 8 s_40.2.2.2.2.2.2.2.2.2.2.1.length (s_40.2.2.2.2.2.2.2.2.2.2.1.map api_Event.c)], []⟩ : ((Int × (List Int) × (Arr thread_cell 32) × (Arr thread_cell 400) × Bool × Bool × Int × Int × Int × Int × Int × (List api_Event)) ⊕ ((List Int) × (Arr thread_cell 32) × (Arr thread_cell 400) × Bool × Bool × Int × Int × Int × Int × Int × (List api_Event) × Int)) → ASt)) (by intro o; rcases o with _ | _ <;> simp) (fun s_35 z H => by
    unfold thread_Do.l2 at H
    obtain ⟨o_41, e_42, H⟩ := bdE H
    have j_43 : Runs Try.prog thread_Do.F.N 4 (sub_ thread_Do.F.c [1, 1, 1, 1, 1, 1, 1, 0, 0, 0, 0, 0, 0]) ⟨[(0, .ro false 5 a_1.length (a_1.map api_Inst.c)), (8, .ref 1 0), (13, .ref 3 0), (14, .v (.int .i64 s_35.2.2.2.2.2.2.2.2.2.2.2.1)), (15, .v (.int .i64 s_35.2.2.2.2.2.2.2.2.2.2.2.2))], [.dead, .box [.v (.slice none 0 0), .v (.int .i64 0)], .seg [.c (.ro false 5 a_1.length (a_1.map api_Inst.c)), .c (.v (.int .i64 a_2)), .c (.v (.int .i64 v_28)), .c (.ro false 1 s_35.1.length (s_35.1.map (cI .i64))), .a 2 32 (s_35.2.1.l.map thread_cell.c), .a 2 400 (s_35.2.2.1.l.map thread_cell.c), .c (.v (.bool s_35.2.2.2.1)), .c (.v (.bool s_35.2.2.2.2.1)), .c (.v (.int .u64 s_35.2.2.2.2.2.1)), .c (.v (.int .u64 s_35.2.2.2.2.2.2.1)), .c (.v (.int .u64 s_35.2.2.2.2.2.2.2.1)), .c (.v (.int .i64 s_35.2.2.2.2.2.2.2.2.1)), .c (.v (.int .i64 s_35.2.2.2.2.2.2.2.2.2.1)), .c (.sl 0 4 s_35.2.2.2.2.2.2.2.2.2.2.1.length 0 s_35.2.2.2.2.2.2.2.2.2.2.1.length)], .box [.ref 2 0], .arr true 48 8 s_35.2.2.2.2.2.2.2.2.2.2.1.length (s_35.2.2.2.2.2.2.2.2.2.2.1.map api_Event.c)], []⟩ ((fun _ => .normal : Bool → Ex) o_41) ((fun o_41 => ⟨[(0, .ro false 5 a_1.length (a_1.map api_Inst.c)), (8, .ref 1 0), (13, .ref 3 0), (14, .v (.int .i64 s_35.2.2.2.2.2.2.2.2.2.2.2.1)), (15, .v (.int .i64 s_35.2.2.2.2.2.2.2.2.2.2.2.2)), (78, .v (.bool o_41))], [.dead, .box [.v (.slice none 0 0), .v (.int .i64 0)], .seg [.c (.ro false 5 a_1.length (a_1.map api_Inst.c)), .c (.v (.int .i64 a_2)), .c (.v (.int .i64 v_28)), .c (.ro false 1 s_35.1.length (s_35.1.map (cI .i64))), .a 2 32 (s_35.2.1.l.map thread_cell.c), .a 2 400 (s_35.2.2.1.l.map thread_cell.c), .c (.v (.bool s_35.2.2.2.1)), .c (.v (.bool s_35.2.2.2.2.1)), .c (.v (.int .u64 s_35.2.2.2.2.2.1)), .c (.v (.int .u64 s_35.2.2.2.2.2.2.1)), .c (.v (.int .u64 s_35.2.2.2.2.2.2.2.1)), .c (.v (.int .i64 s_35.2.2.2.2.2.2.2.2.1)), .c (.v (.int .i64 s_35.2.2.2.2.2.2.2.2.2.1)), .c (.sl 0 4 s_35.2.2.2.2.2.2.2.2.2.2.1.length 0 s_35.2.2.2.2.2.2.2.2.2.2.1.length)], .box [.ref 2 0], .arr true 48 8 s_35.2.2.2.2.2.2.2.2.2.2.1.length (s_35.2.2.2.2.2.2.2.2.2.2.1.map api_Event.c)], []⟩ : Bool → ASt) o_41) := by
     clear H
     have H := e_42
     clear e_42
     rcases ic H with ⟨h_44, H⟩ | ⟨h_44, H⟩
     ·obtain rfl := sj H
      exact fn [br h_44, pT] (by kernel_rfl)
     ·obtain rfl := sj H
      exact fn [br h_44, pF] (by kernel_rfl)
    rcases ie H with ⟨h_45, H⟩ | ⟨h_45, H⟩
    ·obtain rfl := sj H
     exact fn [sg_ 15 j_43, br h_45] (by kernel_rfl)
    ·rcases ic H with ⟨h_46, H⟩ | ⟨h_46, H⟩
     ·obtain rfl := sj H
      exact fn [sg_ 15 j_43, br h_45, br h_46] (by kernel_rfl)
     ·obtain ⟨g_47, H⟩ := gdE H
      let v_48 : api_Inst := gi a_1 s_35.2.2.2.2.2.2.2.2.2.2.2.1
      replace H := ltD H
      obtain ⟨r_49, e_50, H⟩ := bdE H
      rcases r_49 with r_51 | r_52
      ·let v_53 : Int := wr .i64 (s_35.2.2.2.2.2.2.2.2.2.2.2.1 + r_51.2.2.2.2.2.2.2.2.2.2.2)
       replace H := ltD H
       let v_54 : Int := wr .i64 (s_35.2.2.2.2.2.2.2.2.2.2.2.2 + 1)
       replace H := ltD H
       obtain rfl := sj H
       exact fn [sg_ 15 j_43, br h_45, br h_46, ix api_Inst.c g_47, ca [2, 4] (thread_thread_step_2.ev e_50)] (by kernel_rfl)
      ·obtain rfl := sj H
       exact fn [sg_ 15 j_43, br h_45, br h_46, ix api_Inst.c g_47, ca [2, 4] (thread_thread_step_2.ev e_50)] (by kernel_rfl)) e_37
   rcases o_36 with s_39 | s_40
   ·obtain rfl := sj H
    exact thread_Do.F.runD thread_Do.G tb mixed [here 0, frz 0 [3] [], ron 3 none (cI .i64) a_4, sg_ 1 j_8, br h_12, su j_18, pf (by decide : 0 ≤ (16 : Int)), on_ 53 (sgn [.c (.ro false 5 a_1.length (a_1.map api_Inst.c)), .c (.v (.int .i64 a_2)), .c (.v (.int .i64 v_28)), .c (.ro false 1 a_4.length (a_4.map (cI .i64))), .a 2 32 ((Arr.r 32 ((thread_cell.mk 0 0) : thread_cell) : Arr thread_cell 32).l.map thread_cell.c), .a 2 400 ((Arr.r 400 ((thread_cell.mk 0 0) : thread_cell) : Arr thread_cell 400).l.map thread_cell.c), .c (.v (.bool false)), .c (.v (.bool false)), .c (.v (.int .u64 0)), .c (.v (.int .u64 0)), .c (.v (.int .u64 0)), .c (.v (.int .i64 (-1))), .c (.v (.int .i64 0)), .c (.v (.slice none 0 0))]), pf (by decide : 0 ≤ (1 : Int) ∧ (1 : Int) < ((32 : Nat) : Int)), sgs thread_cell.c (Arr.r 32 ((thread_cell.mk 0 0) : thread_cell) : Arr thread_cell 32) 4 0 [.v (.int .i64 v_28)] (thread_cell.mk v_28 v_29.hang) (by decide : 0 ≤ (1 : Int) ∧ (1 : Int) < ((32 : Nat) : Int)) (by kernel_rfl), pf (by decide : 0 ≤ (2 : Int) ∧ (2 : Int) < ((32 : Nat) : Int)), sgs thread_cell.c v_30 4 0 [.v (.int .i64 65536)] (thread_cell.mk 65536 v_31.hang) (by decide : 0 ≤ (2 : Int) ∧ (2 : Int) < ((32 : Nat) : Int)) (by kernel_rfl), su j_38, adB 2 13 (some 48) 8, au] rfl (by kernel_rfl) (by kernel_rfl)
   ·obtain rfl := sj H
    exact thread_Do.F.runD thread_Do.G tb mixed [here 0, frz 0 [3] [], ron 3 none (cI .i64) a_4, sg_ 1 j_8, br h_12, su j_18, pf (by decide : 0 ≤ (16 : Int)), on_ 53 (sgn [.c (.ro false 5 a_1.length (a_1.map api_Inst.c)), .c (.v (.int .i64 a_2)), .c (.v (.int .i64 v_28)), .c (.ro false 1 a_4.length (a_4.map (cI .i64))), .a 2 32 ((Arr.r 32 ((thread_cell.mk 0 0) : thread_cell) : Arr thread_cell 32).l.map thread_cell.c), .a 2 400 ((Arr.r 400 ((thread_cell.mk 0 0) : thread_cell) : Arr thread_cell 400).l.map thread_cell.c), .c (.v (.bool false)), .c (.v (.bool false)), .c (.v (.int .u64 0)), .c (.v (.int .u64 0)), .c (.v (.int .u64 0)), .c (.v (.int .i64 (-1))), .c (.v (.int .i64 0)), .c (.v (.slice none 0 0))]), pf (by decide : 0 ≤ (1 : Int) ∧ (1 : Int) < ((32 : Nat) : Int)), sgs thread_cell.c (Arr.r 32 ((thread_cell.mk 0 0) : thread_cell) : Arr thread_cell 32) 4 0 [.v (.int .i64 v_28)] (thread_cell.mk v_28 v_29.hang) (by decide : 0 ≤ (1 : Int) ∧ (1 : Int) < ((32 : Nat) : Int)) (by kernel_rfl), pf (by decide : 0 ≤ (2 : Int) ∧ (2 : Int) < ((32 : Nat) : Int)), sgs thread_cell.c v_30 4 0 [.v (.int .i64 65536)] (thread_cell.mk 65536 v_31.hang) (by decide : 0 ≤ (2 : Int) ∧ (2 : Int) < ((32 : Nat) : Int)) (by kernel_rfl), su j_38, adB 2 13 (some 48) 8, au] rfl (by kernel_rfl) (by kernel_rfl)
def thread_Do.k2 (a_1 : List api_Inst) (a_2 : Int) (v_28 : Int) (s_35 : (List Int) × (Arr thread_cell 32) × (Arr thread_cell 400) × Bool × Bool × Int × Int × Int × Int × Int × (List api_Event) × Int × Int) : Option (((List Int) × (Arr thread_cell 32) × (Arr thread_cell 400) × Bool × Bool × Int × Int × Int × Int × Int × (List api_Event) × Int × Int) ⊕ ((Int × (List Int) × (Arr thread_cell 32) × (Arr thread_cell 400) × Bool × Bool × Int × Int × Int × Int × Int × (List api_Event)) ⊕ ((List Int) × (Arr thread_cell 32) × (Arr thread_cell 400) × Bool × Bool × Int × Int × Int × Int × Int × (List api_Event) × Int))) :=
 (if s_35.2.2.2.2.2.2.2.2.2.2.2.1 < 0 then (some (true : Bool)) else (some ((decide (s_35.2.2.2.2.2.2.2.2.2.2.2.1 ≥ (a_1.length : Int))) : Bool)) : Option Bool).bind fun o_41 => if o_41 = true then (some (Sum.inr (Sum.inl (6, s_35.1, s_35.2.1, s_35.2.2.1, s_35.2.2.2.1, s_35.2.2.2.2.1, s_35.2.2.2.2.2.1, s_35.2.2.2.2.2.2.1, s_35.2.2.2.2.2.2.2.1, s_35.2.2.2.2.2.2.2.2.1, s_35.2.2.2.2.2.2.2.2.2.1, s_35.2.2.2.2.2.2.2.2.2.2.1)))) else (if s_35.2.2.2.2.2.2.2.2.2.2.2.2 = 8000 then (some (Sum.inr (Sum.inl (5, s_35.1, s_35.2.1, s_35.2.2.1, s_35.2.2.2.1, s_35.2.2.2.2.1, s_35.2.2.2.2.2.1, s_35.2.2.2.2.2.2.1, s_35.2.2.2.2.2.2.2.1, s_35.2.2.2.2.2.2.2.2.1, s_35.2.2.2.2.2.2.2.2.2.1, s_35.2.2.2.2.2.2.2.2.2.2.1)))) else (if 0 ≤ s_35.2.2.2.2.2.2.2.2.2.2.2.1 ∧ s_35.2.2.2.2.2.2.2.2.2.2.2.1 < (a_1.length : Int) then (letK (gi a_1 s_35.2.2.2.2.2.2.2.2.2.2.2.1) fun v_48 => (thread_thread_step_2.m v_48 a_1 a_2 v_28 s_35.1 s_35.2.1 s_35.2.2.1 s_35.2.2.2.1 s_35.2.2.2.2.1 s_35.2.2.2.2.2.1 s_35.2.2.2.2.2.2.1 s_35.2.2.2.2.2.2.2.1 s_35.2.2.2.2.2.2.2.2.1 s_35.2.2.2.2.2.2.2.2.2.1 s_35.2.2.2.2.2.2.2.2.2.2.1).bind fun r_49 => match r_49 with | Sum.inl r_51 => (letK (wr .i64 (s_35.2.2.2.2.2.2.2.2.2.2.2.1 + r_51.2.2.2.2.2.2.2.2.2.2.2)) fun v_53 => letK (wr .i64 (s_35.2.2.2.2.2.2.2.2.2.2.2.2 + 1)) fun v_54 => some (Sum.inl (r_51.1, r_51.2.1, r_51.2.2.1, r_51.2.2.2.1, r_51.2.2.2.2.1, r_51.2.2.2.2.2.1, r_51.2.2.2.2.2.2.1, r_51.2.2.2.2.2.2.2.1, r_51.2.2.2.2.2.2.2.2.1, r_51.2.2.2.2.2.2.2.2.2.1, r_51.2.2.2.2.2.2.2.2.2.2.1, v_53, v_54))) | Sum.inr (r_52) => (some (Sum.inr (Sum.inr ((s_35.1, s_35.2.1, s_35.2.2.1, s_35.2.2.2.1, s_35.2.2.2.2.1, s_35.2.2.2.2.2.1, s_35.2.2.2.2.2.2.1, s_35.2.2.2.2.2.2.2.1, s_35.2.2.2.2.2.2.2.2.1, s_35.2.2.2.2.2.2.2.2.2.1, s_35.2.2.2.2.2.2.2.2.2.2.1, r_52)))))) else none))
theorem thread_Do.k2_le (a_1 : List api_Inst) (a_2 : Int) (v_28 : Int) (s_35 : (List Int) × (Arr thread_cell 32) × (Arr thread_cell 400) × Bool × Bool × Int × Int × Int × Int × Int × (List api_Event) × Int × Int) : OLe (thread_Do.k2 a_1 a_2 v_28 s_35) (thread_Do.l2 a_1 a_2 v_28 s_35) := by
 unfold thread_Do.k2 thread_Do.l2
 repeat' with_reducible first | refine OLe.lt (fun _ => ?_) | refine OLe.lp (fun _ => ?_) | refine OLe.bind ?_ (fun _ => ?_) | refine OLe.ite ?_ ?_ | exact OLe.rfl' | split
 all_goals (exfalso; simp_all)
def thread_Do.k1 (a_1 : List api_Inst) (s_15 : Int) : Option (Int ⊕ (Unit ⊕ Unit)) :=
 if s_15 < (a_1.length : Int) then (if 0 ≤ s_15 ∧ s_15 < (a_1.length : Int) then (letK (gi a_1 s_15) fun v_23 => (isa_Encode.m v_23).bind fun r_24 => if r_24.2 = 0 then (some (Sum.inl (wr .i64 (s_15 + 1)))) else (some (Sum.inr (Sum.inl ())))) else none) else (some (Sum.inr (Sum.inr (()))))
theorem thread_Do.k1_le (a_1 : List api_Inst) (s_15 : Int) : OLe (thread_Do.k1 a_1 s_15) (thread_Do.l1 a_1 s_15) := by
 unfold thread_Do.k1 thread_Do.l1
 repeat' with_reducible first | exact thread_Do.k2_le .. | refine OLe.lt (fun _ => ?_) | refine OLe.lp (fun _ => ?_) | refine OLe.bind ?_ (fun _ => ?_) | refine OLe.ite ?_ ?_ | exact OLe.rfl' | split
def thread_Do.k (a_1 : List api_Inst) (a_2 : Int) (a_3 : Int) (a_4 : List Int) (a_5 : Nat) : Option (Unit ⊕ ((List api_Event) × Int)) :=
 (if a_2 < 0 then (some (true : Bool)) else (if a_2 > 16 then (some (true : Bool)) else (if a_3 < 0 then (some (true : Bool)) else (some ((decide (a_3 ≥ 3)) : Bool)))) : Option Bool).bind fun o_6 => if o_6 = true then (some (Sum.inl ())) else ((lpK (thread_Do.k1 a_1) (0 : Int)).bind fun o_16 => match o_16 with | Sum.inl s_19 => (some (Sum.inl ())) | Sum.inr (s_20) => (letK (wr .i64 (a_3 * 2 ^ (min (16 : Int).toNat 64))) fun v_27 => letK (wr .i64 ((1048576 : Int) + v_27)) fun v_28 => letK ((Arr.r 32 ((thread_cell.mk 0 0) : thread_cell) : Arr thread_cell 32).g 1) fun v_29 => letK ((Arr.r 32 ((thread_cell.mk 0 0) : thread_cell) : Arr thread_cell 32).s 1 (thread_cell.mk v_28 v_29.hang)) fun v_30 => letK (v_30.g 2) fun v_31 => letK (v_30.s 2 (thread_cell.mk 65536 v_31.hang)) fun v_32 => (lpK (thread_Do.k2 a_1 a_2 v_28) ((a_4, v_32, (Arr.r 400 ((thread_cell.mk 0 0) : thread_cell) : Arr thread_cell 400), false, false, 0, 0, 0, (-1), 0, ([] : List api_Event), 0, 0) : (List Int) × (Arr thread_cell 32) × (Arr thread_cell 400) × Bool × Bool × Int × Int × Int × Int × Int × (List api_Event) × Int × Int)).bind fun o_36 => match o_36 with | Sum.inl s_39 => (some (Sum.inr ((s_39.2.2.2.2.2.2.2.2.2.2.2, s_39.1)))) | Sum.inr (s_40) => (some (Sum.inr ((s_40.2.2.2.2.2.2.2.2.2.2.1, s_40.2.2.2.2.2.2.2.2.2.2.2))))))
theorem thread_Do.k_le (a_1 : List api_Inst) (a_2 : Int) (a_3 : Int) (a_4 : List Int) (a_5 : Nat) : OLe (thread_Do.k a_1 a_2 a_3 a_4 a_5) (thread_Do.m a_1 a_2 a_3 a_4 a_5) := by
 unfold thread_Do.k thread_Do.m
 repeat' with_reducible first | exact thread_Do.k2_le .. | exact thread_Do.k1_le .. | refine OLe.lt (fun _ => ?_) | refine OLe.lp (fun _ => ?_) | refine OLe.bind ?_ (fun _ => ?_) | refine OLe.ite ?_ ?_ | exact OLe.rfl' | split
 all_goals (exfalso; simp_all)
noncomputable def thread_Acts_1.F : FI Try.prog 32 := ⟨Try.f32, 33, (Try.f32.body.getD .skip), Try.f32.results.toList, Try.call32, Try.func32, by kernel_rfl, by kernel_rfl, by kernel_rfl⟩
def thread_Acts_1.m (a_1 : Int) (a_2 : List api_Event) : Option (Bool) :=
 if 0 ≤ a_1 ∧ a_1 < (a_2.length : Int) then (letC (gi a_2 a_1) fun v_4 => if v_4.Kind = 2 then (if v_4.Pair ≥ 1 then (if v_4.Pair ≤ a_1 then (letC (wr .i64 (v_4.Pair - 1)) fun v_8 => if 0 ≤ v_8 ∧ v_8 < (a_2.length : Int) then (letC (gi a_2 v_8) fun v_10 => some (decide (v_10.Kind = 1))) else none) else (some false)) else (some false)) else (some false)) else none
noncomputable def thread_Acts_1.o (a_1 : Int) (a_2 : List api_Event) (r : Bool) : Out := .ret (.v (.bool r)) [.box [.ro false 8 a_2.length (a_2.map api_Event.c)]] []
theorem thread_Acts_1.ev {a_1 : Int} {a_2 : List api_Event} {r : Bool} (H : thread_Acts_1.m a_1 a_2 = some r) : Ev Try.prog 32 [.v (.int .i64 a_1), .ref 0 0] [.box [.ro false 8 a_2.length (a_2.map api_Event.c)]] [] (thread_Acts_1.o a_1 a_2 r) := by
 unfold thread_Acts_1.m at H
 obtain ⟨g_3, H⟩ := gdE H
 let v_4 : api_Event := gi a_2 a_1
 replace H := ltD H
 rcases ic H with ⟨h_5, H⟩ | ⟨h_5, H⟩
 ·rcases ic H with ⟨h_6, H⟩ | ⟨h_6, H⟩
  ·rcases ic H with ⟨h_7, H⟩ | ⟨h_7, H⟩
   ·let v_8 : Int := wr .i64 (v_4.Pair - 1)
    replace H := ltD H
    obtain ⟨g_9, H⟩ := gdE H
    let v_10 : api_Event := gi a_2 v_8
    replace H := ltD H
    obtain rfl := sj H
    exact thread_Acts_1.F.run tb mixed [ix api_Event.c g_3, br h_5, pT, br h_6, pT, br h_7, ix api_Event.c g_9, pT] rfl (by kernel_rfl)
   ·obtain rfl := sj H
    exact thread_Acts_1.F.run tb mixed [ix api_Event.c g_3, br h_5, pT, br h_6, pT, br h_7, pF] rfl (by kernel_rfl)
  ·obtain rfl := sj H
   exact thread_Acts_1.F.run tb mixed [ix api_Event.c g_3, br h_5, pT, br h_6, pF, au, pF] rfl (by kernel_rfl)
 ·obtain rfl := sj H
  exact thread_Acts_1.F.run tb mixed [ix api_Event.c g_3, br h_5, pF, au, pF, au, pF] rfl (by kernel_rfl)
noncomputable def thread_Acts.F : FI Try.prog 15 := ⟨Try.f15, 154, (Try.f15.body.getD .skip), Try.f15.results.toList, Try.call15, Try.func15, by kernel_rfl, by kernel_rfl, by kernel_rfl⟩
def thread_Acts.l2 (a_1 : List api_Event) (a_2 : List api_Loc) (o_6 : List (Int × Int)) (s_26 : (List api_Act) × Int) : Option (((List api_Act) × Int) ⊕ (List api_Act)) :=
 if s_26.2 < (a_1.length : Int) then (if 0 ≤ s_26.2 ∧ s_26.2 < (a_1.length : Int) then (letC (gi a_1 s_26.2) fun v_32 => (if v_32.Loc ≥ 0 then (if v_32.Loc < (a_2.length : Int) then (if 0 ≤ v_32.Loc ∧ v_32.Loc < (a_2.length : Int) then (letC (gi a_2 v_32.Loc) fun v_39 => some (v_39.Atomic : Bool)) else none) else (some (false : Bool))) else (some (false : Bool)) : Option Bool).bind fun o_33 => if v_32.Kind = 6 then (if (s_26.1.length + ([(api_Act.mk 6 0 0 v_32.Val)] : List api_Act).length) * 32 ≤ 140737488355328 then (letC (s_26.1 ++ ([(api_Act.mk 6 0 0 v_32.Val)] : List api_Act)) fun v_42 => letC (wr .i64 (s_26.2 + 1)) fun v_43 => some (Sum.inl (v_42, v_43))) else none) else ((thread_Acts_1.m s_26.2 a_1).bind fun r_44 => if r_44 = true then (letC (wr .i64 (v_32.Pair - 1)) fun v_47 => if 0 ≤ v_47 ∧ v_47 < (a_1.length : Int) then (letC (gi a_1 v_47) fun v_49 => if (s_26.1.length + ([(api_Act.mk 5 v_32.Loc v_49.Val v_32.Val)] : List api_Act).length) * 32 ≤ 140737488355328 then (letC (s_26.1 ++ ([(api_Act.mk 5 v_32.Loc v_49.Val v_32.Val)] : List api_Act)) fun v_51 => letC (wr .i64 (s_26.2 + 1)) fun v_52 => some (Sum.inl (v_51, v_52))) else none) else none) else ((if v_32.Kind = 1 then (match aget o_6 s_26.2 with | none => (some (o_33 : Bool)) | some v_57 => (if v_57 = 0 then (some (o_33 : Bool)) else (some (false : Bool)))) else (some (false : Bool)) : Option Bool).bind fun o_53 => if o_53 = true then (if (s_26.1.length + ([(api_Act.mk 3 v_32.Loc v_32.Val 0)] : List api_Act).length) * 32 ≤ 140737488355328 then (letC (s_26.1 ++ ([(api_Act.mk 3 v_32.Loc v_32.Val 0)] : List api_Act)) fun v_63 => letC (wr .i64 (s_26.2 + 1)) fun v_64 => some (Sum.inl (v_63, v_64))) else none) else ((if v_32.Kind = 1 then (match aget o_6 s_26.2 with | none => (some (true : Bool)) | some v_69 => (some ((decide (v_69 = 0)) : Bool))) else (some (false : Bool)) : Option Bool).bind fun o_65 => if o_65 = true then (if (s_26.1.length + ([(api_Act.mk 1 v_32.Loc v_32.Val 0)] : List api_Act).length) * 32 ≤ 140737488355328 then (letC (s_26.1 ++ ([(api_Act.mk 1 v_32.Loc v_32.Val 0)] : List api_Act)) fun v_74 => letC (wr .i64 (s_26.2 + 1)) fun v_75 => some (Sum.inl (v_74, v_75))) else none) else ((if v_32.Kind = 2 then (some (o_33 : Bool)) else (some (false : Bool)) : Option Bool).bind fun o_76 => if o_76 = true then (if (s_26.1.length + ([(api_Act.mk 4 v_32.Loc 0 v_32.Val)] : List api_Act).length) * 32 ≤ 140737488355328 then (letC (s_26.1 ++ ([(api_Act.mk 4 v_32.Loc 0 v_32.Val)] : List api_Act)) fun v_82 => letC (wr .i64 (s_26.2 + 1)) fun v_83 => some (Sum.inl (v_82, v_83))) else none) else (if v_32.Kind = 2 then (if (s_26.1.length + ([(api_Act.mk 2 v_32.Loc 0 v_32.Val)] : List api_Act).length) * 32 ≤ 140737488355328 then (letC (s_26.1 ++ ([(api_Act.mk 2 v_32.Loc 0 v_32.Val)] : List api_Act)) fun v_86 => letC (wr .i64 (s_26.2 + 1)) fun v_87 => some (Sum.inl (v_86, v_87))) else none) else (letC (wr .i64 (s_26.2 + 1)) fun v_88 => some (Sum.inl (s_26.1, v_88))))))))) else none) else (some (Sum.inr s_26.1))
def thread_Acts.l1 (a_1 : List api_Event) (s_5 : (List (Int × Int)) × Int) : Option (((List (Int × Int)) × Int) ⊕ (List (Int × Int))) :=
 if s_5.2 < (a_1.length : Int) then (if 0 ≤ s_5.2 ∧ s_5.2 < (a_1.length : Int) then (letC (gi a_1 s_5.2) fun v_11 => (thread_Acts_1.m s_5.2 a_1).bind fun r_12 => if r_12 = true then (letC (wr .i64 (v_11.Pair - 1)) fun v_15 => match aget s_5.1 v_15 with | none => (letC (aset s_5.1 v_15 1) fun v_19 => letC (wr .i64 (s_5.2 + 1)) fun v_20 => some (Sum.inl (v_19, v_20))) | some v_16 => (letC (aset s_5.1 v_15 (wr .i64 (v_16 + 1))) fun v_21 => letC (wr .i64 (s_5.2 + 1)) fun v_22 => some (Sum.inl (v_21, v_22)))) else (letC (wr .i64 (s_5.2 + 1)) fun v_23 => some (Sum.inl (s_5.1, v_23)))) else none) else (some (Sum.inr s_5.1))
def thread_Acts.m (a_1 : List api_Event) (a_2 : List api_Loc) : Option (List api_Act) :=
 (B.loop (thread_Acts.l1 a_1) ((([] : List (Int × Int)), 0) : (List (Int × Int)) × Int)).bind fun o_6 => (B.loop (thread_Acts.l2 a_1 a_2 o_6) ((([] : List api_Act), 0) : (List api_Act) × Int)).bind fun o_27 => some o_27
noncomputable def thread_Acts.o (a_1 : List api_Event) (a_2 : List api_Loc) (r : List api_Act) : Out := .ret (.sl 0 2 r.length 0 r.length) [.dead, .dead, .arr true 64 4 r.length (r.map api_Act.c)] []
theorem thread_Acts.ev {a_1 : List api_Event} {a_2 : List api_Loc} {r : List api_Act} (H : thread_Acts.m a_1 a_2 = some r) : Ev Try.prog 15 [.ro false 8 a_1.length (a_1.map api_Event.c), .ro false 2 a_2.length (a_2.map api_Loc.c)] [] [] (thread_Acts.o a_1 a_2 r) := by
 unfold thread_Acts.m at H
 obtain ⟨o_6, e_7, H⟩ := bdE H
 have j_8 := Runs.loop (P := Try.prog) (N := thread_Acts.F.N) (m0 := 0) (c := sub_ thread_Acts.F.c [1, 1, 1, 0, 1, 0, 0]) (f := (thread_Acts.l1 a_1)) (St := fun s_5 => ⟨[(1, .ro false 2 a_2.length (a_2.map api_Loc.c)), (2, .ref 0 0), (5, .mp 1), (6, .fn 32 [] [.ref 0 0]), (15, .ro false 8 a_1.length (a_1.map api_Event.c)), (16, .v (.int .i64 (a_1.length : Int))), (17, .v (.int .i64 s_5.2))], [.box [.ro false 8 a_1.length (a_1.map api_Event.c)], .mp .i64 (mE (vI .i64) s_5.1)], []⟩) (xo := (fun _ => (.exit 0) : (List (Int × Int)) → Ex)) (So := (fun o_6 => ⟨[(1, .ro false 2 a_2.length (a_2.map api_Loc.c)), (2, .ref 0 0), (5, .mp 1), (6, .fn 32 [] [.ref 0 0])], [.box [.ro false 8 a_1.length (a_1.map api_Event.c)], .mp .i64 (mE (vI .i64) o_6)], []⟩ : (List (Int × Int)) → ASt)) (by intro o; simp) (fun s_5 z H => by
  unfold thread_Acts.l1 at H
  rcases ic H with ⟨h_9, H⟩ | ⟨h_9, H⟩
  ·obtain ⟨g_10, H⟩ := gdE H
   let v_11 : api_Event := gi a_1 s_5.2
   replace H := ltD H
   obtain ⟨r_12, e_13, H⟩ := bdE H
   rcases ie H with ⟨h_14, H⟩ | ⟨h_14, H⟩
   ·let v_15 : Int := wr .i64 (v_11.Pair - 1)
    replace H := ltD H
    rcases e_17 : aget s_5.1 v_15 with _ | v_16
    ·rw [e_17] at H
     let v_19 : List (Int × Int) := aset s_5.1 v_15 1
     replace H := ltD H
     let v_20 : Int := wr .i64 (s_5.2 + 1)
     replace H := ltD H
     obtain rfl := sj H
     exact fn [br h_9, ix api_Event.c g_10, ca [0] (thread_Acts_1.ev e_13), br h_14, mgN (vI .i64) e_17, ms (vI .i64) s_5.1 v_15 1] (by kernel_rfl)
    ·rw [e_17] at H
     let v_21 : List (Int × Int) := aset s_5.1 v_15 (wr .i64 (v_16 + 1))
     replace H := ltD H
     let v_22 : Int := wr .i64 (s_5.2 + 1)
     replace H := ltD H
     obtain rfl := sj H
     exact fn [br h_9, ix api_Event.c g_10, ca [0] (thread_Acts_1.ev e_13), br h_14, mgS (vI .i64) e_17, ms (vI .i64) s_5.1 v_15 (wr .i64 (v_16 + 1))] (by kernel_rfl)
   ·let v_23 : Int := wr .i64 (s_5.2 + 1)
    replace H := ltD H
    obtain rfl := sj H
    exact fn [br h_9, ix api_Event.c g_10, ca [0] (thread_Acts_1.ev e_13), br h_14] (by kernel_rfl)
  ·obtain rfl := sj H
   exact fn [br h_9] (by kernel_rfl)) e_7
 obtain ⟨o_27, e_28, H⟩ := bdE H
 have j_29 := Runs.loop (P := Try.prog) (N := thread_Acts.F.N) (m0 := 0) (c := sub_ thread_Acts.F.c [1, 1, 1, 1, 1, 0, 1, 0, 0]) (f := (thread_Acts.l2 a_1 a_2 o_6)) (St := fun s_26 => ⟨[(1, .ro false 2 a_2.length (a_2.map api_Loc.c)), (2, .ref 0 0), (5, .mp 1), (6, .fn 32 [] [.ref 0 0]), (9, .sl 0 2 s_26.1.length 0 s_26.1.length), (32, .ro false 8 a_1.length (a_1.map api_Event.c)), (33, .v (.int .i64 (a_1.length : Int))), (34, .v (.int .i64 s_26.2))], [.box [.ro false 8 a_1.length (a_1.map api_Event.c)], .mp .i64 (mE (vI .i64) o_6), .arr true 64 4 s_26.1.length (s_26.1.map api_Act.c)], []⟩) (xo := (fun _ => (.exit 2) : (List api_Act) → Ex)) (So := (fun o_27 => ⟨[(9, .sl 0 2 o_27.length 0 o_27.length)], [.dead, .dead, .arr true 64 4 o_27.length (o_27.map api_Act.c)], []⟩ : (List api_Act) → ASt)) (by intro o; simp) (fun s_26 z H => by
  unfold thread_Acts.l2 at H
  rcases ic H with ⟨h_30, H⟩ | ⟨h_30, H⟩
  ·obtain ⟨g_31, H⟩ := gdE H
   let v_32 : api_Event := gi a_1 s_26.2
   replace H := ltD H
   obtain ⟨o_33, e_34, H⟩ := bdE H
   have j_35 : Runs Try.prog thread_Acts.F.N 0 (sub_ thread_Acts.F.c [1, 1, 1, 1, 1, 0, 1, 0, 0, 1, 1, 0, 0, 1, 0]) ⟨[(1, .ro false 2 a_2.length (a_2.map api_Loc.c)), (2, .ref 0 0), (5, .mp 1), (6, .fn 32 [] [.ref 0 0]), (9, .sl 0 2 s_26.1.length 0 s_26.1.length), (10, .v (.int .i64 s_26.2)), (11, .ref 3 0), (32, .ro false 8 a_1.length (a_1.map api_Event.c)), (33, .v (.int .i64 (a_1.length : Int))), (34, .v (.int .i64 s_26.2))], [.box [.ro false 8 a_1.length (a_1.map api_Event.c)], .mp .i64 (mE (vI .i64) o_6), .arr true 64 4 s_26.1.length (s_26.1.map api_Act.c), .box (api_Event.c v_32)], []⟩ ((fun _ => .normal : Bool → Ex) o_33) ((fun o_33 => ⟨[(1, .ro false 2 a_2.length (a_2.map api_Loc.c)), (2, .ref 0 0), (5, .mp 1), (6, .fn 32 [] [.ref 0 0]), (9, .sl 0 2 s_26.1.length 0 s_26.1.length), (10, .v (.int .i64 s_26.2)), (11, .ref 3 0), (12, .v (.bool o_33)), (32, .ro false 8 a_1.length (a_1.map api_Event.c)), (33, .v (.int .i64 (a_1.length : Int))), (34, .v (.int .i64 s_26.2))], [.box [.ro false 8 a_1.length (a_1.map api_Event.c)], .mp .i64 (mE (vI .i64) o_6), .arr true 64 4 s_26.1.length (s_26.1.map api_Act.c), .box (api_Event.c v_32)], []⟩ : Bool → ASt) o_33) := by
    clear H
    have H := e_34
    clear e_34
    rcases ic H with ⟨h_36, H⟩ | ⟨h_36, H⟩
    ·rcases ic H with ⟨h_37, H⟩ | ⟨h_37, H⟩
     ·obtain ⟨g_38, H⟩ := gdE H
      let v_39 : api_Loc := gi a_2 v_32.Loc
      replace H := ltD H
      obtain rfl := sj H
      exact fn [br h_36, pT, br h_37, ix api_Loc.c g_38, pT] (by kernel_rfl)
     ·obtain rfl := sj H
      exact fn [br h_36, pT, br h_37, pF] (by kernel_rfl)
    ·obtain rfl := sj H
     exact fn [br h_36, pF, au, pF] (by kernel_rfl)
   rcases ic H with ⟨h_40, H⟩ | ⟨h_40, H⟩
   ·obtain ⟨g_41, H⟩ := gdE H
    let v_42 : List api_Act := s_26.1 ++ ([(api_Act.mk 6 0 0 v_32.Val)] : List api_Act)
    replace H := ltD H
    let v_43 : Int := wr .i64 (s_26.2 + 1)
    replace H := ltD H
    obtain rfl := sj H
    exact fn [br h_30, ix api_Event.c g_31, sg_ 13 j_35, br h_40, ap api_Act.c 32 false s_26.1 ([(api_Act.mk 6 0 0 v_32.Val)] : List api_Act) g_41 (fun h => by cases h)] (by kernel_rfl)
   ·obtain ⟨r_44, e_45, H⟩ := bdE H
    rcases ie H with ⟨h_46, H⟩ | ⟨h_46, H⟩
    ·let v_47 : Int := wr .i64 (v_32.Pair - 1)
     replace H := ltD H
     obtain ⟨g_48, H⟩ := gdE H
     let v_49 : api_Event := gi a_1 v_47
     replace H := ltD H
     obtain ⟨g_50, H⟩ := gdE H
     let v_51 : List api_Act := s_26.1 ++ ([(api_Act.mk 5 v_32.Loc v_49.Val v_32.Val)] : List api_Act)
     replace H := ltD H
     let v_52 : Int := wr .i64 (s_26.2 + 1)
     replace H := ltD H
     obtain rfl := sj H
     exact fn [br h_30, ix api_Event.c g_31, sg_ 13 j_35, br h_40, ca [0] (thread_Acts_1.ev e_45), br h_46, ix api_Event.c g_48, ap api_Act.c 32 false s_26.1 ([(api_Act.mk 5 v_32.Loc v_49.Val v_32.Val)] : List api_Act) g_50 (fun h => by cases h)] (by kernel_rfl)
    ·obtain ⟨o_53, e_54, H⟩ := bdE H
     have j_55 : Runs Try.prog thread_Acts.F.N 0 (sub_ thread_Acts.F.c [1, 1, 1, 1, 1, 0, 1, 0, 0, 1, 1, 0, 0, 1, 1, 0, 1, 1, 1, 1, 0]) ⟨[(1, .ro false 2 a_2.length (a_2.map api_Loc.c)), (2, .ref 0 0), (5, .mp 1), (6, .fn 32 [] [.ref 0 0]), (9, .sl 0 2 s_26.1.length 0 s_26.1.length), (10, .v (.int .i64 s_26.2)), (11, .ref 3 0), (12, .v (.bool o_33)), (32, .ro false 8 a_1.length (a_1.map api_Event.c)), (33, .v (.int .i64 (a_1.length : Int))), (34, .v (.int .i64 s_26.2))], [.box [.ro false 8 a_1.length (a_1.map api_Event.c)], .mp .i64 (mE (vI .i64) o_6), .arr true 64 4 s_26.1.length (s_26.1.map api_Act.c), .box (api_Event.c v_32)], []⟩ ((fun _ => .normal : Bool → Ex) o_53) ((fun o_53 => ⟨[(1, .ro false 2 a_2.length (a_2.map api_Loc.c)), (2, .ref 0 0), (5, .mp 1), (6, .fn 32 [] [.ref 0 0]), (9, .sl 0 2 s_26.1.length 0 s_26.1.length), (10, .v (.int .i64 s_26.2)), (11, .ref 3 0), (12, .v (.bool o_33)), (32, .ro false 8 a_1.length (a_1.map api_Event.c)), (33, .v (.int .i64 (a_1.length : Int))), (34, .v (.int .i64 s_26.2)), (86, .v (.bool o_53))], [.box [.ro false 8 a_1.length (a_1.map api_Event.c)], .mp .i64 (mE (vI .i64) o_6), .arr true 64 4 s_26.1.length (s_26.1.map api_Act.c), .box (api_Event.c v_32)], []⟩ : Bool → ASt) o_53) := by
      clear H
      have H := e_54
      clear e_54
      rcases ic H with ⟨h_56, H⟩ | ⟨h_56, H⟩
      ·rcases e_58 : aget o_6 s_26.2 with _ | v_57
       ·rw [e_58] at H
        obtain rfl := sj H
        exact fn [br h_56, mgN (vI .i64) e_58, pT, au, pT] (by kernel_rfl)
       ·rw [e_58] at H
        rcases ic H with ⟨h_60, H⟩ | ⟨h_60, H⟩
        ·obtain rfl := sj H
         exact fn [br h_56, mgS (vI .i64) e_58, pT, br h_60, pT] (by kernel_rfl)
        ·obtain rfl := sj H
         exact fn [br h_56, mgS (vI .i64) e_58, pT, br h_60, pF] (by kernel_rfl)
      ·obtain rfl := sj H
       exact fn [br h_56, pF, au, pF] (by kernel_rfl)
     rcases ie H with ⟨h_61, H⟩ | ⟨h_61, H⟩
     ·obtain ⟨g_62, H⟩ := gdE H
      let v_63 : List api_Act := s_26.1 ++ ([(api_Act.mk 3 v_32.Loc v_32.Val 0)] : List api_Act)
      replace H := ltD H
      let v_64 : Int := wr .i64 (s_26.2 + 1)
      replace H := ltD H
      obtain rfl := sj H
      exact fn [br h_30, ix api_Event.c g_31, sg_ 13 j_35, br h_40, ca [0] (thread_Acts_1.ev e_45), br h_46, sg_ 18 j_55, br h_61, ap api_Act.c 32 false s_26.1 ([(api_Act.mk 3 v_32.Loc v_32.Val 0)] : List api_Act) g_62 (fun h => by cases h)] (by kernel_rfl)
     ·obtain ⟨o_65, e_66, H⟩ := bdE H
      have j_67 : Runs Try.prog thread_Acts.F.N 0 (sub_ thread_Acts.F.c [1, 1, 1, 1, 1, 0, 1, 0, 0, 1, 1, 0, 0, 1, 1, 0, 1, 1, 1, 1, 1, 1, 0]) ⟨[(1, .ro false 2 a_2.length (a_2.map api_Loc.c)), (2, .ref 0 0), (5, .mp 1), (6, .fn 32 [] [.ref 0 0]), (9, .sl 0 2 s_26.1.length 0 s_26.1.length), (10, .v (.int .i64 s_26.2)), (11, .ref 3 0), (12, .v (.bool o_33)), (32, .ro false 8 a_1.length (a_1.map api_Event.c)), (33, .v (.int .i64 (a_1.length : Int))), (34, .v (.int .i64 s_26.2))], [.box [.ro false 8 a_1.length (a_1.map api_Event.c)], .mp .i64 (mE (vI .i64) o_6), .arr true 64 4 s_26.1.length (s_26.1.map api_Act.c), .box (api_Event.c v_32)], []⟩ ((fun _ => .normal : Bool → Ex) o_65) ((fun o_65 => ⟨[(1, .ro false 2 a_2.length (a_2.map api_Loc.c)), (2, .ref 0 0), (5, .mp 1), (6, .fn 32 [] [.ref 0 0]), (9, .sl 0 2 s_26.1.length 0 s_26.1.length), (11, .ref 3 0), (12, .v (.bool o_33)), (32, .ro false 8 a_1.length (a_1.map api_Event.c)), (33, .v (.int .i64 (a_1.length : Int))), (34, .v (.int .i64 s_26.2)), (107, .v (.bool o_65))], [.box [.ro false 8 a_1.length (a_1.map api_Event.c)], .mp .i64 (mE (vI .i64) o_6), .arr true 64 4 s_26.1.length (s_26.1.map api_Act.c), .box (api_Event.c v_32)], []⟩ : Bool → ASt) o_65) := by
       clear H
       have H := e_66
       clear e_66
       rcases ic H with ⟨h_68, H⟩ | ⟨h_68, H⟩
       ·rcases e_70 : aget o_6 s_26.2 with _ | v_69
        ·rw [e_70] at H
         obtain rfl := sj H
         exact fn [br h_68, mgN (vI .i64) e_70, pT] (by kernel_rfl)
        ·rw [e_70] at H
         obtain rfl := sj H
         exact fn [br h_68, mgS (vI .i64) e_70, pT] (by kernel_rfl)
       ·obtain rfl := sj H
        exact fn [br h_68, pF] (by kernel_rfl)
      rcases ie H with ⟨h_72, H⟩ | ⟨h_72, H⟩
      ·obtain ⟨g_73, H⟩ := gdE H
       let v_74 : List api_Act := s_26.1 ++ ([(api_Act.mk 1 v_32.Loc v_32.Val 0)] : List api_Act)
       replace H := ltD H
       let v_75 : Int := wr .i64 (s_26.2 + 1)
       replace H := ltD H
       obtain rfl := sj H
       exact fn [br h_30, ix api_Event.c g_31, sg_ 13 j_35, br h_40, ca [0] (thread_Acts_1.ev e_45), br h_46, sg_ 18 j_55, br h_61, sg_ 20 j_67, br h_72, ap api_Act.c 32 false s_26.1 ([(api_Act.mk 1 v_32.Loc v_32.Val 0)] : List api_Act) g_73 (fun h => by cases h)] (by kernel_rfl)
      ·obtain ⟨o_76, e_77, H⟩ := bdE H
       have j_78 : Runs Try.prog thread_Acts.F.N 0 (sub_ thread_Acts.F.c [1, 1, 1, 1, 1, 0, 1, 0, 0, 1, 1, 0, 0, 1, 1, 0, 1, 1, 1, 1, 1, 1, 1, 1, 0]) ⟨[(1, .ro false 2 a_2.length (a_2.map api_Loc.c)), (2, .ref 0 0), (5, .mp 1), (6, .fn 32 [] [.ref 0 0]), (9, .sl 0 2 s_26.1.length 0 s_26.1.length), (11, .ref 3 0), (12, .v (.bool o_33)), (32, .ro false 8 a_1.length (a_1.map api_Event.c)), (33, .v (.int .i64 (a_1.length : Int))), (34, .v (.int .i64 s_26.2))], [.box [.ro false 8 a_1.length (a_1.map api_Event.c)], .mp .i64 (mE (vI .i64) o_6), .arr true 64 4 s_26.1.length (s_26.1.map api_Act.c), .box (api_Event.c v_32)], []⟩ ((fun _ => .normal : Bool → Ex) o_76) ((fun o_76 => ⟨[(1, .ro false 2 a_2.length (a_2.map api_Loc.c)), (2, .ref 0 0), (5, .mp 1), (6, .fn 32 [] [.ref 0 0]), (9, .sl 0 2 s_26.1.length 0 s_26.1.length), (11, .ref 3 0), (32, .ro false 8 a_1.length (a_1.map api_Event.c)), (33, .v (.int .i64 (a_1.length : Int))), (34, .v (.int .i64 s_26.2)), (125, .v (.bool o_76))], [.box [.ro false 8 a_1.length (a_1.map api_Event.c)], .mp .i64 (mE (vI .i64) o_6), .arr true 64 4 s_26.1.length (s_26.1.map api_Act.c), .box (api_Event.c v_32)], []⟩ : Bool → ASt) o_76) := by
        clear H
        have H := e_77
        clear e_77
        rcases ic H with ⟨h_79, H⟩ | ⟨h_79, H⟩
        ·obtain rfl := sj H
         exact fn [br h_79, pT] (by kernel_rfl)
        ·obtain rfl := sj H
         exact fn [br h_79, pF] (by kernel_rfl)
       rcases ie H with ⟨h_80, H⟩ | ⟨h_80, H⟩
       ·obtain ⟨g_81, H⟩ := gdE H
        let v_82 : List api_Act := s_26.1 ++ ([(api_Act.mk 4 v_32.Loc 0 v_32.Val)] : List api_Act)
        replace H := ltD H
        let v_83 : Int := wr .i64 (s_26.2 + 1)
        replace H := ltD H
        obtain rfl := sj H
        exact fn [br h_30, ix api_Event.c g_31, sg_ 13 j_35, br h_40, ca [0] (thread_Acts_1.ev e_45), br h_46, sg_ 18 j_55, br h_61, sg_ 20 j_67, br h_72, sg_ 22 j_78, br h_80, ap api_Act.c 32 false s_26.1 ([(api_Act.mk 4 v_32.Loc 0 v_32.Val)] : List api_Act) g_81 (fun h => by cases h)] (by kernel_rfl)
       ·rcases ic H with ⟨h_84, H⟩ | ⟨h_84, H⟩
        ·obtain ⟨g_85, H⟩ := gdE H
         let v_86 : List api_Act := s_26.1 ++ ([(api_Act.mk 2 v_32.Loc 0 v_32.Val)] : List api_Act)
         replace H := ltD H
         let v_87 : Int := wr .i64 (s_26.2 + 1)
         replace H := ltD H
         obtain rfl := sj H
         exact fn [br h_30, ix api_Event.c g_31, sg_ 13 j_35, br h_40, ca [0] (thread_Acts_1.ev e_45), br h_46, sg_ 18 j_55, br h_61, sg_ 20 j_67, br h_72, sg_ 22 j_78, br h_80, br h_84, ap api_Act.c 32 false s_26.1 ([(api_Act.mk 2 v_32.Loc 0 v_32.Val)] : List api_Act) g_85 (fun h => by cases h)] (by kernel_rfl)
        ·let v_88 : Int := wr .i64 (s_26.2 + 1)
         replace H := ltD H
         obtain rfl := sj H
         exact fn [br h_30, ix api_Event.c g_31, sg_ 13 j_35, br h_40, ca [0] (thread_Acts_1.ev e_45), br h_46, sg_ 18 j_55, br h_61, sg_ 20 j_67, br h_72, sg_ 22 j_78, br h_80, br h_84] (by kernel_rfl)
  ·obtain rfl := sj H
   exact fn [br h_30] (by kernel_rfl)) e_28
 obtain rfl := sj H
 exact thread_Acts.F.run tb mixed [su j_8, su j_29, adL 9 (some 64) 4] rfl (by kernel_rfl)
def thread_Acts.k2 (a_1 : List api_Event) (a_2 : List api_Loc) (o_6 : List (Int × Int)) (s_26 : (List api_Act) × Int) : Option (((List api_Act) × Int) ⊕ (List api_Act)) :=
 if s_26.2 < (a_1.length : Int) then (if 0 ≤ s_26.2 ∧ s_26.2 < (a_1.length : Int) then (letK (gi a_1 s_26.2) fun v_32 => (if v_32.Loc ≥ 0 then (if v_32.Loc < (a_2.length : Int) then (if 0 ≤ v_32.Loc ∧ v_32.Loc < (a_2.length : Int) then (letK (gi a_2 v_32.Loc) fun v_39 => some (v_39.Atomic : Bool)) else none) else (some (false : Bool))) else (some (false : Bool)) : Option Bool).bind fun o_33 => if v_32.Kind = 6 then (if (s_26.1.length + ([(api_Act.mk 6 0 0 v_32.Val)] : List api_Act).length) * 32 ≤ 140737488355328 then (letK (s_26.1 ++ ([(api_Act.mk 6 0 0 v_32.Val)] : List api_Act)) fun v_42 => letK (wr .i64 (s_26.2 + 1)) fun v_43 => some (Sum.inl (v_42, v_43))) else none) else ((thread_Acts_1.m s_26.2 a_1).bind fun r_44 => if r_44 = true then (letK (wr .i64 (v_32.Pair - 1)) fun v_47 => if 0 ≤ v_47 ∧ v_47 < (a_1.length : Int) then (letK (gi a_1 v_47) fun v_49 => if (s_26.1.length + ([(api_Act.mk 5 v_32.Loc v_49.Val v_32.Val)] : List api_Act).length) * 32 ≤ 140737488355328 then (letK (s_26.1 ++ ([(api_Act.mk 5 v_32.Loc v_49.Val v_32.Val)] : List api_Act)) fun v_51 => letK (wr .i64 (s_26.2 + 1)) fun v_52 => some (Sum.inl (v_51, v_52))) else none) else none) else ((if v_32.Kind = 1 then (match aget o_6 s_26.2 with | none => (some (o_33 : Bool)) | some v_57 => (if v_57 = 0 then (some (o_33 : Bool)) else (some (false : Bool)))) else (some (false : Bool)) : Option Bool).bind fun o_53 => if o_53 = true then (if (s_26.1.length + ([(api_Act.mk 3 v_32.Loc v_32.Val 0)] : List api_Act).length) * 32 ≤ 140737488355328 then (letK (s_26.1 ++ ([(api_Act.mk 3 v_32.Loc v_32.Val 0)] : List api_Act)) fun v_63 => letK (wr .i64 (s_26.2 + 1)) fun v_64 => some (Sum.inl (v_63, v_64))) else none) else ((if v_32.Kind = 1 then (match aget o_6 s_26.2 with | none => (some (true : Bool)) | some v_69 => (some ((decide (v_69 = 0)) : Bool))) else (some (false : Bool)) : Option Bool).bind fun o_65 => if o_65 = true then (if (s_26.1.length + ([(api_Act.mk 1 v_32.Loc v_32.Val 0)] : List api_Act).length) * 32 ≤ 140737488355328 then (letK (s_26.1 ++ ([(api_Act.mk 1 v_32.Loc v_32.Val 0)] : List api_Act)) fun v_74 => letK (wr .i64 (s_26.2 + 1)) fun v_75 => some (Sum.inl (v_74, v_75))) else none) else ((if v_32.Kind = 2 then (some (o_33 : Bool)) else (some (false : Bool)) : Option Bool).bind fun o_76 => if o_76 = true then (if (s_26.1.length + ([(api_Act.mk 4 v_32.Loc 0 v_32.Val)] : List api_Act).length) * 32 ≤ 140737488355328 then (letK (s_26.1 ++ ([(api_Act.mk 4 v_32.Loc 0 v_32.Val)] : List api_Act)) fun v_82 => letK (wr .i64 (s_26.2 + 1)) fun v_83 => some (Sum.inl (v_82, v_83))) else none) else (if v_32.Kind = 2 then (if (s_26.1.length + ([(api_Act.mk 2 v_32.Loc 0 v_32.Val)] : List api_Act).length) * 32 ≤ 140737488355328 then (letK (s_26.1 ++ ([(api_Act.mk 2 v_32.Loc 0 v_32.Val)] : List api_Act)) fun v_86 => letK (wr .i64 (s_26.2 + 1)) fun v_87 => some (Sum.inl (v_86, v_87))) else none) else (letK (wr .i64 (s_26.2 + 1)) fun v_88 => some (Sum.inl (s_26.1, v_88))))))))) else none) else (some (Sum.inr s_26.1))
theorem thread_Acts.k2_le (a_1 : List api_Event) (a_2 : List api_Loc) (o_6 : List (Int × Int)) (s_26 : (List api_Act) × Int) : OLe (thread_Acts.k2 a_1 a_2 o_6 s_26) (thread_Acts.l2 a_1 a_2 o_6 s_26) := by
 unfold thread_Acts.k2 thread_Acts.l2
 repeat' with_reducible first | refine OLe.lt (fun _ => ?_) | refine OLe.lp (fun _ => ?_) | refine OLe.bind ?_ (fun _ => ?_) | refine OLe.ite ?_ ?_ | exact OLe.rfl' | split
 all_goals try simp_all only [Option.some.injEq, reduceCtorEq]
 all_goals try subst_vars
 repeat' with_reducible first | refine OLe.lt (fun _ => ?_) | refine OLe.lp (fun _ => ?_) | refine OLe.bind ?_ (fun _ => ?_) | refine OLe.ite ?_ ?_ | exact OLe.rfl' | split
 all_goals (exfalso; simp_all)
def thread_Acts.k1 (a_1 : List api_Event) (s_5 : (List (Int × Int)) × Int) : Option (((List (Int × Int)) × Int) ⊕ (List (Int × Int))) :=
 if s_5.2 < (a_1.length : Int) then (if 0 ≤ s_5.2 ∧ s_5.2 < (a_1.length : Int) then (letK (gi a_1 s_5.2) fun v_11 => (thread_Acts_1.m s_5.2 a_1).bind fun r_12 => if r_12 = true then (letK (wr .i64 (v_11.Pair - 1)) fun v_15 => match aget s_5.1 v_15 with | none => (letK (aset s_5.1 v_15 1) fun v_19 => letK (wr .i64 (s_5.2 + 1)) fun v_20 => some (Sum.inl (v_19, v_20))) | some v_16 => (letK (aset s_5.1 v_15 (wr .i64 (v_16 + 1))) fun v_21 => letK (wr .i64 (s_5.2 + 1)) fun v_22 => some (Sum.inl (v_21, v_22)))) else (letK (wr .i64 (s_5.2 + 1)) fun v_23 => some (Sum.inl (s_5.1, v_23)))) else none) else (some (Sum.inr s_5.1))
theorem thread_Acts.k1_le (a_1 : List api_Event) (s_5 : (List (Int × Int)) × Int) : OLe (thread_Acts.k1 a_1 s_5) (thread_Acts.l1 a_1 s_5) := by
 unfold thread_Acts.k1 thread_Acts.l1
 repeat' with_reducible first | exact thread_Acts.k2_le .. | refine OLe.lt (fun _ => ?_) | refine OLe.lp (fun _ => ?_) | refine OLe.bind ?_ (fun _ => ?_) | refine OLe.ite ?_ ?_ | exact OLe.rfl' | split
 all_goals try simp_all only [Option.some.injEq, reduceCtorEq]
 all_goals try subst_vars
 repeat' with_reducible first | exact thread_Acts.k2_le .. | refine OLe.lt (fun _ => ?_) | refine OLe.lp (fun _ => ?_) | refine OLe.bind ?_ (fun _ => ?_) | refine OLe.ite ?_ ?_ | exact OLe.rfl' | split
 all_goals (exfalso; simp_all)
def thread_Acts.k (a_1 : List api_Event) (a_2 : List api_Loc) : Option (List api_Act) :=
 (lpK (thread_Acts.k1 a_1) ((([] : List (Int × Int)), 0) : (List (Int × Int)) × Int)).bind fun o_6 => (lpK (thread_Acts.k2 a_1 a_2 o_6) ((([] : List api_Act), 0) : (List api_Act) × Int)).bind fun o_27 => some o_27
theorem thread_Acts.k_le (a_1 : List api_Event) (a_2 : List api_Loc) : OLe (thread_Acts.k a_1 a_2) (thread_Acts.m a_1 a_2) := by
 unfold thread_Acts.k thread_Acts.m
 repeat' with_reducible first | exact thread_Acts.k2_le .. | exact thread_Acts.k1_le .. | refine OLe.lt (fun _ => ?_) | refine OLe.lp (fun _ => ?_) | refine OLe.bind ?_ (fun _ => ?_) | refine OLe.ite ?_ ?_ | exact OLe.rfl' | split
noncomputable def selvageref08_Same.F : FI Try.prog 19 := ⟨Try.f19, 26, (Try.f19.body.getD .skip), Try.f19.results.toList, Try.call19, Try.func19, by kernel_rfl, by kernel_rfl, by kernel_rfl⟩
def selvageref08_Same.l1 (a_1 : List api_Act) (a_2 : List api_Act) (s_7 : Int) : Option (Int ⊕ (Unit ⊕ Unit)) :=
 if s_7 < (a_1.length : Int) then (if 0 ≤ s_7 ∧ s_7 < (a_1.length : Int) then (letC (gi a_1 s_7) fun v_15 => if 0 ≤ s_7 ∧ s_7 < (a_2.length : Int) then (letC (gi a_2 s_7) fun v_17 => if ((v_15.Kind == v_17.Kind) && ((v_15.Loc == v_17.Loc) && ((v_15.Old == v_17.Old) && ((v_15.New == v_17.New) && true)))) = true then (some (Sum.inl (wr .i64 (s_7 + 1)))) else (some (Sum.inr (Sum.inl ())))) else none) else none) else (some (Sum.inr (Sum.inr (()))))
def selvageref08_Same.m (a_1 : List api_Act) (a_2 : List api_Act) (a_3 : Nat) : Option (Bool) :=
 if (a_1.length : Int) = (a_2.length : Int) then ((B.loop (selvageref08_Same.l1 a_1 a_2) (0 : Int)).bind fun o_8 => match o_8 with | Sum.inl s_11 => (some false) | Sum.inr (s_12) => (some true)) else (some false)
noncomputable def selvageref08_Same.o (a_1 : List api_Act) (a_2 : List api_Act) (a_3 : Nat) (r : Bool) : Out := .ret (.v (.bool r)) [.dead, .dead] []
theorem selvageref08_Same.ev {a_1 : List api_Act} {a_2 : List api_Act} {a_3 : Nat} {r : Bool} (H : selvageref08_Same.m a_1 a_2 a_3 = some r) : Ev Try.prog 19 [.sl 0 0 a_1.length 0 a_1.length, .sl 0 1 a_3 0 a_3] [.arr true 64 4 a_1.length (a_1.map api_Act.c), .arr false 64 4 a_3 (a_2.map api_Act.c)] [] (selvageref08_Same.o a_1 a_2 a_3 r) := by
 unfold selvageref08_Same.m at H
 rcases ic H with ⟨h_4, H⟩ | ⟨h_4, H⟩
 ·obtain ⟨o_8, e_9, H⟩ := bdE H
  have j_10 := Runs.loop (P := Try.prog) (N := selvageref08_Same.F.N) (m0 := 2) (c := sub_ selvageref08_Same.F.c [1, 1, 0, 1, 0, 0]) (f := (selvageref08_Same.l1 a_1 a_2)) (St := fun s_7 => ⟨[(0, .ro false 4 a_1.length (a_1.map api_Act.c)), (1, .ro false 4 a_2.length (a_2.map api_Act.c)), (5, .v (.int .i64 s_7))], [.dead, .dead], []⟩) (xo := (fun o => match o with | Sum.inl _ => .ret | Sum.inr (_) => (.exit 0) : (Unit ⊕ Unit) → Ex)) (So := (fun o => match o with | Sum.inl s_11 => ⟨[(4, .v (.bool false))], [.dead, .dead], []⟩ | Sum.inr (s_12) => ⟨[], [.dead, .dead], []⟩ : (Unit ⊕ Unit) → ASt)) (by intro o; rcases o with _ | _ <;> simp) (fun s_7 z H => by
   unfold selvageref08_Same.l1 at H
   rcases ic H with ⟨h_13, H⟩ | ⟨h_13, H⟩
   ·obtain ⟨g_14, H⟩ := gdE H
    let v_15 : api_Act := gi a_1 s_7
    replace H := ltD H
    obtain ⟨g_16, H⟩ := gdE H
    let v_17 : api_Act := gi a_2 s_7
    replace H := ltD H
    rcases ie H with ⟨h_18, H⟩ | ⟨h_18, H⟩
    ·obtain rfl := sj H
     exact fn [br h_13, ix api_Act.c g_14, ix api_Act.c g_16, eqs (P := Try.prog) (xt := 64) ⟨by kernel_rfl, by kernel_rfl⟩, bn h_18] (by kernel_rfl)
    ·obtain rfl := sj H
     exact fn [br h_13, ix api_Act.c g_14, ix api_Act.c g_16, eqs (P := Try.prog) (xt := 64) ⟨by kernel_rfl, by kernel_rfl⟩, bn h_18] (by kernel_rfl)
   ·obtain rfl := sj H
    exact fn [br h_13] (by kernel_rfl)) e_9
  rcases o_8 with s_11 | s_12
  ·obtain rfl := sj H
   exact selvageref08_Same.F.run tb mixed [here 0, frz 0 [0] [], frz 1 [1] [], ron 1 none api_Act.c a_2, bn h_4, su j_10] rfl (by kernel_rfl)
  ·obtain rfl := sj H
   exact selvageref08_Same.F.run tb mixed [here 0, frz 0 [0] [], frz 1 [1] [], ron 1 none api_Act.c a_2, bn h_4, su j_10] rfl (by kernel_rfl)
 ·obtain rfl := sj H
  exact selvageref08_Same.F.run tb mixed [here 0, frz 0 [0] [], frz 1 [1] [], ron 1 none api_Act.c a_2, bn h_4] rfl (by kernel_rfl)
def selvageref08_Same.k1 (a_1 : List api_Act) (a_2 : List api_Act) (s_7 : Int) : Option (Int ⊕ (Unit ⊕ Unit)) :=
 if s_7 < (a_1.length : Int) then (if 0 ≤ s_7 ∧ s_7 < (a_1.length : Int) then (letK (gi a_1 s_7) fun v_15 => if 0 ≤ s_7 ∧ s_7 < (a_2.length : Int) then (letK (gi a_2 s_7) fun v_17 => if ((v_15.Kind == v_17.Kind) && ((v_15.Loc == v_17.Loc) && ((v_15.Old == v_17.Old) && ((v_15.New == v_17.New) && true)))) = true then (some (Sum.inl (wr .i64 (s_7 + 1)))) else (some (Sum.inr (Sum.inl ())))) else none) else none) else (some (Sum.inr (Sum.inr (()))))
theorem selvageref08_Same.k1_le (a_1 : List api_Act) (a_2 : List api_Act) (s_7 : Int) : OLe (selvageref08_Same.k1 a_1 a_2 s_7) (selvageref08_Same.l1 a_1 a_2 s_7) := by
 unfold selvageref08_Same.k1 selvageref08_Same.l1
 repeat' with_reducible first | refine OLe.lt (fun _ => ?_) | refine OLe.lp (fun _ => ?_) | refine OLe.bind ?_ (fun _ => ?_) | refine OLe.ite ?_ ?_ | exact OLe.rfl' | split
def selvageref08_Same.k (a_1 : List api_Act) (a_2 : List api_Act) (a_3 : Nat) : Option (Bool) :=
 if (a_1.length : Int) = (a_2.length : Int) then ((lpK (selvageref08_Same.k1 a_1 a_2) (0 : Int)).bind fun o_8 => match o_8 with | Sum.inl s_11 => (some false) | Sum.inr (s_12) => (some true)) else (some false)
theorem selvageref08_Same.k_le (a_1 : List api_Act) (a_2 : List api_Act) (a_3 : Nat) : OLe (selvageref08_Same.k a_1 a_2 a_3) (selvageref08_Same.m a_1 a_2 a_3) := by
 unfold selvageref08_Same.k selvageref08_Same.m
 repeat' with_reducible first | exact selvageref08_Same.k1_le .. | refine OLe.lt (fun _ => ?_) | refine OLe.lp (fun _ => ?_) | refine OLe.bind ?_ (fun _ => ?_) | refine OLe.ite ?_ ?_ | exact OLe.rfl' | split
 all_goals (exfalso; simp_all)
noncomputable def selvagelaw17_awake.F : FI Try.prog 7 := ⟨Try.f7, 35, (Try.f7.body.getD .skip), Try.f7.results.toList, Try.call7, Try.func7, by kernel_rfl, by kernel_rfl, by kernel_rfl⟩
def selvagelaw17_awake.m : Option (Bool) :=
 if 0 ≤ (1 : Int) ∧ (1 : Int) ≤ 1 ∧ (1 : Int) * (16 : Nat) ≤ 140737488355328 then (letC (List.replicate (1 : Int).toNat ((api_Loc.mk false 0) : api_Loc)) fun v_2 => (emit_Emit.m v_2 3 ([(api_Ins.mk 6 0 0 0 0 0 0 0), (api_Ins.mk 15 0 0 0 0 0 0 0), (api_Ins.mk 18 0 0 0 0 0 0 0)] : List api_Ins) 3).bind fun r_3 => match r_3 with | Sum.inl r_5 => ((thread_Do.m r_5 1 0 ([7] : List Int) 1).bind fun r_8 => match r_8 with | Sum.inl r_10 => (some false) | Sum.inr (r_11) => (if r_11.2 = 1 then ((thread_Acts.m r_11.1 v_2).bind fun r_13 => (selvageref08_Same.m r_13 ([(api_Act.mk 1 0 7 0), (api_Act.mk 6 0 0 7)] : List api_Act) 2).bind fun r_15 => some r_15) else (some false))) | Sum.inr (Sum.inl r_6) => ((thread_Do.m ([] : List api_Inst) 1 0 ([7] : List Int) 1).bind fun r_17 => match r_17 with | Sum.inl r_19 => (if r_6 = 0 then (some false) else (some false)) | Sum.inr (r_20) => (if r_6 = 0 then (if r_20.2 = 1 then ((thread_Acts.m r_20.1 v_2).bind fun r_24 => (selvageref08_Same.m r_24 ([(api_Act.mk 1 0 7 0), (api_Act.mk 6 0 0 7)] : List api_Act) 2).bind fun r_26 => some r_26) else (some false)) else (some false))) | Sum.inr (Sum.inr (r_7)) => ((thread_Do.m r_7.1 1 0 ([7] : List Int) 1).bind fun r_28 => match r_28 with | Sum.inl r_30 => (some false) | Sum.inr (r_31) => (if r_31.2 = 1 then ((thread_Acts.m r_31.1 v_2).bind fun r_33 => (selvageref08_Same.m r_33 ([(api_Act.mk 1 0 7 0), (api_Act.mk 6 0 0 7)] : List api_Act) 2).bind fun r_35 => some r_35) else (some false)))) else none
noncomputable def selvagelaw17_awake.o (r : Bool) : Out := .ret (.v (.bool r)) [] []
theorem selvagelaw17_awake.ev {r : Bool} (H : selvagelaw17_awake.m = some r) : Ev Try.prog 7 [] [] [] (selvagelaw17_awake.o r) := by
 unfold selvagelaw17_awake.m at H
 obtain ⟨g_1, H⟩ := gdE H
 let v_2 : List api_Loc := List.replicate (1 : Int).toNat ((api_Loc.mk false 0) : api_Loc)
 replace H := ltD H
 obtain ⟨r_3, e_4, H⟩ := bdE H
 rcases r_3 with r_5 | r_6 | r_7
 ·obtain ⟨r_8, e_9, H⟩ := bdE H
  rcases r_8 with r_10 | r_11
  ·obtain rfl := sj H
   exact selvagelaw17_awake.F.run tb mixed [mk api_Loc.c ((api_Loc.mk false 0) : api_Loc) (api_Loc.c (api_Loc.mk false 0)) 16 (1 : Int) (1 : Int) g_1 rfl, here 2, frz 0 [1] [], ron 1 none api_Loc.c v_2, ca [1] (emit_Emit.ev e_4), here 3, frz 3 [2] [], ca [4] (thread_Do.ev e_9), au, pT, au, pF] rfl (by kernel_rfl)
  ·rcases ic H with ⟨h_12, H⟩ | ⟨h_12, H⟩
   ·obtain ⟨r_13, e_14, H⟩ := bdE H
    obtain ⟨r_15, e_16, H⟩ := bdE H
    obtain rfl := sj H
    exact selvagelaw17_awake.F.run tb mixed [mk api_Loc.c ((api_Loc.mk false 0) : api_Loc) (api_Loc.c (api_Loc.mk false 0)) 16 (1 : Int) (1 : Int) g_1 rfl, here 2, frz 0 [1] [], ron 1 none api_Loc.c v_2, ca [1] (emit_Emit.ev e_4), here 3, frz 3 [2] [], ca [4] (thread_Do.ev e_9), here 4, frz 8 [] [(9, 0)], au, pT, br h_12, ca [] (thread_Acts.ev e_14), ca [12, 13] (selvageref08_Same.ev e_16), pT] rfl (by kernel_rfl)
   ·obtain rfl := sj H
    exact selvagelaw17_awake.F.run tb mixed [mk api_Loc.c ((api_Loc.mk false 0) : api_Loc) (api_Loc.c (api_Loc.mk false 0)) 16 (1 : Int) (1 : Int) g_1 rfl, here 2, frz 0 [1] [], ron 1 none api_Loc.c v_2, ca [1] (emit_Emit.ev e_4), here 3, frz 3 [2] [], ca [4] (thread_Do.ev e_9), here 4, frz 8 [] [(9, 0)], au, pT, br h_12, pF] rfl (by kernel_rfl)
 ·obtain ⟨r_17, e_18, H⟩ := bdE H
  rcases r_17 with r_19 | r_20
  ·rcases ic H with ⟨h_21, H⟩ | ⟨h_21, H⟩
   ·obtain rfl := sj H
    exact selvagelaw17_awake.F.run tb mixed [mk api_Loc.c ((api_Loc.mk false 0) : api_Loc) (api_Loc.c (api_Loc.mk false 0)) 16 (1 : Int) (1 : Int) g_1 rfl, here 2, frz 0 [1] [], ron 1 none api_Loc.c v_2, ca [1] (emit_Emit.ev e_4), on_ 2 (nzm 5), ca [2] (thread_Do.ev e_18), br h_21, pT, au, pF] rfl (by kernel_rfl)
   ·obtain rfl := sj H
    exact selvagelaw17_awake.F.run tb mixed [mk api_Loc.c ((api_Loc.mk false 0) : api_Loc) (api_Loc.c (api_Loc.mk false 0)) 16 (1 : Int) (1 : Int) g_1 rfl, here 2, frz 0 [1] [], ron 1 none api_Loc.c v_2, ca [1] (emit_Emit.ev e_4), on_ 2 (nzm 5), ca [2] (thread_Do.ev e_18), br h_21, pF, au, pF] rfl (by kernel_rfl)
  ·rcases ic H with ⟨h_22, H⟩ | ⟨h_22, H⟩
   ·rcases ic H with ⟨h_23, H⟩ | ⟨h_23, H⟩
    ·obtain ⟨r_24, e_25, H⟩ := bdE H
     obtain ⟨r_26, e_27, H⟩ := bdE H
     obtain rfl := sj H
     exact selvagelaw17_awake.F.run tb mixed [mk api_Loc.c ((api_Loc.mk false 0) : api_Loc) (api_Loc.c (api_Loc.mk false 0)) 16 (1 : Int) (1 : Int) g_1 rfl, here 2, frz 0 [1] [], ron 1 none api_Loc.c v_2, ca [1] (emit_Emit.ev e_4), on_ 2 (nzm 5), ca [2] (thread_Do.ev e_18), here 4, frz 6 [] [(7, 0)], br h_22, pT, br h_23, ca [] (thread_Acts.ev e_25), ca [10, 11] (selvageref08_Same.ev e_27), pT] rfl (by kernel_rfl)
    ·obtain rfl := sj H
     exact selvagelaw17_awake.F.run tb mixed [mk api_Loc.c ((api_Loc.mk false 0) : api_Loc) (api_Loc.c (api_Loc.mk false 0)) 16 (1 : Int) (1 : Int) g_1 rfl, here 2, frz 0 [1] [], ron 1 none api_Loc.c v_2, ca [1] (emit_Emit.ev e_4), on_ 2 (nzm 5), ca [2] (thread_Do.ev e_18), here 4, frz 6 [] [(7, 0)], br h_22, pT, br h_23, pF] rfl (by kernel_rfl)
   ·obtain rfl := sj H
    exact selvagelaw17_awake.F.run tb mixed [mk api_Loc.c ((api_Loc.mk false 0) : api_Loc) (api_Loc.c (api_Loc.mk false 0)) 16 (1 : Int) (1 : Int) g_1 rfl, here 2, frz 0 [1] [], ron 1 none api_Loc.c v_2, ca [1] (emit_Emit.ev e_4), on_ 2 (nzm 5), ca [2] (thread_Do.ev e_18), here 4, frz 6 [] [(7, 0)], br h_22, pF, au, pF] rfl (by kernel_rfl)
 ·obtain ⟨r_28, e_29, H⟩ := bdE H
  rcases r_28 with r_30 | r_31
  ·obtain rfl := sj H
   exact selvagelaw17_awake.F.run tb mixed [mk api_Loc.c ((api_Loc.mk false 0) : api_Loc) (api_Loc.c (api_Loc.mk false 0)) 16 (1 : Int) (1 : Int) g_1 rfl, here 2, frz 0 [1] [], ron 1 none api_Loc.c v_2, ca [1] (emit_Emit.ev e_4), here 3, frz 4 [2] [], ron 2 none api_Inst.c r_7.1, ca [5] (thread_Do.ev e_29), au, pT, au, pF] rfl (by kernel_rfl)
  ·rcases ic H with ⟨h_32, H⟩ | ⟨h_32, H⟩
   ·obtain ⟨r_33, e_34, H⟩ := bdE H
    obtain ⟨r_35, e_36, H⟩ := bdE H
    obtain rfl := sj H
    exact selvagelaw17_awake.F.run tb mixed [mk api_Loc.c ((api_Loc.mk false 0) : api_Loc) (api_Loc.c (api_Loc.mk false 0)) 16 (1 : Int) (1 : Int) g_1 rfl, here 2, frz 0 [1] [], ron 1 none api_Loc.c v_2, ca [1] (emit_Emit.ev e_4), here 3, frz 4 [2] [], ron 2 none api_Inst.c r_7.1, ca [5] (thread_Do.ev e_29), here 4, frz 9 [] [(10, 0)], au, pT, br h_32, ca [] (thread_Acts.ev e_34), ca [13, 14] (selvageref08_Same.ev e_36), pT] rfl (by kernel_rfl)
   ·obtain rfl := sj H
    exact selvagelaw17_awake.F.run tb mixed [mk api_Loc.c ((api_Loc.mk false 0) : api_Loc) (api_Loc.c (api_Loc.mk false 0)) 16 (1 : Int) (1 : Int) g_1 rfl, here 2, frz 0 [1] [], ron 1 none api_Loc.c v_2, ca [1] (emit_Emit.ev e_4), here 3, frz 4 [2] [], ron 2 none api_Inst.c r_7.1, ca [5] (thread_Do.ev e_29), here 4, frz 9 [] [(10, 0)], au, pT, br h_32, pF] rfl (by kernel_rfl)
def selvagelaw17_awake.k : Option (Bool) :=
 if 0 ≤ (1 : Int) ∧ (1 : Int) ≤ 1 ∧ (1 : Int) * (16 : Nat) ≤ 140737488355328 then (letK (List.replicate (1 : Int).toNat ((api_Loc.mk false 0) : api_Loc)) fun v_2 => (emit_Emit.k v_2 3 ([(api_Ins.mk 6 0 0 0 0 0 0 0), (api_Ins.mk 15 0 0 0 0 0 0 0), (api_Ins.mk 18 0 0 0 0 0 0 0)] : List api_Ins) 3).bind fun r_3 => match r_3 with | Sum.inl r_5 => ((thread_Do.k r_5 1 0 ([7] : List Int) 1).bind fun r_8 => match r_8 with | Sum.inl r_10 => (some false) | Sum.inr (r_11) => (if r_11.2 = 1 then ((thread_Acts.k r_11.1 v_2).bind fun r_13 => (selvageref08_Same.k r_13 ([(api_Act.mk 1 0 7 0), (api_Act.mk 6 0 0 7)] : List api_Act) 2).bind fun r_15 => some r_15) else (some false))) | Sum.inr (Sum.inl r_6) => ((thread_Do.k ([] : List api_Inst) 1 0 ([7] : List Int) 1).bind fun r_17 => match r_17 with | Sum.inl r_19 => (if r_6 = 0 then (some false) else (some false)) | Sum.inr (r_20) => (if r_6 = 0 then (if r_20.2 = 1 then ((thread_Acts.k r_20.1 v_2).bind fun r_24 => (selvageref08_Same.k r_24 ([(api_Act.mk 1 0 7 0), (api_Act.mk 6 0 0 7)] : List api_Act) 2).bind fun r_26 => some r_26) else (some false)) else (some false))) | Sum.inr (Sum.inr (r_7)) => ((thread_Do.k r_7.1 1 0 ([7] : List Int) 1).bind fun r_28 => match r_28 with | Sum.inl r_30 => (some false) | Sum.inr (r_31) => (if r_31.2 = 1 then ((thread_Acts.k r_31.1 v_2).bind fun r_33 => (selvageref08_Same.k r_33 ([(api_Act.mk 1 0 7 0), (api_Act.mk 6 0 0 7)] : List api_Act) 2).bind fun r_35 => some r_35) else (some false)))) else none
theorem selvagelaw17_awake.k_le : OLe (selvagelaw17_awake.k ) (selvagelaw17_awake.m ) := by
 unfold selvagelaw17_awake.k selvagelaw17_awake.m
 repeat' with_reducible first | exact emit_Emit.k_le .. | exact thread_Do.k_le .. | exact thread_Acts.k_le .. | exact selvageref08_Same.k_le .. | refine OLe.lt (fun _ => ?_) | refine OLe.lp (fun _ => ?_) | refine OLe.bind ?_ (fun _ => ?_) | refine OLe.ite ?_ ?_ | exact OLe.rfl' | split
 all_goals (exfalso; simp_all)
theorem selvagelaw17_awake_eq : selvagelaw17_awake.m = some true := selvagelaw17_awake.k_le.to (by kernel_rfl)
noncomputable def selvagelaw17_small.F : FI Try.prog 8 := ⟨Try.f8, 20, (Try.f8.body.getD .skip), Try.f8.results.toList, Try.call8, Try.func8, by kernel_rfl, by kernel_rfl, by kernel_rfl⟩
def selvagelaw17_small.m (a_1 : List api_Ins) (a_2 : List api_Loc) (a_3 : List Int) : Bool :=
 if (a_1.length : Int) ≤ 410 then (if (a_2.length : Int) ≤ 16 then ((decide ((a_3.length : Int) ≤ 200))) else (false)) else (false)
noncomputable def selvagelaw17_small.o (a_1 : List api_Ins) (a_2 : List api_Loc) (a_3 : List Int) (r : Bool) : Out := .ret (.v (.bool r)) [] []
theorem selvagelaw17_small.ev {a_1 : List api_Ins} {a_2 : List api_Loc} {a_3 : List Int} {r : Bool} (H : selvagelaw17_small.m a_1 a_2 a_3 = r) : Ev Try.prog 8 [.ro false 8 a_1.length (a_1.map api_Ins.c), .ro false 2 a_2.length (a_2.map api_Loc.c), .ro false 1 a_3.length (a_3.map (cI .i64))] [] [] (selvagelaw17_small.o a_1 a_2 a_3 r) := by
 unfold selvagelaw17_small.m at H
 rcases ic H with ⟨h_4, H⟩ | ⟨h_4, H⟩
 ·rcases ic H with ⟨h_5, H⟩ | ⟨h_5, H⟩
  ·subst H
   exact selvagelaw17_small.F.run tb mixed [br h_4, pT, br h_5, pT] rfl (by kernel_rfl)
  ·subst H
   exact selvagelaw17_small.F.run tb mixed [br h_4, pT, br h_5, pF] rfl (by kernel_rfl)
 ·subst H
  exact selvagelaw17_small.F.run tb mixed [br h_4, pF, au, pF] rfl (by kernel_rfl)
noncomputable def selvageref10_Copy.F : FI Try.prog 9 := ⟨Try.f9, 6, (Try.f9.body.getD .skip), Try.f9.results.toList, Try.call9, Try.func9, by kernel_rfl, by kernel_rfl, by kernel_rfl⟩
def selvageref10_Copy.m (a_1 : List api_Ins) : Option (List api_Ins) :=
 if (([] : List api_Ins).length + a_1.length) * 64 ≤ 140737488355328 then (letC (([] : List api_Ins) ++ a_1) fun v_3 => some v_3) else none
noncomputable def selvageref10_Copy.o (a_1 : List api_Ins) (r : List api_Ins) : Out := .ret (.sl 0 0 r.length 0 r.length) [.arr false 62 8 r.length (r.map api_Ins.c)] []
theorem selvageref10_Copy.ev {a_1 : List api_Ins} {r : List api_Ins} (H : selvageref10_Copy.m a_1 = some r) : Ev Try.prog 9 [.ro false 8 a_1.length (a_1.map api_Ins.c)] [] [] (selvageref10_Copy.o a_1 r) := by
 unfold selvageref10_Copy.m at H
 obtain ⟨g_2, H⟩ := gdE H
 let v_3 : List api_Ins := ([] : List api_Ins) ++ a_1
 replace H := ltD H
 obtain rfl := sj H
 exact selvageref10_Copy.F.run tb mixed [ap api_Ins.c 64 false ([] : List api_Ins) a_1 g_2 (fun h => by cases h)] rfl (by kernel_rfl)
noncomputable def emit_Emit_2.F : FI Try.prog 10 := ⟨Try.f10, 86, (Try.f10.body.getD .skip), Try.f10.results.toList, Try.call10, Try.func10, by kernel_rfl, by kernel_rfl, by kernel_rfl⟩
def emit_Emit_2.l2 (s_24 : Unit) : Option (Unit ⊕ Unit) :=
 some (Sum.inr ())
def emit_Emit_2.l1 (a_1 : List api_Ins) (s_11 : (List api_Inst) × (List Int) × Int) : Option (((List api_Inst) × (List Int) × Int) ⊕ ((List api_Inst) × (List Int))) :=
 if s_11.2.2 < (a_1.length : Int) then (if 0 ≤ s_11.2.2 ∧ s_11.2.2 < (a_1.length : Int) then (letC (gi a_1 s_11.2.2) fun v_17 => if (s_11.2.1.length + ([(s_11.1.length : Int)] : List Int).length) * 8 ≤ 140737488355328 then (letC (s_11.2.1 ++ ([(s_11.1.length : Int)] : List Int)) fun v_19 => (emit_writer_piece_3.m v_17 s_11.1 v_19).bind fun r_20 => letC (wr .i64 (s_11.2.2 + 1)) fun v_22 => some (Sum.inl (r_20, v_19, v_22))) else none) else none) else (some (Sum.inr (s_11.1, s_11.2.1)))
def emit_Emit_2.l4 (o_31 : (List api_Inst) × (List Int) × (List emit_jump)) (s_44 : (List api_Inst) × Int) : Option (((List api_Inst) × Int) ⊕ (List api_Inst)) :=
 if s_44.2 < (o_31.2.2.length : Int) then (if 0 ≤ s_44.2 ∧ s_44.2 < (o_31.2.2.length : Int) then (letC (gi o_31.2.2 s_44.2) fun v_50 => if 0 ≤ v_50.to_ ∧ v_50.to_ < (o_31.2.1.length : Int) then (letC (gi o_31.2.1 v_50.to_) fun v_52 => letC (wr .i64 (v_52 - v_50.from_)) fun v_53 => if 0 ≤ v_50.from_ ∧ v_50.from_ < (o_31.1.length : Int) then (if 0 ≤ v_50.from_ ∧ v_50.from_ < (s_44.1.length : Int) then (letC (gi s_44.1 v_50.from_) fun v_56 => letC (s_44.1.set v_50.from_.toNat (api_Inst.mk v_56.Op v_56.T v_56.A v_56.B (wr .i64 ((4 : Int) * v_53)))) fun v_57 => letC (wr .i64 (s_44.2 + 1)) fun v_58 => some (Sum.inl (v_57, v_58))) else none) else none) else none) else none) else (some (Sum.inr s_44.1))
def emit_Emit_2.l3 (a_1 : List api_Ins) (r_7 : (List api_Home) × Nat) (s_30 : (List api_Inst) × (List Int) × (List emit_jump) × Int) : Option (((List api_Inst) × (List Int) × (List emit_jump) × Int) ⊕ ((List api_Inst) × (List Int) × (List emit_jump))) :=
 if s_30.2.2.2 < (a_1.length : Int) then (if 0 ≤ s_30.2.2.2 ∧ s_30.2.2.2 < (a_1.length : Int) then (letC (gi a_1 s_30.2.2.2) fun v_36 => if (s_30.2.1.length + ([(s_30.1.length : Int)] : List Int).length) * 8 ≤ 140737488355328 then (letC (s_30.2.1 ++ ([(s_30.1.length : Int)] : List Int)) fun v_38 => (emit_writer_piece_7.m v_36 r_7.1 r_7.2 s_30.1 v_38 s_30.2.2.1).bind fun r_39 => letC (wr .i64 (s_30.2.2.2 + 1)) fun v_41 => some (Sum.inl (r_39.1, v_38, r_39.2, v_41))) else none) else none) else (some (Sum.inr (s_30.1, s_30.2.1, s_30.2.2.1)))
def emit_Emit_2.m (a_1 : List api_Ins) (a_2 : List api_Loc) (a_3 : Int) : Option ((List api_Inst) ⊕ Int ⊕ ((List api_Inst) × Nat)) :=
 (alloc_Homes.m a_1 a_2 a_3).bind fun r_4 => match r_4 with | Sum.inl r_6 => (if r_6 = 0 then ((B.loop (emit_Emit_2.l1 a_1) ((([] : List api_Inst), ([] : List Int), 0) : (List api_Inst) × (List Int) × Int)).bind fun o_12 => (B.loop emit_Emit_2.l2 (() : Unit)).bind fun o_25 => some (Sum.inl o_12.1)) else (some (Sum.inr (Sum.inl r_6)))) | Sum.inr (r_7) => ((B.loop (emit_Emit_2.l3 a_1 r_7) ((([] : List api_Inst), ([] : List Int), ([] : List emit_jump), 0) : (List api_Inst) × (List Int) × (List emit_jump) × Int)).bind fun o_31 => (B.loop (emit_Emit_2.l4 o_31) ((o_31.1, 0) : (List api_Inst) × Int)).bind fun o_45 => some (Sum.inr (Sum.inr ((o_45, o_31.1.length)))))
noncomputable def emit_Emit_2.o (a_1 : List api_Ins) (a_2 : List api_Loc) (a_3 : Int) (r : (List api_Inst) ⊕ Int ⊕ ((List api_Inst) × Nat)) : Out := match r with | Sum.inl r => .ret (.tup [.sl 0 1 r.length 0 r.length, .v (.int .i64 0)]) [.dead, .arr true 39 5 r.length (r.map api_Inst.c)] [] | Sum.inr (Sum.inl r) => .ret (.tup [.v (.slice none 0 0), .v (.int .i64 r)]) [] [] | Sum.inr (Sum.inr (r)) => .ret (.tup [.sl 0 2 r.2 0 r.2, .v (.int .i64 0)]) [.dead, .dead, .arr true 39 5 r.2 (r.1.map api_Inst.c)] []
theorem emit_Emit_2.ev {a_1 : List api_Ins} {a_2 : List api_Loc} {a_3 : Int} {r : (List api_Inst) ⊕ Int ⊕ ((List api_Inst) × Nat)} (H : emit_Emit_2.m a_1 a_2 a_3 = some r) : Ev Try.prog 10 [.ro false 8 a_1.length (a_1.map api_Ins.c), .ro false 2 a_2.length (a_2.map api_Loc.c), .v (.int .i64 a_3)] [] [] (emit_Emit_2.o a_1 a_2 a_3 r) := by
 unfold emit_Emit_2.m at H
 obtain ⟨r_4, e_5, H⟩ := bdE H
 rcases r_4 with r_6 | r_7
 ·rcases ic H with ⟨h_8, H⟩ | ⟨h_8, H⟩
  ·obtain ⟨o_12, e_13, H⟩ := bdE H
   have j_14 := Runs.loop (P := Try.prog) (N := emit_Emit_2.F.N) (m0 := 0) (c := sub_ emit_Emit_2.F.c [1, 1, 1, 1, 0, 1, 0, 0]) (f := (emit_Emit_2.l1 a_1)) (St := fun s_11 => ⟨[(10, .ref 0 0), (28, .ro false 8 a_1.length (a_1.map api_Ins.c)), (29, .v (.int .i64 (a_1.length : Int))), (30, .v (.int .i64 s_11.2.2))], [.box [.v (.slice none 0 0), .sl 0 1 s_11.1.length 0 s_11.1.length, .sl 0 2 s_11.2.1.length 0 s_11.2.1.length, .v (.slice none 0 0)], .arr true 39 5 s_11.1.length (s_11.1.map api_Inst.c), .arr true 3 1 s_11.2.1.length (s_11.2.1.map (cI .i64))], []⟩) (xo := (fun _ => (.exit 0) : ((List api_Inst) × (List Int)) → Ex)) (So := (fun o_12 => ⟨[(10, .ref 0 0)], [.box [.v (.slice none 0 0), .sl 0 1 o_12.1.length 0 o_12.1.length, .sl 0 2 o_12.2.length 0 o_12.2.length, .v (.slice none 0 0)], .arr true 39 5 o_12.1.length (o_12.1.map api_Inst.c), .arr true 3 1 o_12.2.length (o_12.2.map (cI .i64))], []⟩ : ((List api_Inst) × (List Int)) → ASt)) (by intro o; simp) (fun s_11 z H => by
    unfold emit_Emit_2.l1 at H
    rcases ic H with ⟨h_15, H⟩ | ⟨h_15, H⟩
    ·obtain ⟨g_16, H⟩ := gdE H
     let v_17 : api_Ins := gi a_1 s_11.2.2
     replace H := ltD H
     obtain ⟨g_18, H⟩ := gdE H
     let v_19 : List Int := s_11.2.1 ++ ([(s_11.1.length : Int)] : List Int)
     replace H := ltD H
     obtain ⟨r_20, e_21, H⟩ := bdE H
     let v_22 : Int := wr .i64 (s_11.2.2 + 1)
     replace H := ltD H
     obtain rfl := sj H
     exact fn [br h_15, ix api_Ins.c g_16, ap (cI .i64) 8 false s_11.2.1 ([(s_11.1.length : Int)] : List Int) g_18 (fun h => by cases h), ca [0, 1, 2] (emit_writer_piece_3.ev e_21)] (by kernel_rfl)
    ·obtain rfl := sj H
     exact fn [br h_15] (by kernel_rfl)) e_13
   obtain ⟨o_25, e_26, H⟩ := bdE H
   have j_27 := Runs.loop (P := Try.prog) (N := emit_Emit_2.F.N) (m0 := 0) (c := sub_ emit_Emit_2.F.c [1, 1, 1, 1, 1, 0, 1, 0, 0]) (f := emit_Emit_2.l2) (St := fun s_24 => ⟨[(10, .ref 0 0), (55, .v (.slice none 0 0)), (56, .v (.int .i64 0)), (57, .v (.int .i64 0))], [.box [.v (.slice none 0 0), .sl 0 1 o_12.1.length 0 o_12.1.length, .sl 0 2 o_12.2.length 0 o_12.2.length, .v (.slice none 0 0)], .arr true 39 5 o_12.1.length (o_12.1.map api_Inst.c), .arr true 3 1 o_12.2.length (o_12.2.map (cI .i64))], []⟩) (xo := (fun _ => (.exit 2) : Unit → Ex)) (So := (fun o_25 => ⟨[(10, .ref 0 0)], [.box [.v (.slice none 0 0), .sl 0 1 o_12.1.length 0 o_12.1.length, .sl 0 2 o_12.2.length 0 o_12.2.length, .v (.slice none 0 0)], .arr true 39 5 o_12.1.length (o_12.1.map api_Inst.c), .arr true 3 1 o_12.2.length (o_12.2.map (cI .i64))], []⟩ : Unit → ASt)) (by intro o; simp) (fun s_24 z H => by
    unfold emit_Emit_2.l2 at H
    obtain rfl := sj H
    exact fn [au] (by kernel_rfl)) e_26
   obtain rfl := sj H
   exact emit_Emit_2.F.run tb mixed [ca [] (alloc_Homes.ev e_5), bn h_8, su j_14, adB 0 1 (some 39) 5, adB 0 2 (some 3) 1, su j_27] rfl (by kernel_rfl)
  ·obtain rfl := sj H
   exact emit_Emit_2.F.run tb mixed [ca [] (alloc_Homes.ev e_5), bn h_8] rfl (by kernel_rfl)
 ·obtain ⟨o_31, e_32, H⟩ := bdE H
  have j_33 := Runs.loop (P := Try.prog) (N := emit_Emit_2.F.N) (m0 := 0) (c := sub_ emit_Emit_2.F.c [1, 1, 1, 1, 0, 1, 0, 0]) (f := (emit_Emit_2.l3 a_1 r_7)) (St := fun s_30 => ⟨[(10, .ref 1 0), (28, .ro false 8 a_1.length (a_1.map api_Ins.c)), (29, .v (.int .i64 (a_1.length : Int))), (30, .v (.int .i64 s_30.2.2.2))], [.arr true 79 2 r_7.2 (r_7.1.map api_Home.c), .box [.sl 0 0 r_7.2 0 r_7.2, .sl 0 2 s_30.1.length 0 s_30.1.length, .sl 0 3 s_30.2.1.length 0 s_30.2.1.length, .sl 0 4 s_30.2.2.1.length 0 s_30.2.2.1.length], .arr true 39 5 s_30.1.length (s_30.1.map api_Inst.c), .arr true 3 1 s_30.2.1.length (s_30.2.1.map (cI .i64)), .arr true 74 2 s_30.2.2.1.length (s_30.2.2.1.map emit_jump.c)], []⟩) (xo := (fun _ => (.exit 0) : ((List api_Inst) × (List Int) × (List emit_jump)) → Ex)) (So := (fun o_31 => ⟨[(10, .ref 1 0)], [.arr true 79 2 r_7.2 (r_7.1.map api_Home.c), .box [.sl 0 0 r_7.2 0 r_7.2, .sl 0 2 o_31.1.length 0 o_31.1.length, .sl 0 3 o_31.2.1.length 0 o_31.2.1.length, .sl 0 4 o_31.2.2.length 0 o_31.2.2.length], .arr true 39 5 o_31.1.length (o_31.1.map api_Inst.c), .arr true 3 1 o_31.2.1.length (o_31.2.1.map (cI .i64)), .arr true 74 2 o_31.2.2.length (o_31.2.2.map emit_jump.c)], []⟩ : ((List api_Inst) × (List Int) × (List emit_jump)) → ASt)) (by intro o; simp) (fun s_30 z H => by
   unfold emit_Emit_2.l3 at H
   rcases ic H with ⟨h_34, H⟩ | ⟨h_34, H⟩
   ·obtain ⟨g_35, H⟩ := gdE H
    let v_36 : api_Ins := gi a_1 s_30.2.2.2
    replace H := ltD H
    obtain ⟨g_37, H⟩ := gdE H
    let v_38 : List Int := s_30.2.1 ++ ([(s_30.1.length : Int)] : List Int)
    replace H := ltD H
    obtain ⟨r_39, e_40, H⟩ := bdE H
    let v_41 : Int := wr .i64 (s_30.2.2.2 + 1)
    replace H := ltD H
    obtain rfl := sj H
    exact fn [br h_34, ix api_Ins.c g_35, ap (cI .i64) 8 false s_30.2.1 ([(s_30.1.length : Int)] : List Int) g_37 (fun h => by cases h), ca [1, 0, 2, 3, 4] (emit_writer_piece_7.ev e_40)] (by kernel_rfl)
   ·obtain rfl := sj H
    exact fn [br h_34] (by kernel_rfl)) e_32
  obtain ⟨o_45, e_46, H⟩ := bdE H
  have j_47 := Runs.loop (P := Try.prog) (N := emit_Emit_2.F.N) (m0 := 0) (c := sub_ emit_Emit_2.F.c [1, 1, 1, 1, 1, 0, 1, 0, 0]) (f := (emit_Emit_2.l4 o_31)) (St := fun s_44 => ⟨[(10, .ref 1 0), (55, .sl 0 4 o_31.2.2.length 0 o_31.2.2.length), (56, .v (.int .i64 (o_31.2.2.length : Int))), (57, .v (.int .i64 s_44.2))], [.arr true 79 2 r_7.2 (r_7.1.map api_Home.c), .box [.sl 0 0 r_7.2 0 r_7.2, .sl 0 2 o_31.1.length 0 o_31.1.length, .sl 0 3 o_31.2.1.length 0 o_31.2.1.length, .sl 0 4 o_31.2.2.length 0 o_31.2.2.length], .arr true 39 5 o_31.1.length (s_44.1.map api_Inst.c), .arr true 3 1 o_31.2.1.length (o_31.2.1.map (cI .i64)), .arr true 74 2 o_31.2.2.length (o_31.2.2.map emit_jump.c)], []⟩) (xo := (fun _ => (.exit 2) : (List api_Inst) → Ex)) (So := (fun o_45 => ⟨[(10, .ref 1 0)], [.arr true 79 2 r_7.2 (r_7.1.map api_Home.c), .box [.sl 0 0 r_7.2 0 r_7.2, .sl 0 2 o_31.1.length 0 o_31.1.length, .sl 0 3 o_31.2.1.length 0 o_31.2.1.length, .sl 0 4 o_31.2.2.length 0 o_31.2.2.length], .arr true 39 5 o_31.1.length (o_45.map api_Inst.c), .arr true 3 1 o_31.2.1.length (o_31.2.1.map (cI .i64)), .arr true 74 2 o_31.2.2.length (o_31.2.2.map emit_jump.c)], []⟩ : (List api_Inst) → ASt)) (by intro o; simp) (fun s_44 z H => by
   unfold emit_Emit_2.l4 at H
   rcases ic H with ⟨h_48, H⟩ | ⟨h_48, H⟩
   ·obtain ⟨g_49, H⟩ := gdE H
    let v_50 : emit_jump := gi o_31.2.2 s_44.2
    replace H := ltD H
    obtain ⟨g_51, H⟩ := gdE H
    let v_52 : Int := gi o_31.2.1 v_50.to_
    replace H := ltD H
    let v_53 : Int := wr .i64 (v_52 - v_50.from_)
    replace H := ltD H
    obtain ⟨g_54, H⟩ := gdE H
    obtain ⟨g_55, H⟩ := gdE H
    let v_56 : api_Inst := gi s_44.1 v_50.from_
    replace H := ltD H
    let v_57 : List api_Inst := s_44.1.set v_50.from_.toNat (api_Inst.mk v_56.Op v_56.T v_56.A v_56.B (wr .i64 ((4 : Int) * v_53)))
    replace H := ltD H
    let v_58 : Int := wr .i64 (s_44.2 + 1)
    replace H := ltD H
    obtain rfl := sj H
    exact fn [br h_48, pf g_49, el emit_jump.c g_49, pf g_51, el (cI .i64) g_51, pf g_54, up api_Inst.c 4 [.v (.int .i64 (wr .i64 ((4 : Int) * v_53)))] (api_Inst.mk v_56.Op v_56.T v_56.A v_56.B (wr .i64 ((4 : Int) * v_53))) g_55 (by kernel_rfl)] (by kernel_rfl)
   ·obtain rfl := sj H
    exact fn [br h_48] (by kernel_rfl)) e_46
  obtain rfl := sj H
  exact emit_Emit_2.F.run tb mixed [ca [] (alloc_Homes.ev e_5), au, su j_33, adB 1 1 (some 39) 5, adB 1 2 (some 3) 1, adB 1 3 (some 74) 2, su j_47] rfl (by kernel_rfl)
noncomputable def selvageref10_letters.F : FI Try.prog 57 := ⟨Try.f57, 35, (Try.f57.body.getD .skip), Try.f57.results.toList, Try.call57, Try.func57, by kernel_rfl, by kernel_rfl, by kernel_rfl⟩
def selvageref10_letters.m (a_1 : Int) : ByteArray :=
 if a_1 = 1 then ((⟨#[100, 107]⟩ : ByteArray)) else (letC (if a_1 = 2 then ((true : Bool)) else (if a_1 = 3 then ((true : Bool)) else (if a_1 = 4 then ((true : Bool)) else (((decide (a_1 = 5)) : Bool)))) : Bool) fun o_3 => if o_3 = true then ((⟨#[100, 97, 98]⟩ : ByteArray)) else (if a_1 = 6 then ((⟨#[100, 108]⟩ : ByteArray)) else (if a_1 = 7 then ((⟨#[97, 108]⟩ : ByteArray)) else (if a_1 = 8 then ((⟨#[100, 109]⟩ : ByteArray)) else (if a_1 = 9 then ((⟨#[97, 109]⟩ : ByteArray)) else (letC (if a_1 = 10 then ((true : Bool)) else (((decide (a_1 = 11)) : Bool)) : Bool) fun o_14 => if o_14 = true then ((⟨#[100, 97, 109]⟩ : ByteArray)) else (if a_1 = 12 then ((⟨#[97, 98, 109, 116]⟩ : ByteArray)) else (if a_1 = 13 then ((⟨#[100, 97, 114]⟩ : ByteArray)) else (if a_1 = 14 then ((⟨#[97, 98, 114]⟩ : ByteArray)) else (if a_1 = 15 then ((⟨#[97]⟩ : ByteArray)) else (if a_1 = 16 then ((⟨#[97, 98, 116]⟩ : ByteArray)) else (if a_1 = 17 then ((⟨#[97, 98, 116]⟩ : ByteArray)) else (if a_1 = 18 then ((⟨#[46]⟩ : ByteArray)) else ((⟨#[]⟩ : ByteArray)))))))))))))))
noncomputable def selvageref10_letters.o (a_1 : Int) (r : ByteArray) : Out := .ret (.v (.string r)) [] []
theorem selvageref10_letters.ev {a_1 : Int} {r : ByteArray} (H : selvageref10_letters.m a_1 = r) : Ev Try.prog 57 [.v (.int .i64 a_1)] [] [] (selvageref10_letters.o a_1 r) := by
 unfold selvageref10_letters.m at H
 rcases ic H with ⟨h_2, H⟩ | ⟨h_2, H⟩
 ·subst H
  exact selvageref10_letters.F.run tb mixed [br h_2] rfl (by kernel_rfl)
 ·obtain ⟨o_3, e_4, H⟩ := ltE H
  have j_5 : Runs Try.prog selvageref10_letters.F.N 0 (sub_ selvageref10_letters.F.c [1, 0, 1, 0, 1, 1, 0, 1]) ⟨[(3, .v (.int .i64 a_1)), (6, .v (.bool (decide (a_1 = 2))))], [], []⟩ ((fun _ => .normal : Bool → Ex) o_3) ((fun o_3 => ⟨[(3, .v (.int .i64 a_1)), (6, .v (.bool o_3))], [], []⟩ : Bool → ASt) o_3) := by
   clear H
   have H := e_4
   clear e_4
   rcases ic H with ⟨h_6, H⟩ | ⟨h_6, H⟩
   ·subst H
    exact fn [br h_6] (by kernel_rfl)
   ·rcases ic H with ⟨h_7, H⟩ | ⟨h_7, H⟩
    ·subst H
     exact fn [br h_6, br h_7] (by kernel_rfl)
    ·rcases ic H with ⟨h_8, H⟩ | ⟨h_8, H⟩
     ·subst H
      exact fn [br h_6, br h_7, br h_8] (by kernel_rfl)
     ·subst H
      exact fn [br h_6, br h_7, br h_8] (by kernel_rfl)
  rcases ie H with ⟨h_9, H⟩ | ⟨h_9, H⟩
  ·subst H
   exact selvageref10_letters.F.run tb mixed [br h_2, sc_ j_5, br h_9] rfl (by kernel_rfl)
  ·rcases ic H with ⟨h_10, H⟩ | ⟨h_10, H⟩
   ·subst H
    exact selvageref10_letters.F.run tb mixed [br h_2, sc_ j_5, br h_9, br h_10] rfl (by kernel_rfl)
   ·rcases ic H with ⟨h_11, H⟩ | ⟨h_11, H⟩
    ·subst H
     exact selvageref10_letters.F.run tb mixed [br h_2, sc_ j_5, br h_9, br h_10, br h_11] rfl (by kernel_rfl)
    ·rcases ic H with ⟨h_12, H⟩ | ⟨h_12, H⟩
     ·subst H
      exact selvageref10_letters.F.run tb mixed [br h_2, sc_ j_5, br h_9, br h_10, br h_11, br h_12] rfl (by kernel_rfl)
     ·rcases ic H with ⟨h_13, H⟩ | ⟨h_13, H⟩
      ·subst H
       exact selvageref10_letters.F.run tb mixed [br h_2, sc_ j_5, br h_9, br h_10, br h_11, br h_12, br h_13] rfl (by kernel_rfl)
      ·obtain ⟨o_14, e_15, H⟩ := ltE H
       have j_16 : Runs Try.prog selvageref10_letters.F.N 0 (sub_ selvageref10_letters.F.c [1, 0, 1, 0, 1, 1, 1, 1, 1, 1, 1, 1, 1, 1, 1, 1, 0, 1]) ⟨[(3, .v (.int .i64 a_1)), (19, .v (.bool (decide (a_1 = 10))))], [], []⟩ ((fun _ => .normal : Bool → Ex) o_14) ((fun o_14 => ⟨[(3, .v (.int .i64 a_1)), (19, .v (.bool o_14))], [], []⟩ : Bool → ASt) o_14) := by
        clear H
        have H := e_15
        clear e_15
        rcases ic H with ⟨h_17, H⟩ | ⟨h_17, H⟩
        ·subst H
         exact fn [br h_17] (by kernel_rfl)
        ·subst H
         exact fn [br h_17] (by kernel_rfl)
       rcases ie H with ⟨h_18, H⟩ | ⟨h_18, H⟩
       ·subst H
        exact selvageref10_letters.F.run tb mixed [br h_2, sc_ j_5, br h_9, br h_10, br h_11, br h_12, br h_13, sc_ j_16, br h_18] rfl (by kernel_rfl)
       ·rcases ic H with ⟨h_19, H⟩ | ⟨h_19, H⟩
        ·subst H
         exact selvageref10_letters.F.run tb mixed [br h_2, sc_ j_5, br h_9, br h_10, br h_11, br h_12, br h_13, sc_ j_16, br h_18, br h_19] rfl (by kernel_rfl)
        ·rcases ic H with ⟨h_20, H⟩ | ⟨h_20, H⟩
         ·subst H
          exact selvageref10_letters.F.run tb mixed [br h_2, sc_ j_5, br h_9, br h_10, br h_11, br h_12, br h_13, sc_ j_16, br h_18, br h_19, br h_20] rfl (by kernel_rfl)
         ·rcases ic H with ⟨h_21, H⟩ | ⟨h_21, H⟩
          ·subst H
           exact selvageref10_letters.F.run tb mixed [br h_2, sc_ j_5, br h_9, br h_10, br h_11, br h_12, br h_13, sc_ j_16, br h_18, br h_19, br h_20, br h_21] rfl (by kernel_rfl)
          ·rcases ic H with ⟨h_22, H⟩ | ⟨h_22, H⟩
           ·subst H
            exact selvageref10_letters.F.run tb mixed [br h_2, sc_ j_5, br h_9, br h_10, br h_11, br h_12, br h_13, sc_ j_16, br h_18, br h_19, br h_20, br h_21, br h_22] rfl (by kernel_rfl)
           ·rcases ic H with ⟨h_23, H⟩ | ⟨h_23, H⟩
            ·subst H
             exact selvageref10_letters.F.run tb mixed [br h_2, sc_ j_5, br h_9, br h_10, br h_11, br h_12, br h_13, sc_ j_16, br h_18, br h_19, br h_20, br h_21, br h_22, br h_23, au] rfl (by kernel_rfl)
            ·rcases ic H with ⟨h_24, H⟩ | ⟨h_24, H⟩
             ·subst H
              exact selvageref10_letters.F.run tb mixed [br h_2, sc_ j_5, br h_9, br h_10, br h_11, br h_12, br h_13, sc_ j_16, br h_18, br h_19, br h_20, br h_21, br h_22, br h_23, br h_24] rfl (by kernel_rfl)
             ·rcases ic H with ⟨h_25, H⟩ | ⟨h_25, H⟩
              ·subst H
               exact selvageref10_letters.F.run tb mixed [br h_2, sc_ j_5, br h_9, br h_10, br h_11, br h_12, br h_13, sc_ j_16, br h_18, br h_19, br h_20, br h_21, br h_22, br h_23, br h_24, br h_25] rfl (by kernel_rfl)
              ·subst H
               exact selvageref10_letters.F.run tb mixed [br h_2, sc_ j_5, br h_9, br h_10, br h_11, br h_12, br h_13, sc_ j_16, br h_18, br h_19, br h_20, br h_21, br h_22, br h_23, br h_24, br h_25] rfl (by kernel_rfl)
noncomputable def selvageref10_Has.F : FI Try.prog 23 := ⟨Try.f23, 20, (Try.f23.body.getD .skip), Try.f23.results.toList, Try.call23, Try.func23, by kernel_rfl, by kernel_rfl, by kernel_rfl⟩
def selvageref10_Has.l1 (a_2 : Int) (r_3 : ByteArray) (s_7 : Int) : Option (Int ⊕ (Unit ⊕ Unit)) :=
 if s_7 < (r_3.size : Int) then (if 0 ≤ s_7 ∧ s_7 < (r_3.size : Int) then (if (sb r_3 s_7) = a_2 then (some (Sum.inr (Sum.inl ()))) else (some (Sum.inl (wr .i64 (s_7 + 1))))) else none) else (some (Sum.inr (Sum.inr (()))))
def selvageref10_Has.m (a_1 : Int) (a_2 : Int) : Option (Bool) :=
 letC (selvageref10_letters.m a_1) fun r_3 => (B.loop (selvageref10_Has.l1 a_2 r_3) (0 : Int)).bind fun o_8 => match o_8 with | Sum.inl s_11 => (some true) | Sum.inr (s_12) => (some false)
noncomputable def selvageref10_Has.o (a_1 : Int) (a_2 : Int) (r : Bool) : Out := .ret (.v (.bool r)) [] []
theorem selvageref10_Has.ev {a_1 : Int} {a_2 : Int} {r : Bool} (H : selvageref10_Has.m a_1 a_2 = some r) : Ev Try.prog 23 [.v (.int .i64 a_1), .v (.int .u8 a_2)] [] [] (selvageref10_Has.o a_1 a_2 r) := by
 unfold selvageref10_Has.m at H
 obtain ⟨r_3, e_4, H⟩ := ltE H
 obtain ⟨o_8, e_9, H⟩ := bdE H
 have j_10 := Runs.loop (P := Try.prog) (N := selvageref10_Has.F.N) (m0 := 0) (c := sub_ selvageref10_Has.F.c [1, 1, 0, 1, 0, 0]) (f := (selvageref10_Has.l1 a_2 r_3)) (St := fun s_7 => ⟨[(1, .v (.int .u8 a_2)), (5, .v (.string r_3)), (6, .v (.int .i64 s_7))], [], []⟩) (xo := (fun o => match o with | Sum.inl _ => .ret | Sum.inr (_) => (.exit 0) : (Unit ⊕ Unit) → Ex)) (So := (fun o => match o with | Sum.inl s_11 => ⟨[(4, .v (.bool true))], [], []⟩ | Sum.inr (s_12) => ⟨[], [], []⟩ : (Unit ⊕ Unit) → ASt)) (by intro o; rcases o with _ | _ <;> simp) (fun s_7 z H => by
  unfold selvageref10_Has.l1 at H
  rcases ic H with ⟨h_13, H⟩ | ⟨h_13, H⟩
  ·obtain ⟨g_14, H⟩ := gdE H
   rcases ic H with ⟨h_15, H⟩ | ⟨h_15, H⟩
   ·obtain rfl := sj H
    exact fn [br h_13, pf g_14, br h_15] (by kernel_rfl)
   ·obtain rfl := sj H
    exact fn [br h_13, pf g_14, br h_15] (by kernel_rfl)
  ·obtain rfl := sj H
   exact fn [br h_13] (by kernel_rfl)) e_9
 rcases o_8 with s_11 | s_12
 ·obtain rfl := sj H
  exact selvageref10_Has.F.run tb mixed [ca [] (selvageref10_letters.ev e_4), su j_10] rfl (by kernel_rfl)
 ·obtain rfl := sj H
  exact selvageref10_Has.F.run tb mixed [ca [] (selvageref10_letters.ev e_4), su j_10] rfl (by kernel_rfl)
def selvageref10_Has.k1 (a_2 : Int) (r_3 : ByteArray) (s_7 : Int) : Option (Int ⊕ (Unit ⊕ Unit)) :=
 if s_7 < (r_3.size : Int) then (if 0 ≤ s_7 ∧ s_7 < (r_3.size : Int) then (if (sb r_3 s_7) = a_2 then (some (Sum.inr (Sum.inl ()))) else (some (Sum.inl (wr .i64 (s_7 + 1))))) else none) else (some (Sum.inr (Sum.inr (()))))
theorem selvageref10_Has.k1_le (a_2 : Int) (r_3 : ByteArray) (s_7 : Int) : OLe (selvageref10_Has.k1 a_2 r_3 s_7) (selvageref10_Has.l1 a_2 r_3 s_7) := by
 unfold selvageref10_Has.k1 selvageref10_Has.l1
 repeat' with_reducible first | refine OLe.lt (fun _ => ?_) | refine OLe.lp (fun _ => ?_) | refine OLe.bind ?_ (fun _ => ?_) | refine OLe.ite ?_ ?_ | exact OLe.rfl' | split
def selvageref10_Has.k (a_1 : Int) (a_2 : Int) : Option (Bool) :=
 letK (selvageref10_letters.m a_1) fun r_3 => (lpK (selvageref10_Has.k1 a_2 r_3) (0 : Int)).bind fun o_8 => match o_8 with | Sum.inl s_11 => (some true) | Sum.inr (s_12) => (some false)
theorem selvageref10_Has.k_le (a_1 : Int) (a_2 : Int) : OLe (selvageref10_Has.k a_1 a_2) (selvageref10_Has.m a_1 a_2) := by
 unfold selvageref10_Has.k selvageref10_Has.m
 repeat' with_reducible first | exact selvageref10_Has.k1_le .. | refine OLe.lt (fun _ => ?_) | refine OLe.lp (fun _ => ?_) | refine OLe.bind ?_ (fun _ => ?_) | refine OLe.ite ?_ ?_ | exact OLe.rfl' | split
 all_goals (exfalso; simp_all)
noncomputable def selvageref10_field.F : FI Try.prog 88 := ⟨Try.f88, 14, (Try.f88.body.getD .skip), Try.f88.results.toList, Try.call88, Try.func88, by kernel_rfl, by kernel_rfl, by kernel_rfl⟩
def selvageref10_field.m (a_1 : Bool) (a_2 : Int) : Bool :=
 if a_1 = true then (if a_2 ≥ 0 then ((decide (a_2 ≤ 399))) else (false)) else ((decide (a_2 = 0)))
noncomputable def selvageref10_field.o (a_1 : Bool) (a_2 : Int) (r : Bool) : Out := .ret (.v (.bool r)) [] []
theorem selvageref10_field.ev {a_1 : Bool} {a_2 : Int} {r : Bool} (H : selvageref10_field.m a_1 a_2 = r) : Ev Try.prog 88 [.v (.bool a_1), .v (.int .i64 a_2)] [] [] (selvageref10_field.o a_1 a_2 r) := by
 unfold selvageref10_field.m at H
 rcases ie H with ⟨h_3, H⟩ | ⟨h_3, H⟩
 ·rcases ic H with ⟨h_4, H⟩ | ⟨h_4, H⟩
  ·subst H
   exact selvageref10_field.F.run tb mixed [br h_3, br h_4, pT] rfl (by kernel_rfl)
  ·subst H
   exact selvageref10_field.F.run tb mixed [br h_3, br h_4, pF] rfl (by kernel_rfl)
 ·subst H
  exact selvageref10_field.F.run tb mixed [br h_3] rfl (by kernel_rfl)
noncomputable def selvageref10_plain.F : FI Try.prog 55 := ⟨Try.f55, 155, (Try.f55.body.getD .skip), Try.f55.results.toList, Try.call55, Try.func55, by kernel_rfl, by kernel_rfl, by kernel_rfl⟩
def selvageref10_plain.l1 (a_4 : List api_Loc) (r_43 : Bool) (o_65 : Int) (s_72 : Int) : Option (Int ⊕ (Unit ⊕ Unit)) :=
 if s_72 ≤ o_65 then (if s_72 ≥ (a_4.length : Int) then (some (Sum.inr (Sum.inl ()))) else (if 0 ≤ s_72 ∧ s_72 < (a_4.length : Int) then (letC (gi a_4 s_72) fun v_81 => if (v_81.Atomic == r_43) = true then (some (Sum.inl (wr .i64 (s_72 + 1)))) else (some (Sum.inr (Sum.inl ())))) else none)) else (some (Sum.inr (Sum.inr (()))))
def selvageref10_plain.m (a_1 : api_Ins) (a_2 : Int) (a_3 : Int) (a_4 : List api_Loc) : Option (Bool) :=
 (letC (selvageref10_letters.m a_1.Op) fun r_8 => if (r_8.toList == (⟨#[]⟩ : ByteArray).toList) = true then (some (true : Bool)) else ((selvageref10_Has.m a_1.Op 100).bind fun r_11 => letC (selvageref10_field.m r_11 a_1.D) fun r_13 => if r_13 = true then ((selvageref10_Has.m a_1.Op 97).bind fun r_16 => letC (selvageref10_field.m r_16 a_1.A) fun r_18 => if r_18 = true then ((selvageref10_Has.m a_1.Op 98).bind fun r_21 => letC (selvageref10_field.m r_21 a_1.B) fun r_23 => if r_23 = true then (if a_1.K = 0 then (some (false : Bool)) else ((selvageref10_Has.m a_1.Op 107).bind fun r_27 => some ((!r_27) : Bool))) else (some (true : Bool))) else (some (true : Bool))) else (some (true : Bool))) : Option Bool).bind fun o_5 => if o_5 = true then (some false) else ((selvageref10_Has.m a_1.Op 116).bind fun r_30 => (if r_30 = true then (if a_1.To ≤ (wr .i64 (a_2 + 1)) then (some (Sum.inl () : Unit ⊕ Unit)) else (if a_1.To > (wr .i64 (a_3 - 1)) then (some (Sum.inl () : Unit ⊕ Unit)) else (some (Sum.inr (()) : Unit ⊕ Unit)))) else (if a_1.To = 0 then (some (Sum.inr (()) : Unit ⊕ Unit)) else (some (Sum.inl () : Unit ⊕ Unit))) : Option (Unit ⊕ Unit)).bind fun o_32 => match o_32 with | Sum.inl s_39 => (some false) | Sum.inr (s_40) => ((selvageref10_Has.m a_1.Op 108).bind fun r_41 => (selvageref10_Has.m a_1.Op 109).bind fun r_43 => (selvageref10_Has.m a_1.Op 114).bind fun r_45 => (if r_45 = true then (if a_1.Len < 1 then (some (true : Bool)) else (some ((decide (a_1.Len > 16)) : Bool))) else (if a_1.Len = 0 then (some (false : Bool)) else (some (true : Bool))) : Option Bool).bind fun o_47 => if o_47 = true then (some false) else ((if r_41 = true then (some (false : Bool)) else (if r_43 = true then (some (false : Bool)) else (some ((!r_45) : Bool))) : Option Bool).bind fun o_54 => if o_54 = true then (some (decide (a_1.Loc = 0))) else ((if a_1.Loc < 0 then (some (true : Bool)) else (some ((decide (a_1.Loc ≥ (a_4.length : Int))) : Bool)) : Option Bool).bind fun o_60 => if o_60 = true then (some false) else ((if r_45 = true then (letC (wr .i64 (a_1.Loc + a_1.Len)) fun v_69 => some ((wr .i64 (v_69 - 1)) : Int)) else (some (a_1.Loc : Int)) : Option Int).bind fun o_65 => (B.loop (selvageref10_plain.l1 a_4 r_43 o_65) (a_1.Loc : Int)).bind fun o_73 => match o_73 with | Sum.inl s_76 => (some false) | Sum.inr (s_77) => (some true))))))
noncomputable def selvageref10_plain.o (a_1 : api_Ins) (a_2 : Int) (a_3 : Int) (a_4 : List api_Loc) (r : Bool) : Out := .ret (.v (.bool r)) [] []
theorem selvageref10_plain.ev {a_1 : api_Ins} {a_2 : Int} {a_3 : Int} {a_4 : List api_Loc} {r : Bool} (H : selvageref10_plain.m a_1 a_2 a_3 a_4 = some r) : Ev Try.prog 55 [.agg (api_Ins.c a_1), .v (.int .i64 a_2), .v (.int .i64 a_3), .ro false 2 a_4.length (a_4.map api_Loc.c)] [] [] (selvageref10_plain.o a_1 a_2 a_3 a_4 r) := by
 unfold selvageref10_plain.m at H
 obtain ⟨o_5, e_6, H⟩ := bdE H
 have j_7 : Runs Try.prog selvageref10_plain.F.N 0 (sub_ selvageref10_plain.F.c [1, 0, 0]) ⟨[(1, .v (.int .i64 a_2)), (2, .v (.int .i64 a_3)), (3, .ro false 2 a_4.length (a_4.map api_Loc.c)), (4, .ref 0 0)], [.box (api_Ins.c a_1)], []⟩ ((fun _ => .normal : Bool → Ex) o_5) ((fun o_5 => ⟨[(1, .v (.int .i64 a_2)), (2, .v (.int .i64 a_3)), (3, .ro false 2 a_4.length (a_4.map api_Loc.c)), (4, .ref 0 0), (55, .v (.bool o_5))], [.box (api_Ins.c a_1)], []⟩ : Bool → ASt) o_5) := by
  clear H
  have H := e_6
  clear e_6
  obtain ⟨r_8, e_9, H⟩ := ltE H
  rcases ie H with ⟨h_10, H⟩ | ⟨h_10, H⟩
  ·obtain rfl := sj H
   exact fn [ca [] (selvageref10_letters.ev e_9), br h_10, pT, au, pT, au, pT, au, pT] (by kernel_rfl)
  ·obtain ⟨r_11, e_12, H⟩ := bdE H
   obtain ⟨r_13, e_14, H⟩ := ltE H
   rcases ie H with ⟨h_15, H⟩ | ⟨h_15, H⟩
   ·obtain ⟨r_16, e_17, H⟩ := bdE H
    obtain ⟨r_18, e_19, H⟩ := ltE H
    rcases ie H with ⟨h_20, H⟩ | ⟨h_20, H⟩
    ·obtain ⟨r_21, e_22, H⟩ := bdE H
     obtain ⟨r_23, e_24, H⟩ := ltE H
     rcases ie H with ⟨h_25, H⟩ | ⟨h_25, H⟩
     ·rcases ic H with ⟨h_26, H⟩ | ⟨h_26, H⟩
      ·obtain rfl := sj H
       exact fn [ca [] (selvageref10_letters.ev e_9), br h_10, ca [] (selvageref10_Has.ev e_12), ca [] (selvageref10_field.ev e_14), pF, bn h_15, ca [] (selvageref10_Has.ev e_17), ca [] (selvageref10_field.ev e_19), pF, bn h_20, ca [] (selvageref10_Has.ev e_22), ca [] (selvageref10_field.ev e_24), pF, bn h_25, bn h_26, pF, pF] (by kernel_rfl)
      ·obtain ⟨r_27, e_28, H⟩ := bdE H
       obtain rfl := sj H
       exact fn [ca [] (selvageref10_letters.ev e_9), br h_10, ca [] (selvageref10_Has.ev e_12), ca [] (selvageref10_field.ev e_14), pF, bn h_15, ca [] (selvageref10_Has.ev e_17), ca [] (selvageref10_field.ev e_19), pF, bn h_20, ca [] (selvageref10_Has.ev e_22), ca [] (selvageref10_field.ev e_24), pF, bn h_25, bn h_26, ca [] (selvageref10_Has.ev e_28), pT, pF] (by kernel_rfl)
     ·obtain rfl := sj H
      exact fn [ca [] (selvageref10_letters.ev e_9), br h_10, ca [] (selvageref10_Has.ev e_12), ca [] (selvageref10_field.ev e_14), pF, bn h_15, ca [] (selvageref10_Has.ev e_17), ca [] (selvageref10_field.ev e_19), pF, bn h_20, ca [] (selvageref10_Has.ev e_22), ca [] (selvageref10_field.ev e_24), pF, bn h_25, pT] (by kernel_rfl)
    ·obtain rfl := sj H
     exact fn [ca [] (selvageref10_letters.ev e_9), br h_10, ca [] (selvageref10_Has.ev e_12), ca [] (selvageref10_field.ev e_14), pF, bn h_15, ca [] (selvageref10_Has.ev e_17), ca [] (selvageref10_field.ev e_19), pF, bn h_20, pT, au, pT] (by kernel_rfl)
   ·obtain rfl := sj H
    exact fn [ca [] (selvageref10_letters.ev e_9), br h_10, ca [] (selvageref10_Has.ev e_12), ca [] (selvageref10_field.ev e_14), pF, bn h_15, pT, au, pT, au, pT] (by kernel_rfl)
 rcases ie H with ⟨h_29, H⟩ | ⟨h_29, H⟩
 ·obtain rfl := sj H
  exact selvageref10_plain.F.run tb mixed [sg_ 1 j_7, br h_29] rfl (by kernel_rfl)
 ·obtain ⟨r_30, e_31, H⟩ := bdE H
  obtain ⟨o_32, e_33, H⟩ := bdE H
  have j_34 : Runs Try.prog selvageref10_plain.F.N 0 (sub_ selvageref10_plain.F.c [1, 1, 0, 1]) ⟨[(1, .v (.int .i64 a_2)), (2, .v (.int .i64 a_3)), (3, .ro false 2 a_4.length (a_4.map api_Loc.c)), (4, .ref 0 0), (58, .v (.bool r_30))], [.box (api_Ins.c a_1)], []⟩ ((fun o => match o with | Sum.inl _ => .ret | Sum.inr (_) => .normal : (Unit ⊕ Unit) → Ex) o_32) ((fun o => match o with | Sum.inl s_39 => ⟨[(8, .v (.bool false))], [], []⟩ | Sum.inr (s_40) => ⟨[(3, .ro false 2 a_4.length (a_4.map api_Loc.c)), (4, .ref 0 0)], [.box (api_Ins.c a_1)], []⟩ : (Unit ⊕ Unit) → ASt) o_32) := by
   clear H
   have H := e_33
   clear e_33
   rcases ie H with ⟨h_35, H⟩ | ⟨h_35, H⟩
   ·rcases ic H with ⟨h_36, H⟩ | ⟨h_36, H⟩
    ·obtain rfl := sj H
     exact fn [br h_35, br h_36, pT, au] (by kernel_rfl)
    ·rcases ic H with ⟨h_37, H⟩ | ⟨h_37, H⟩
     ·obtain rfl := sj H
      exact fn [br h_35, br h_36, pF, br h_37] (by kernel_rfl)
     ·obtain rfl := sj H
      exact fn [br h_35, br h_36, pF, br h_37] (by kernel_rfl)
   ·rcases ic H with ⟨h_38, H⟩ | ⟨h_38, H⟩
    ·obtain rfl := sj H
     exact fn [br h_35, bn h_38] (by kernel_rfl)
    ·obtain rfl := sj H
     exact fn [br h_35, bn h_38] (by kernel_rfl)
  rcases o_32 with s_39 | s_40
  ·obtain rfl := sj H
   exact selvageref10_plain.F.run tb mixed [sg_ 1 j_7, br h_29, ca [] (selvageref10_Has.ev e_31), sc_ j_34] rfl (by kernel_rfl)
  ·obtain ⟨r_41, e_42, H⟩ := bdE H
   obtain ⟨r_43, e_44, H⟩ := bdE H
   obtain ⟨r_45, e_46, H⟩ := bdE H
   obtain ⟨o_47, e_48, H⟩ := bdE H
   have j_49 : Runs Try.prog selvageref10_plain.F.N 0 (sub_ selvageref10_plain.F.c [1, 1, 1, 1, 0, 0]) ⟨[(3, .ro false 2 a_4.length (a_4.map api_Loc.c)), (4, .ref 0 0), (9, .v (.bool r_41)), (10, .v (.bool r_43)), (11, .v (.bool r_45))], [.box (api_Ins.c a_1)], []⟩ ((fun _ => .normal : Bool → Ex) o_47) ((fun o_47 => ⟨[(3, .ro false 2 a_4.length (a_4.map api_Loc.c)), (4, .ref 0 0), (9, .v (.bool r_41)), (10, .v (.bool r_43)), (11, .v (.bool r_45)), (102, .v (.bool o_47))], [.box (api_Ins.c a_1)], []⟩ : Bool → ASt) o_47) := by
    clear H
    have H := e_48
    clear e_48
    rcases ie H with ⟨h_50, H⟩ | ⟨h_50, H⟩
    ·rcases ic H with ⟨h_51, H⟩ | ⟨h_51, H⟩
     ·obtain rfl := sj H
      exact fn [bn h_50, pF, au, br h_50, br h_51, pT, pT, pF] (by kernel_rfl)
     ·obtain rfl := sj H
      exact fn [bn h_50, pF, au, br h_50, br h_51, pF, pT, pF] (by kernel_rfl)
    ·rcases ic H with ⟨h_52, H⟩ | ⟨h_52, H⟩
     ·obtain rfl := sj H
      exact fn [bn h_50, pT, bn h_52, br h_50, pF, pF] (by kernel_rfl)
     ·obtain rfl := sj H
      exact fn [bn h_50, pT, bn h_52, pT] (by kernel_rfl)
   rcases ie H with ⟨h_53, H⟩ | ⟨h_53, H⟩
   ·obtain rfl := sj H
    exact selvageref10_plain.F.run tb mixed [sg_ 1 j_7, br h_29, ca [] (selvageref10_Has.ev e_31), sc_ j_34, ca [] (selvageref10_Has.ev e_42), ca [] (selvageref10_Has.ev e_44), ca [] (selvageref10_Has.ev e_46), sg_ 9 j_49, br h_53] rfl (by kernel_rfl)
   ·obtain ⟨o_54, e_55, H⟩ := bdE H
    have j_56 : Runs Try.prog selvageref10_plain.F.N 0 (sub_ selvageref10_plain.F.c [1, 1, 1, 1, 1, 0, 0]) ⟨[(3, .ro false 2 a_4.length (a_4.map api_Loc.c)), (4, .ref 0 0), (9, .v (.bool r_41)), (10, .v (.bool r_43)), (11, .v (.bool r_45))], [.box (api_Ins.c a_1)], []⟩ ((fun _ => .normal : Bool → Ex) o_54) ((fun o_54 => ⟨[(3, .ro false 2 a_4.length (a_4.map api_Loc.c)), (4, .ref 0 0), (10, .v (.bool r_43)), (11, .v (.bool r_45)), (112, .v (.bool o_54))], [.box (api_Ins.c a_1)], []⟩ : Bool → ASt) o_54) := by
     clear H
     have H := e_55
     clear e_55
     rcases ie H with ⟨h_57, H⟩ | ⟨h_57, H⟩
     ·obtain rfl := sj H
      exact fn [bn h_57, pF, au, pF] (by kernel_rfl)
     ·rcases ie H with ⟨h_58, H⟩ | ⟨h_58, H⟩
      ·obtain rfl := sj H
       exact fn [bn h_57, pT, bn h_58, pF] (by kernel_rfl)
      ·obtain rfl := sj H
       exact fn [bn h_57, pT, bn h_58, pT] (by kernel_rfl)
    rcases ie H with ⟨h_59, H⟩ | ⟨h_59, H⟩
    ·obtain rfl := sj H
     exact selvageref10_plain.F.run tb mixed [sg_ 1 j_7, br h_29, ca [] (selvageref10_Has.ev e_31), sc_ j_34, ca [] (selvageref10_Has.ev e_42), ca [] (selvageref10_Has.ev e_44), ca [] (selvageref10_Has.ev e_46), sg_ 9 j_49, br h_53, sg_ 11 j_56, br h_59] rfl (by kernel_rfl)
    ·obtain ⟨o_60, e_61, H⟩ := bdE H
     have j_62 : Runs Try.prog selvageref10_plain.F.N 0 (sub_ selvageref10_plain.F.c [1, 1, 1, 1, 1, 1, 0, 0]) ⟨[(3, .ro false 2 a_4.length (a_4.map api_Loc.c)), (4, .ref 0 0), (10, .v (.bool r_43)), (11, .v (.bool r_45))], [.box (api_Ins.c a_1)], []⟩ ((fun _ => .normal : Bool → Ex) o_60) ((fun o_60 => ⟨[(3, .ro false 2 a_4.length (a_4.map api_Loc.c)), (4, .ref 0 0), (10, .v (.bool r_43)), (11, .v (.bool r_45)), (125, .v (.bool o_60))], [.box (api_Ins.c a_1)], []⟩ : Bool → ASt) o_60) := by
      clear H
      have H := e_61
      clear e_61
      rcases ic H with ⟨h_63, H⟩ | ⟨h_63, H⟩
      ·obtain rfl := sj H
       exact fn [br h_63, pT] (by kernel_rfl)
      ·obtain rfl := sj H
       exact fn [br h_63, pF] (by kernel_rfl)
     rcases ie H with ⟨h_64, H⟩ | ⟨h_64, H⟩
     ·obtain rfl := sj H
      exact selvageref10_plain.F.run tb mixed [sg_ 1 j_7, br h_29, ca [] (selvageref10_Has.ev e_31), sc_ j_34, ca [] (selvageref10_Has.ev e_42), ca [] (selvageref10_Has.ev e_44), ca [] (selvageref10_Has.ev e_46), sg_ 9 j_49, br h_53, sg_ 11 j_56, br h_59, sg_ 13 j_62, br h_64] rfl (by kernel_rfl)
     ·obtain ⟨o_65, e_66, H⟩ := bdE H
      have j_67 : Runs Try.prog selvageref10_plain.F.N 0 (sub_ selvageref10_plain.F.c [1, 1, 1, 1, 1, 1, 1, 1, 0, 1]) ⟨[(3, .ro false 2 a_4.length (a_4.map api_Loc.c)), (4, .ref 0 0), (10, .v (.bool r_43)), (12, .v (.int .i64 a_1.Loc)), (128, .v (.bool r_45))], [.box (api_Ins.c a_1)], []⟩ ((fun _ => .normal : Int → Ex) o_65) ((fun o_65 => ⟨[(3, .ro false 2 a_4.length (a_4.map api_Loc.c)), (4, .ref 0 0), (10, .v (.bool r_43)), (12, .v (.int .i64 o_65))], [.box (api_Ins.c a_1)], []⟩ : Int → ASt) o_65) := by
       clear H
       have H := e_66
       clear e_66
       rcases ie H with ⟨h_68, H⟩ | ⟨h_68, H⟩
       ·let v_69 : Int := wr .i64 (a_1.Loc + a_1.Len)
        replace H := ltD H
        obtain rfl := sj H
        exact fn [br h_68] (by kernel_rfl)
       ·obtain rfl := sj H
        exact fn [br h_68] (by kernel_rfl)
      obtain ⟨o_73, e_74, H⟩ := bdE H
      have j_75 := Runs.loop (P := Try.prog) (N := selvageref10_plain.F.N) (m0 := 0) (c := sub_ selvageref10_plain.F.c [1, 1, 1, 1, 1, 1, 1, 1, 1, 0, 1, 0, 0]) (f := (selvageref10_plain.l1 a_4 r_43 o_65)) (St := fun s_72 => ⟨[(3, .ro false 2 a_4.length (a_4.map api_Loc.c)), (10, .v (.bool r_43)), (12, .v (.int .i64 o_65)), (13, .v (.int .i64 s_72))], [], []⟩) (xo := (fun o => match o with | Sum.inl _ => .ret | Sum.inr (_) => (.exit 0) : (Unit ⊕ Unit) → Ex)) (So := (fun o => match o with | Sum.inl s_76 => ⟨[(8, .v (.bool false))], [], []⟩ | Sum.inr (s_77) => ⟨[], [], []⟩ : (Unit ⊕ Unit) → ASt)) (by intro o; rcases o with _ | _ <;> simp) (fun s_72 z H => by
       unfold selvageref10_plain.l1 at H
       rcases ic H with ⟨h_78, H⟩ | ⟨h_78, H⟩
       ·rcases ic H with ⟨h_79, H⟩ | ⟨h_79, H⟩
        ·obtain rfl := sj H
         exact fn [br h_78, br h_79, pT, au] (by kernel_rfl)
        ·obtain ⟨g_80, H⟩ := gdE H
         let v_81 : api_Loc := gi a_4 s_72
         replace H := ltD H
         rcases ie H with ⟨h_82, H⟩ | ⟨h_82, H⟩
         ·obtain rfl := sj H
          exact fn [br h_78, br h_79, ix api_Loc.c g_80, pF, bn h_82] (by kernel_rfl)
         ·obtain rfl := sj H
          exact fn [br h_78, br h_79, ix api_Loc.c g_80, pF, bn h_82] (by kernel_rfl)
       ·obtain rfl := sj H
        exact fn [br h_78] (by kernel_rfl)) e_74
      rcases o_73 with s_76 | s_77
      ·obtain rfl := sj H
       exact selvageref10_plain.F.run tb mixed [sg_ 1 j_7, br h_29, ca [] (selvageref10_Has.ev e_31), sc_ j_34, ca [] (selvageref10_Has.ev e_42), ca [] (selvageref10_Has.ev e_44), ca [] (selvageref10_Has.ev e_46), sg_ 9 j_49, br h_53, sg_ 11 j_56, br h_59, sg_ 13 j_62, br h_64, sc_ j_67, su j_75] rfl (by kernel_rfl)
      ·obtain rfl := sj H
       exact selvageref10_plain.F.run tb mixed [sg_ 1 j_7, br h_29, ca [] (selvageref10_Has.ev e_31), sc_ j_34, ca [] (selvageref10_Has.ev e_42), ca [] (selvageref10_Has.ev e_44), ca [] (selvageref10_Has.ev e_46), sg_ 9 j_49, br h_53, sg_ 11 j_56, br h_59, sg_ 13 j_62, br h_64, sc_ j_67, su j_75] rfl (by kernel_rfl)
noncomputable def selvageref10_Before.F : FI Try.prog 56 := ⟨Try.f56, 52, (Try.f56.body.getD .skip), Try.f56.results.toList, Try.call56, Try.func56, by kernel_rfl, by kernel_rfl, by kernel_rfl⟩
def selvageref10_Before.l1 (a_1 : List api_Ins) (a_2 : Int) (s_5 : (List Int) × Int) : Option (((List Int) × Int) ⊕ (List Int)) :=
 (if s_5.2 < (a_1.length : Int) then (some ((decide (s_5.2 < a_2)) : Bool)) else (some (false : Bool)) : Option Bool).bind fun o_9 => if o_9 = true then ((if s_5.2 = (wr .i64 (a_2 - 1)) then (if 0 ≤ s_5.2 ∧ s_5.2 < (a_1.length : Int) then (letC (gi a_1 s_5.2) fun v_19 => if v_19.Op = 18 then (letC (gi a_1 s_5.2) fun v_21 => (selvageref10_Has.m v_21.Op 116).bind fun r_22 => if r_22 = true then (letC (gi a_1 s_5.2) fun v_25 => some ((decide (v_25.To = a_2)) : Bool)) else (some (false : Bool))) else (some (true : Bool))) else none) else (if 0 ≤ s_5.2 ∧ s_5.2 < (a_1.length : Int) then (letC (gi a_1 s_5.2) fun v_27 => (selvageref10_Has.m v_27.Op 116).bind fun r_28 => if r_28 = true then (letC (gi a_1 s_5.2) fun v_31 => some ((decide (v_31.To = a_2)) : Bool)) else (some (false : Bool))) else none) : Option Bool).bind fun o_14 => if o_14 = true then (if (s_5.1.length + ([s_5.2] : List Int).length) * 8 ≤ 140737488355328 then (letC (s_5.1 ++ ([s_5.2] : List Int)) fun v_34 => letC (wr .i64 (s_5.2 + 1)) fun v_35 => some (Sum.inl (v_34, v_35))) else none) else (letC (wr .i64 (s_5.2 + 1)) fun v_36 => some (Sum.inl (s_5.1, v_36)))) else (some (Sum.inr s_5.1))
def selvageref10_Before.m (a_1 : List api_Ins) (a_2 : Int) : Option (List Int) :=
 (B.loop (selvageref10_Before.l1 a_1 a_2) ((([] : List Int), 0) : (List Int) × Int)).bind fun o_6 => some o_6
noncomputable def selvageref10_Before.o (a_1 : List api_Ins) (a_2 : Int) (r : List Int) : Out := .ret (.sl 0 0 r.length 0 r.length) [.arr true 3 1 r.length (r.map (cI .i64))] []
theorem selvageref10_Before.ev {a_1 : List api_Ins} {a_2 : Int} {r : List Int} (H : selvageref10_Before.m a_1 a_2 = some r) : Ev Try.prog 56 [.ro false 8 a_1.length (a_1.map api_Ins.c), .v (.int .i64 a_2)] [] [] (selvageref10_Before.o a_1 a_2 r) := by
 unfold selvageref10_Before.m at H
 obtain ⟨o_6, e_7, H⟩ := bdE H
 have j_8 := Runs.loop (P := Try.prog) (N := selvageref10_Before.F.N) (m0 := 0) (c := sub_ selvageref10_Before.F.c [1, 1, 0, 1, 0, 0]) (f := (selvageref10_Before.l1 a_1 a_2)) (St := fun s_5 => ⟨[(0, .ro false 8 a_1.length (a_1.map api_Ins.c)), (1, .v (.int .i64 a_2)), (5, .sl 0 0 s_5.1.length 0 s_5.1.length), (6, .v (.int .i64 s_5.2))], [.arr true 3 1 s_5.1.length (s_5.1.map (cI .i64))], []⟩) (xo := (fun _ => (.exit 0) : (List Int) → Ex)) (So := (fun o_6 => ⟨[(5, .sl 0 0 o_6.length 0 o_6.length)], [.arr true 3 1 o_6.length (o_6.map (cI .i64))], []⟩ : (List Int) → ASt)) (by intro o; simp) (fun s_5 z H => by
  unfold selvageref10_Before.l1 at H
  obtain ⟨o_9, e_10, H⟩ := bdE H
  have j_11 : Runs Try.prog selvageref10_Before.F.N 0 (sub_ selvageref10_Before.F.c [1, 1, 0, 1, 0, 0, 0, 0]) ⟨[(0, .ro false 8 a_1.length (a_1.map api_Ins.c)), (1, .v (.int .i64 a_2)), (5, .sl 0 0 s_5.1.length 0 s_5.1.length), (6, .v (.int .i64 s_5.2))], [.arr true 3 1 s_5.1.length (s_5.1.map (cI .i64))], []⟩ ((fun _ => .normal : Bool → Ex) o_9) ((fun o_9 => ⟨[(0, .ro false 8 a_1.length (a_1.map api_Ins.c)), (1, .v (.int .i64 a_2)), (5, .sl 0 0 s_5.1.length 0 s_5.1.length), (6, .v (.int .i64 s_5.2)), (15, .v (.bool o_9))], [.arr true 3 1 s_5.1.length (s_5.1.map (cI .i64))], []⟩ : Bool → ASt) o_9) := by
   clear H
   have H := e_10
   clear e_10
   rcases ic H with ⟨h_12, H⟩ | ⟨h_12, H⟩
   ·obtain rfl := sj H
    exact fn [br h_12, pT] (by kernel_rfl)
   ·obtain rfl := sj H
    exact fn [br h_12, pF] (by kernel_rfl)
  rcases ie H with ⟨h_13, H⟩ | ⟨h_13, H⟩
  ·obtain ⟨o_14, e_15, H⟩ := bdE H
   have j_16 : Runs Try.prog selvageref10_Before.F.N 0 (sub_ selvageref10_Before.F.c [1, 1, 0, 1, 0, 0, 1, 0, 0, 0]) ⟨[(0, .ro false 8 a_1.length (a_1.map api_Ins.c)), (1, .v (.int .i64 a_2)), (5, .sl 0 0 s_5.1.length 0 s_5.1.length), (6, .v (.int .i64 s_5.2))], [.arr true 3 1 s_5.1.length (s_5.1.map (cI .i64))], []⟩ ((fun _ => .normal : Bool → Ex) o_14) ((fun o_14 => ⟨[(0, .ro false 8 a_1.length (a_1.map api_Ins.c)), (1, .v (.int .i64 a_2)), (5, .sl 0 0 s_5.1.length 0 s_5.1.length), (6, .v (.int .i64 s_5.2)), (46, .v (.bool o_14))], [.arr true 3 1 s_5.1.length (s_5.1.map (cI .i64))], []⟩ : Bool → ASt) o_14) := by
    clear H
    have H := e_15
    clear e_15
    rcases ic H with ⟨h_17, H⟩ | ⟨h_17, H⟩
    ·obtain ⟨g_18, H⟩ := gdE H
     let v_19 : api_Ins := gi a_1 s_5.2
     replace H := ltD H
     rcases ic H with ⟨h_20, H⟩ | ⟨h_20, H⟩
     ·let v_21 : api_Ins := gi a_1 s_5.2
      replace H := ltD H
      obtain ⟨r_22, e_23, H⟩ := bdE H
      rcases ie H with ⟨h_24, H⟩ | ⟨h_24, H⟩
      ·let v_25 : api_Ins := gi a_1 s_5.2
       replace H := ltD H
       obtain rfl := sj H
       exact fn [br h_17, ix api_Ins.c g_18, pT, bn h_20, ix api_Ins.c g_18, ca [] (selvageref10_Has.ev e_23), br h_24, ix api_Ins.c g_18, pT, pF] (by kernel_rfl)
      ·obtain rfl := sj H
       exact fn [br h_17, ix api_Ins.c g_18, pT, bn h_20, ix api_Ins.c g_18, ca [] (selvageref10_Has.ev e_23), br h_24, pF, pF] (by kernel_rfl)
     ·obtain rfl := sj H
      exact fn [br h_17, ix api_Ins.c g_18, pT, bn h_20, pT] (by kernel_rfl)
    ·obtain ⟨g_26, H⟩ := gdE H
     let v_27 : api_Ins := gi a_1 s_5.2
     replace H := ltD H
     obtain ⟨r_28, e_29, H⟩ := bdE H
     rcases ie H with ⟨h_30, H⟩ | ⟨h_30, H⟩
     ·let v_31 : api_Ins := gi a_1 s_5.2
      replace H := ltD H
      obtain rfl := sj H
      exact fn [br h_17, pF, au, ix api_Ins.c g_26, ca [] (selvageref10_Has.ev e_29), br h_30, ix api_Ins.c g_26, pT, pF] (by kernel_rfl)
     ·obtain rfl := sj H
      exact fn [br h_17, pF, au, ix api_Ins.c g_26, ca [] (selvageref10_Has.ev e_29), br h_30, pF, pF] (by kernel_rfl)
   rcases ie H with ⟨h_32, H⟩ | ⟨h_32, H⟩
   ·obtain ⟨g_33, H⟩ := gdE H
    let v_34 : List Int := s_5.1 ++ ([s_5.2] : List Int)
    replace H := ltD H
    let v_35 : Int := wr .i64 (s_5.2 + 1)
    replace H := ltD H
    obtain rfl := sj H
    exact fn [sg_ 3 j_11, br h_13, sg_ 5 j_16, br h_32, ap (cI .i64) 8 false s_5.1 ([s_5.2] : List Int) g_33 (fun h => by cases h)] (by kernel_rfl)
   ·let v_36 : Int := wr .i64 (s_5.2 + 1)
    replace H := ltD H
    obtain rfl := sj H
    exact fn [sg_ 3 j_11, br h_13, sg_ 5 j_16, br h_32] (by kernel_rfl)
  ·obtain rfl := sj H
   exact fn [sg_ 3 j_11, br h_13] (by kernel_rfl)) e_7
 obtain rfl := sj H
 exact selvageref10_Before.F.run tb mixed [su j_8, adL 5 (some 3) 1] rfl (by kernel_rfl)
noncomputable def selvageref10_Right.F : FI Try.prog 22 := ⟨Try.f22, 154, (Try.f22.body.getD .skip), Try.f22.results.toList, Try.call22, Try.func22, by kernel_rfl, by kernel_rfl, by kernel_rfl⟩
def selvageref10_Right.l2 (a_1 : List api_Ins) (s_14 : Int) (s_28 : Int) : Option (Int ⊕ (Unit ⊕ Unit)) :=
 if s_28 < s_14 then ((if 0 ≤ s_14 ∧ s_14 < (a_1.length : Int) then (letC (gi a_1 s_14) fun v_39 => (selvageref10_Has.m v_39.Op 100).bind fun r_40 => if r_40 = true then (if 0 ≤ s_28 ∧ s_28 < (a_1.length : Int) then (letC (gi a_1 s_28) fun v_44 => (selvageref10_Has.m v_44.Op 100).bind fun r_45 => if r_45 = true then (letC (gi a_1 s_14) fun v_48 => letC (gi a_1 s_28) fun v_49 => some ((decide (v_48.D = v_49.D)) : Bool)) else (some (false : Bool))) else none) else (some (false : Bool))) else none : Option Bool).bind fun o_35 => if o_35 = true then (some (Sum.inr (Sum.inl ()))) else (some (Sum.inl (wr .i64 (s_28 + 1))))) else (some (Sum.inr (Sum.inr (()))))
def selvageref10_Right.l4 (a_1 : List api_Ins) (s_53 : Int) (s_76 : Bool × Bool × Int) : Option ((Bool × Bool × Int) ⊕ (Bool × Bool)) :=
 if s_76.2.2 > 0 then ((selvageref10_Before.m a_1 s_76.2.2).bind fun r_81 => if 0 ≤ (0 : Int) ∧ (0 : Int) < (r_81.length : Int) then (letC (gi r_81 0) fun v_84 => if 0 ≤ v_84 ∧ v_84 < (a_1.length : Int) then (letC (gi a_1 v_84) fun v_86 => (selvageref10_Has.m v_86.Op 100).bind fun r_87 => if r_87 = true then ((if s_76.1 = true then (some (true : Bool)) else (letC (gi a_1 v_84) fun v_94 => if 0 ≤ s_53 ∧ s_53 < (a_1.length : Int) then (letC (gi a_1 s_53) fun v_96 => some ((decide (v_94.D = v_96.A)) : Bool)) else none) : Option Bool).bind fun o_90 => if s_76.2.1 = true then (some (Sum.inl (o_90, true, v_84))) else (letC (gi a_1 v_84) fun v_98 => if 0 ≤ s_53 ∧ s_53 < (a_1.length : Int) then (letC (gi a_1 s_53) fun v_100 => some (Sum.inl (o_90, (decide (v_98.D = v_100.B)), v_84))) else none)) else (some (Sum.inl (s_76.1, s_76.2.1, v_84)))) else none) else none) else (some (Sum.inr (s_76.1, s_76.2.1)))
def selvageref10_Right.l3 (a_1 : List api_Ins) (s_53 : Int) : Option (Int ⊕ (Unit ⊕ Unit)) :=
 if s_53 < (a_1.length : Int) then ((if s_53 > 0 then ((selvageref10_Before.m a_1 s_53).bind fun r_64 => some ((!(decide ((r_64.length : Int) = 1))) : Bool)) else (some (false : Bool)) : Option Bool).bind fun o_60 => if o_60 = true then (some (Sum.inr (Sum.inl ()))) else (if 0 ≤ s_53 ∧ s_53 < (a_1.length : Int) then (letC (gi a_1 s_53) fun v_68 => (selvageref10_Has.m v_68.Op 97).bind fun r_69 => letC (gi a_1 s_53) fun v_71 => (selvageref10_Has.m v_71.Op 98).bind fun r_72 => (B.loop (selvageref10_Right.l4 a_1 s_53) (((!r_69), (!r_72), s_53) : Bool × Bool × Int)).bind fun o_77 => if o_77.1 = true then (if o_77.2 = true then (some (Sum.inl (wr .i64 (s_53 + 1)))) else (some (Sum.inr (Sum.inl ())))) else (some (Sum.inr (Sum.inl ())))) else none)) else (some (Sum.inr (Sum.inr (()))))
def selvageref10_Right.l1 (a_1 : List api_Ins) (a_2 : List api_Loc) (s_14 : Int) : Option (Int ⊕ (Unit ⊕ Unit)) :=
 if s_14 < (a_1.length : Int) then (if 0 ≤ s_14 ∧ s_14 < (a_1.length : Int) then (letC (gi a_1 s_14) fun v_22 => (selvageref10_plain.m v_22 s_14 (a_1.length : Int) a_2).bind fun r_23 => if r_23 = true then ((B.loop (selvageref10_Right.l2 a_1 s_14) (0 : Int)).bind fun o_29 => match o_29 with | Sum.inl s_32 => (some (Sum.inr (Sum.inl ()))) | Sum.inr (s_33) => (some (Sum.inl (wr .i64 (s_14 + 1))))) else (some (Sum.inr (Sum.inl ())))) else none) else (some (Sum.inr (Sum.inr (()))))
def selvageref10_Right.m (a_1 : List api_Ins) (a_2 : List api_Loc) : Option (Bool) :=
 (if (a_1.length : Int) < 1 then (some (true : Bool)) else (if (a_1.length : Int) > 400 then (some (true : Bool)) else (letC (wr .i64 ((a_1.length : Int) - 1)) fun v_8 => if 0 ≤ v_8 ∧ v_8 < (a_1.length : Int) then (letC (gi a_1 v_8) fun v_10 => some ((!(decide (v_10.Op = 18))) : Bool)) else none)) : Option Bool).bind fun o_3 => if o_3 = true then (some false) else ((B.loop (selvageref10_Right.l1 a_1 a_2) (0 : Int)).bind fun o_15 => match o_15 with | Sum.inl s_18 => (some false) | Sum.inr (s_19) => ((B.loop (selvageref10_Right.l3 a_1) (0 : Int)).bind fun o_54 => match o_54 with | Sum.inl s_57 => (some false) | Sum.inr (s_58) => (some true)))
noncomputable def selvageref10_Right.o (a_1 : List api_Ins) (a_2 : List api_Loc) (r : Bool) : Out := .ret (.v (.bool r)) [] []
theorem selvageref10_Right.ev {a_1 : List api_Ins} {a_2 : List api_Loc} {r : Bool} (H : selvageref10_Right.m a_1 a_2 = some r) : Ev Try.prog 22 [.ro false 8 a_1.length (a_1.map api_Ins.c), .ro false 2 a_2.length (a_2.map api_Loc.c)] [] [] (selvageref10_Right.o a_1 a_2 r) := by
 unfold selvageref10_Right.m at H
 obtain ⟨o_3, e_4, H⟩ := bdE H
 have j_5 : Runs Try.prog selvageref10_Right.F.N 0 (sub_ selvageref10_Right.F.c [1, 0, 0]) ⟨[(0, .ro false 8 a_1.length (a_1.map api_Ins.c)), (1, .ro false 2 a_2.length (a_2.map api_Loc.c))], [], []⟩ ((fun _ => .normal : Bool → Ex) o_3) ((fun o_3 => ⟨[(0, .ro false 8 a_1.length (a_1.map api_Ins.c)), (1, .ro false 2 a_2.length (a_2.map api_Loc.c)), (28, .v (.bool o_3))], [], []⟩ : Bool → ASt) o_3) := by
  clear H
  have H := e_4
  clear e_4
  rcases ic H with ⟨h_6, H⟩ | ⟨h_6, H⟩
  ·obtain rfl := sj H
   exact fn [br h_6, pT, au, pT] (by kernel_rfl)
  ·rcases ic H with ⟨h_7, H⟩ | ⟨h_7, H⟩
   ·obtain rfl := sj H
    exact fn [br h_6, pF, br h_7, pT] (by kernel_rfl)
   ·let v_8 : Int := wr .i64 ((a_1.length : Int) - 1)
    replace H := ltD H
    obtain ⟨g_9, H⟩ := gdE H
    let v_10 : api_Ins := gi a_1 v_8
    replace H := ltD H
    obtain rfl := sj H
    exact fn [br h_6, pF, br h_7, ix api_Ins.c g_9, pF] (by kernel_rfl)
 rcases ie H with ⟨h_11, H⟩ | ⟨h_11, H⟩
 ·obtain rfl := sj H
  exact selvageref10_Right.F.run tb mixed [sg_ 1 j_5, br h_11] rfl (by kernel_rfl)
 ·obtain ⟨o_15, e_16, H⟩ := bdE H
  have j_17 := Runs.loop (P := Try.prog) (N := selvageref10_Right.F.N) (m0 := 0) (c := sub_ selvageref10_Right.F.c [1, 1, 0, 1, 0, 0]) (f := (selvageref10_Right.l1 a_1 a_2)) (St := fun s_14 => ⟨[(0, .ro false 8 a_1.length (a_1.map api_Ins.c)), (1, .ro false 2 a_2.length (a_2.map api_Loc.c)), (5, .v (.int .i64 s_14))], [], []⟩) (xo := (fun o => match o with | Sum.inl _ => .ret | Sum.inr (_) => (.exit 0) : (Unit ⊕ Unit) → Ex)) (So := (fun o => match o with | Sum.inl s_18 => ⟨[(4, .v (.bool false))], [], []⟩ | Sum.inr (s_19) => ⟨[(0, .ro false 8 a_1.length (a_1.map api_Ins.c))], [], []⟩ : (Unit ⊕ Unit) → ASt)) (by intro o; rcases o with _ | _ <;> simp) (fun s_14 z H => by
   unfold selvageref10_Right.l1 at H
   rcases ic H with ⟨h_20, H⟩ | ⟨h_20, H⟩
   ·obtain ⟨g_21, H⟩ := gdE H
    let v_22 : api_Ins := gi a_1 s_14
    replace H := ltD H
    obtain ⟨r_23, e_24, H⟩ := bdE H
    rcases ie H with ⟨h_25, H⟩ | ⟨h_25, H⟩
    ·obtain ⟨o_29, e_30, H⟩ := bdE H
     have j_31 := Runs.loop (P := Try.prog) (N := selvageref10_Right.F.N) (m0 := 0) (c := sub_ selvageref10_Right.F.c [1, 1, 0, 1, 0, 0, 1, 0, 0, 1, 1, 0, 0]) (f := (selvageref10_Right.l2 a_1 s_14)) (St := fun s_28 => ⟨[(0, .ro false 8 a_1.length (a_1.map api_Ins.c)), (1, .ro false 2 a_2.length (a_2.map api_Loc.c)), (5, .v (.int .i64 s_14)), (6, .v (.int .i64 s_28))], [], []⟩) (xo := (fun o => match o with | Sum.inl _ => .ret | Sum.inr (_) => (.exit 2) : (Unit ⊕ Unit) → Ex)) (So := (fun o => match o with | Sum.inl s_32 => ⟨[(4, .v (.bool false))], [], []⟩ | Sum.inr (s_33) => ⟨[(0, .ro false 8 a_1.length (a_1.map api_Ins.c)), (1, .ro false 2 a_2.length (a_2.map api_Loc.c)), (5, .v (.int .i64 s_14))], [], []⟩ : (Unit ⊕ Unit) → ASt)) (by intro o; rcases o with _ | _ <;> simp) (fun s_28 z H => by
      unfold selvageref10_Right.l2 at H
      rcases ic H with ⟨h_34, H⟩ | ⟨h_34, H⟩
      ·obtain ⟨o_35, e_36, H⟩ := bdE H
       have j_37 : Runs Try.prog selvageref10_Right.F.N 0 (sub_ selvageref10_Right.F.c [1, 1, 0, 1, 0, 0, 1, 0, 0, 1, 1, 0, 0, 1, 0, 0, 0]) ⟨[(0, .ro false 8 a_1.length (a_1.map api_Ins.c)), (1, .ro false 2 a_2.length (a_2.map api_Loc.c)), (5, .v (.int .i64 s_14)), (6, .v (.int .i64 s_28))], [], []⟩ ((fun _ => .normal : Bool → Ex) o_35) ((fun o_35 => ⟨[(0, .ro false 8 a_1.length (a_1.map api_Ins.c)), (1, .ro false 2 a_2.length (a_2.map api_Loc.c)), (5, .v (.int .i64 s_14)), (6, .v (.int .i64 s_28)), (76, .v (.bool o_35))], [], []⟩ : Bool → ASt) o_35) := by
        clear H
        have H := e_36
        clear e_36
        obtain ⟨g_38, H⟩ := gdE H
        let v_39 : api_Ins := gi a_1 s_14
        replace H := ltD H
        obtain ⟨r_40, e_41, H⟩ := bdE H
        rcases ie H with ⟨h_42, H⟩ | ⟨h_42, H⟩
        ·obtain ⟨g_43, H⟩ := gdE H
         let v_44 : api_Ins := gi a_1 s_28
         replace H := ltD H
         obtain ⟨r_45, e_46, H⟩ := bdE H
         rcases ie H with ⟨h_47, H⟩ | ⟨h_47, H⟩
         ·let v_48 : api_Ins := gi a_1 s_14
          replace H := ltD H
          let v_49 : api_Ins := gi a_1 s_28
          replace H := ltD H
          obtain rfl := sj H
          exact fn [ix api_Ins.c g_38, ca [] (selvageref10_Has.ev e_41), br h_42, ix api_Ins.c g_43, ca [] (selvageref10_Has.ev e_46), pT, br h_47, ix api_Ins.c g_38, ix api_Ins.c g_43, pT] (by kernel_rfl)
         ·obtain rfl := sj H
          exact fn [ix api_Ins.c g_38, ca [] (selvageref10_Has.ev e_41), br h_42, ix api_Ins.c g_43, ca [] (selvageref10_Has.ev e_46), pT, br h_47, pF] (by kernel_rfl)
        ·obtain rfl := sj H
         exact fn [ix api_Ins.c g_38, ca [] (selvageref10_Has.ev e_41), br h_42, pF, au, pF] (by kernel_rfl)
       rcases ie H with ⟨h_50, H⟩ | ⟨h_50, H⟩
       ·obtain rfl := sj H
        exact fn [br h_34, sg_ 11 j_37, br h_50] (by kernel_rfl)
       ·obtain rfl := sj H
        exact fn [br h_34, sg_ 11 j_37, br h_50] (by kernel_rfl)
      ·obtain rfl := sj H
       exact fn [br h_34] (by kernel_rfl)) e_30
     rcases o_29 with s_32 | s_33
     ·obtain rfl := sj H
      exact fn [br h_20, ix api_Ins.c g_21, ca [] (selvageref10_plain.ev e_24), bn h_25, su j_31] (by kernel_rfl)
     ·obtain rfl := sj H
      exact fn [br h_20, ix api_Ins.c g_21, ca [] (selvageref10_plain.ev e_24), bn h_25, su j_31] (by kernel_rfl)
    ·obtain rfl := sj H
     exact fn [br h_20, ix api_Ins.c g_21, ca [] (selvageref10_plain.ev e_24), bn h_25] (by kernel_rfl)
   ·obtain rfl := sj H
    exact fn [br h_20] (by kernel_rfl)) e_16
  rcases o_15 with s_18 | s_19
  ·obtain rfl := sj H
   exact selvageref10_Right.F.run tb mixed [sg_ 1 j_5, br h_11, su j_17] rfl (by kernel_rfl)
  ·obtain ⟨o_54, e_55, H⟩ := bdE H
   have j_56 := Runs.loop (P := Try.prog) (N := selvageref10_Right.F.N) (m0 := 0) (c := sub_ selvageref10_Right.F.c [1, 1, 1, 0, 1, 0, 0]) (f := (selvageref10_Right.l3 a_1)) (St := fun s_53 => ⟨[(0, .ro false 8 a_1.length (a_1.map api_Ins.c)), (7, .v (.int .i64 s_53))], [], []⟩) (xo := (fun o => match o with | Sum.inl _ => .ret | Sum.inr (_) => (.exit 4) : (Unit ⊕ Unit) → Ex)) (So := (fun o => match o with | Sum.inl s_57 => ⟨[(4, .v (.bool false))], [], []⟩ | Sum.inr (s_58) => ⟨[], [], []⟩ : (Unit ⊕ Unit) → ASt)) (by intro o; rcases o with _ | _ <;> simp) (fun s_53 z H => by
    unfold selvageref10_Right.l3 at H
    rcases ic H with ⟨h_59, H⟩ | ⟨h_59, H⟩
    ·obtain ⟨o_60, e_61, H⟩ := bdE H
     have j_62 : Runs Try.prog selvageref10_Right.F.N 0 (sub_ selvageref10_Right.F.c [1, 1, 1, 0, 1, 0, 0, 1, 0, 0, 0, 0]) ⟨[(0, .ro false 8 a_1.length (a_1.map api_Ins.c)), (7, .v (.int .i64 s_53))], [], []⟩ ((fun _ => .normal : Bool → Ex) o_60) ((fun o_60 => ⟨[(0, .ro false 8 a_1.length (a_1.map api_Ins.c)), (7, .v (.int .i64 s_53)), (91, .v (.bool o_60))], [], []⟩ : Bool → ASt) o_60) := by
      clear H
      have H := e_61
      clear e_61
      rcases ic H with ⟨h_63, H⟩ | ⟨h_63, H⟩
      ·obtain ⟨r_64, e_65, H⟩ := bdE H
       obtain rfl := sj H
       exact fn [br h_63, ca [] (selvageref10_Before.ev e_65), pT] (by kernel_rfl)
      ·obtain rfl := sj H
       exact fn [br h_63, pF] (by kernel_rfl)
     rcases ie H with ⟨h_66, H⟩ | ⟨h_66, H⟩
     ·obtain rfl := sj H
      exact fn [br h_59, sg_ 16 j_62, br h_66] (by kernel_rfl)
     ·obtain ⟨g_67, H⟩ := gdE H
      let v_68 : api_Ins := gi a_1 s_53
      replace H := ltD H
      obtain ⟨r_69, e_70, H⟩ := bdE H
      let v_71 : api_Ins := gi a_1 s_53
      replace H := ltD H
      obtain ⟨r_72, e_73, H⟩ := bdE H
      obtain ⟨o_77, e_78, H⟩ := bdE H
      have j_79 := Runs.loop (P := Try.prog) (N := selvageref10_Right.F.N) (m0 := 0) (c := sub_ selvageref10_Right.F.c [1, 1, 1, 0, 1, 0, 0, 1, 0, 0, 1, 1, 0, 1, 0, 0]) (f := (selvageref10_Right.l4 a_1 s_53)) (St := fun s_76 => ⟨[(0, .ro false 8 a_1.length (a_1.map api_Ins.c)), (7, .v (.int .i64 s_53)), (8, .v (.bool s_76.1)), (9, .v (.bool s_76.2.1)), (10, .v (.int .i64 s_76.2.2))], [], []⟩) (xo := (fun _ => (.exit 6) : (Bool × Bool) → Ex)) (So := (fun o_77 => ⟨[(0, .ro false 8 a_1.length (a_1.map api_Ins.c)), (7, .v (.int .i64 s_53)), (8, .v (.bool o_77.1)), (9, .v (.bool o_77.2))], [], []⟩ : (Bool × Bool) → ASt)) (by intro o; simp) (fun s_76 z H => by
       unfold selvageref10_Right.l4 at H
       rcases ic H with ⟨h_80, H⟩ | ⟨h_80, H⟩
       ·obtain ⟨r_81, e_82, H⟩ := bdE H
        obtain ⟨g_83, H⟩ := gdE H
        let v_84 : Int := gi r_81 0
        replace H := ltD H
        obtain ⟨g_85, H⟩ := gdE H
        let v_86 : api_Ins := gi a_1 v_84
        replace H := ltD H
        obtain ⟨r_87, e_88, H⟩ := bdE H
        rcases ie H with ⟨h_89, H⟩ | ⟨h_89, H⟩
        ·obtain ⟨o_90, e_91, H⟩ := bdE H
         have j_92 : Runs Try.prog selvageref10_Right.F.N 0 (sub_ selvageref10_Right.F.c [1, 1, 1, 0, 1, 0, 0, 1, 0, 0, 1, 1, 0, 1, 0, 0, 1, 0, 1, 1, 0, 0]) ⟨[(0, .ro false 8 a_1.length (a_1.map api_Ins.c)), (7, .v (.int .i64 s_53)), (8, .v (.bool s_76.1)), (9, .v (.bool s_76.2.1)), (10, .v (.int .i64 v_84))], [], []⟩ ((fun _ => .normal : Bool → Ex) o_90) ((fun o_90 => ⟨[(0, .ro false 8 a_1.length (a_1.map api_Ins.c)), (7, .v (.int .i64 s_53)), (8, .v (.bool o_90)), (9, .v (.bool s_76.2.1)), (10, .v (.int .i64 v_84))], [], []⟩ : Bool → ASt) o_90) := by
          clear H
          have H := e_91
          clear e_91
          rcases ie H with ⟨h_93, H⟩ | ⟨h_93, H⟩
          ·obtain rfl := sj H
           exact fn [br h_93, pT] (by kernel_rfl)
          ·let v_94 : api_Ins := gi a_1 v_84
           replace H := ltD H
           obtain ⟨g_95, H⟩ := gdE H
           let v_96 : api_Ins := gi a_1 s_53
           replace H := ltD H
           obtain rfl := sj H
           exact fn [br h_93, ix api_Ins.c g_85, ix api_Ins.c g_95, pF] (by kernel_rfl)
         rcases ie H with ⟨h_97, H⟩ | ⟨h_97, H⟩
         ·obtain rfl := sj H
          exact fn [br h_80, ca [] (selvageref10_Before.ev e_82), pf g_83, el (cI .i64) g_83, ix api_Ins.c g_85, ca [] (selvageref10_Has.ev e_88), br h_89, sg_ 23 j_92, br h_97, pT] (by kernel_rfl)
         ·let v_98 : api_Ins := gi a_1 v_84
          replace H := ltD H
          obtain ⟨g_99, H⟩ := gdE H
          let v_100 : api_Ins := gi a_1 s_53
          replace H := ltD H
          obtain rfl := sj H
          exact fn [br h_80, ca [] (selvageref10_Before.ev e_82), pf g_83, el (cI .i64) g_83, ix api_Ins.c g_85, ca [] (selvageref10_Has.ev e_88), br h_89, sg_ 23 j_92, br h_97, ix api_Ins.c g_85, ix api_Ins.c g_99, pF] (by kernel_rfl)
        ·obtain rfl := sj H
         exact fn [br h_80, ca [] (selvageref10_Before.ev e_82), pf g_83, el (cI .i64) g_83, ix api_Ins.c g_85, ca [] (selvageref10_Has.ev e_88), br h_89] (by kernel_rfl)
       ·obtain rfl := sj H
        exact fn [br h_80] (by kernel_rfl)) e_78
      rcases ie H with ⟨h_101, H⟩ | ⟨h_101, H⟩
      ·rcases ie H with ⟨h_102, H⟩ | ⟨h_102, H⟩
       ·obtain rfl := sj H
        exact fn [br h_59, sg_ 16 j_62, br h_66, ix api_Ins.c g_67, ca [] (selvageref10_Has.ev e_70), ix api_Ins.c g_67, ca [] (selvageref10_Has.ev e_73), su j_79, bn h_101, pF, bn h_102] (by kernel_rfl)
       ·obtain rfl := sj H
        exact fn [br h_59, sg_ 16 j_62, br h_66, ix api_Ins.c g_67, ca [] (selvageref10_Has.ev e_70), ix api_Ins.c g_67, ca [] (selvageref10_Has.ev e_73), su j_79, bn h_101, pF, bn h_102] (by kernel_rfl)
      ·obtain rfl := sj H
       exact fn [br h_59, sg_ 16 j_62, br h_66, ix api_Ins.c g_67, ca [] (selvageref10_Has.ev e_70), ix api_Ins.c g_67, ca [] (selvageref10_Has.ev e_73), su j_79, bn h_101, pT, au] (by kernel_rfl)
    ·obtain rfl := sj H
     exact fn [br h_59] (by kernel_rfl)) e_55
   rcases o_54 with s_57 | s_58
   ·obtain rfl := sj H
    exact selvageref10_Right.F.run tb mixed [sg_ 1 j_5, br h_11, su j_17, su j_56] rfl (by kernel_rfl)
   ·obtain rfl := sj H
    exact selvageref10_Right.F.run tb mixed [sg_ 1 j_5, br h_11, su j_17, su j_56] rfl (by kernel_rfl)
noncomputable def selvageref14_Uses.F : FI Try.prog 58 := ⟨Try.f58, 25, (Try.f58.body.getD .skip), Try.f58.results.toList, Try.call58, Try.func58, by kernel_rfl, by kernel_rfl, by kernel_rfl⟩
def selvageref14_Uses.m (a_1 : api_Ins) (a_2 : Int) : Option (Bool) :=
 (selvageref10_Has.m a_1.Op 97).bind fun r_3 => if r_3 = true then (if a_1.A = a_2 then (some true) else ((selvageref10_Has.m a_1.Op 98).bind fun r_7 => if r_7 = true then (some (decide (a_1.B = a_2))) else (some false))) else ((selvageref10_Has.m a_1.Op 98).bind fun r_10 => if r_10 = true then (some (decide (a_1.B = a_2))) else (some false))
noncomputable def selvageref14_Uses.o (a_1 : api_Ins) (a_2 : Int) (r : Bool) : Out := .ret (.v (.bool r)) [] []
theorem selvageref14_Uses.ev {a_1 : api_Ins} {a_2 : Int} {r : Bool} (H : selvageref14_Uses.m a_1 a_2 = some r) : Ev Try.prog 58 [.agg (api_Ins.c a_1), .v (.int .i64 a_2)] [] [] (selvageref14_Uses.o a_1 a_2 r) := by
 unfold selvageref14_Uses.m at H
 obtain ⟨r_3, e_4, H⟩ := bdE H
 rcases ie H with ⟨h_5, H⟩ | ⟨h_5, H⟩
 ·rcases ic H with ⟨h_6, H⟩ | ⟨h_6, H⟩
  ·obtain rfl := sj H
   exact selvageref14_Uses.F.run tb mixed [ca [] (selvageref10_Has.ev e_4), br h_5, pT, br h_6, pT] rfl (by kernel_rfl)
  ·obtain ⟨r_7, e_8, H⟩ := bdE H
   rcases ie H with ⟨h_9, H⟩ | ⟨h_9, H⟩
   ·obtain rfl := sj H
    exact selvageref14_Uses.F.run tb mixed [ca [] (selvageref10_Has.ev e_4), br h_5, pT, br h_6, ca [] (selvageref10_Has.ev e_8), br h_9, pT, pF] rfl (by kernel_rfl)
   ·obtain rfl := sj H
    exact selvageref14_Uses.F.run tb mixed [ca [] (selvageref10_Has.ev e_4), br h_5, pT, br h_6, ca [] (selvageref10_Has.ev e_8), br h_9, pF, pF] rfl (by kernel_rfl)
 ·obtain ⟨r_10, e_11, H⟩ := bdE H
  rcases ie H with ⟨h_12, H⟩ | ⟨h_12, H⟩
  ·obtain rfl := sj H
   exact selvageref14_Uses.F.run tb mixed [ca [] (selvageref10_Has.ev e_4), br h_5, pF, au, ca [] (selvageref10_Has.ev e_11), br h_12, pT, pF] rfl (by kernel_rfl)
  ·obtain rfl := sj H
   exact selvageref14_Uses.F.run tb mixed [ca [] (selvageref10_Has.ev e_4), br h_5, pF, au, ca [] (selvageref10_Has.ev e_11), br h_12, pF, pF] rfl (by kernel_rfl)
noncomputable def selvageref14_Span.F : FI Try.prog 24 := ⟨Try.f24, 53, (Try.f24.body.getD .skip), Try.f24.results.toList, Try.call24, Try.func24, by kernel_rfl, by kernel_rfl, by kernel_rfl⟩
def selvageref14_Span.l2 (a_1 : List api_Ins) (a_2 : Int) (s_24 : Int × Int) : Option ((Int × Int) ⊕ Int) :=
 if s_24.2 < (a_1.length : Int) then (if 0 ≤ s_24.2 ∧ s_24.2 < (a_1.length : Int) then (letC (gi a_1 s_24.2) fun v_30 => (selvageref14_Uses.m v_30 a_2).bind fun r_31 => if r_31 = true then (if s_24.2 > s_24.1 then (letC (wr .i64 (s_24.2 + 1)) fun v_35 => some (Sum.inl (s_24.2, v_35))) else (letC (wr .i64 (s_24.2 + 1)) fun v_36 => some (Sum.inl (s_24.1, v_36)))) else (letC (wr .i64 (s_24.2 + 1)) fun v_37 => some (Sum.inl (s_24.1, v_37)))) else none) else (some (Sum.inr s_24.1))
def selvageref14_Span.l1 (a_1 : List api_Ins) (a_2 : Int) (s_5 : Int) : Option (Int ⊕ ((Int × Int) ⊕ Unit)) :=
 if s_5 < (a_1.length : Int) then ((if 0 ≤ s_5 ∧ s_5 < (a_1.length : Int) then (letC (gi a_1 s_5) fun v_16 => (selvageref10_Has.m v_16.Op 100).bind fun r_17 => if r_17 = true then (letC (gi a_1 s_5) fun v_20 => some ((!(decide (v_20.D = a_2))) : Bool)) else (some (true : Bool))) else none : Option Bool).bind fun o_12 => if o_12 = true then (some (Sum.inl (wr .i64 (s_5 + 1)))) else ((B.loop (selvageref14_Span.l2 a_1 a_2) ((s_5, 0) : Int × Int)).bind fun o_25 => some (Sum.inr (Sum.inl (s_5, o_25))))) else (some (Sum.inr (Sum.inr (()))))
def selvageref14_Span.m (a_1 : List api_Ins) (a_2 : Int) : Option (Int × Int × Bool) :=
 (B.loop (selvageref14_Span.l1 a_1 a_2) (0 : Int)).bind fun o_6 => match o_6 with | Sum.inl s_9 => (some (s_9.1, s_9.2, true)) | Sum.inr (s_10) => (some (0, 0, false))
noncomputable def selvageref14_Span.o (a_1 : List api_Ins) (a_2 : Int) (r : Int × Int × Bool) : Out := .ret (.tup [.v (.int .i64 r.1), .v (.int .i64 r.2.1), .v (.bool r.2.2)]) [] []
theorem selvageref14_Span.ev {a_1 : List api_Ins} {a_2 : Int} {r : Int × Int × Bool} (H : selvageref14_Span.m a_1 a_2 = some r) : Ev Try.prog 24 [.ro false 8 a_1.length (a_1.map api_Ins.c), .v (.int .i64 a_2)] [] [] (selvageref14_Span.o a_1 a_2 r) := by
 unfold selvageref14_Span.m at H
 obtain ⟨o_6, e_7, H⟩ := bdE H
 have j_8 := Runs.loop (P := Try.prog) (N := selvageref14_Span.F.N) (m0 := 0) (c := sub_ selvageref14_Span.F.c [1, 0, 1, 0, 0]) (f := (selvageref14_Span.l1 a_1 a_2)) (St := fun s_5 => ⟨[(0, .ro false 8 a_1.length (a_1.map api_Ins.c)), (1, .v (.int .i64 a_2)), (7, .v (.int .i64 s_5))], [], []⟩) (xo := (fun o => match o with | Sum.inl _ => .ret | Sum.inr (_) => (.exit 0) : ((Int × Int) ⊕ Unit) → Ex)) (So := (fun o => match o with | Sum.inl s_9 => ⟨[(4, .v (.int .i64 s_9.1)), (5, .v (.int .i64 s_9.2)), (6, .v (.bool true))], [], []⟩ | Sum.inr (s_10) => ⟨[], [], []⟩ : ((Int × Int) ⊕ Unit) → ASt)) (by intro o; rcases o with _ | _ <;> simp) (fun s_5 z H => by
  unfold selvageref14_Span.l1 at H
  rcases ic H with ⟨h_11, H⟩ | ⟨h_11, H⟩
  ·obtain ⟨o_12, e_13, H⟩ := bdE H
   have j_14 : Runs Try.prog selvageref14_Span.F.N 0 (sub_ selvageref14_Span.F.c [1, 0, 1, 0, 0, 1, 0, 0, 0, 0]) ⟨[(0, .ro false 8 a_1.length (a_1.map api_Ins.c)), (1, .v (.int .i64 a_2)), (7, .v (.int .i64 s_5))], [], []⟩ ((fun _ => .normal : Bool → Ex) o_12) ((fun o_12 => ⟨[(0, .ro false 8 a_1.length (a_1.map api_Ins.c)), (1, .v (.int .i64 a_2)), (7, .v (.int .i64 s_5)), (31, .v (.bool o_12))], [], []⟩ : Bool → ASt) o_12) := by
    clear H
    have H := e_13
    clear e_13
    obtain ⟨g_15, H⟩ := gdE H
    let v_16 : api_Ins := gi a_1 s_5
    replace H := ltD H
    obtain ⟨r_17, e_18, H⟩ := bdE H
    rcases ie H with ⟨h_19, H⟩ | ⟨h_19, H⟩
    ·let v_20 : api_Ins := gi a_1 s_5
     replace H := ltD H
     obtain rfl := sj H
     exact fn [ix api_Ins.c g_15, ca [] (selvageref10_Has.ev e_18), bn h_19, ix api_Ins.c g_15, pF] (by kernel_rfl)
    ·obtain rfl := sj H
     exact fn [ix api_Ins.c g_15, ca [] (selvageref10_Has.ev e_18), bn h_19, pT] (by kernel_rfl)
   rcases ie H with ⟨h_21, H⟩ | ⟨h_21, H⟩
   ·obtain rfl := sj H
    exact fn [br h_11, sg_ 4 j_14, br h_21] (by kernel_rfl)
   ·obtain ⟨o_25, e_26, H⟩ := bdE H
    have j_27 := Runs.loop (P := Try.prog) (N := selvageref14_Span.F.N) (m0 := 0) (c := sub_ selvageref14_Span.F.c [1, 0, 1, 0, 0, 1, 0, 0, 1, 1, 0, 1, 0, 0]) (f := (selvageref14_Span.l2 a_1 a_2)) (St := fun s_24 => ⟨[(0, .ro false 8 a_1.length (a_1.map api_Ins.c)), (1, .v (.int .i64 a_2)), (7, .v (.int .i64 s_5)), (8, .v (.int .i64 s_24.1)), (9, .v (.int .i64 s_24.2))], [], []⟩) (xo := (fun _ => (.exit 2) : Int → Ex)) (So := (fun o_25 => ⟨[(7, .v (.int .i64 s_5)), (8, .v (.int .i64 o_25))], [], []⟩ : Int → ASt)) (by intro o; simp) (fun s_24 z H => by
     unfold selvageref14_Span.l2 at H
     rcases ic H with ⟨h_28, H⟩ | ⟨h_28, H⟩
     ·obtain ⟨g_29, H⟩ := gdE H
      let v_30 : api_Ins := gi a_1 s_24.2
      replace H := ltD H
      obtain ⟨r_31, e_32, H⟩ := bdE H
      rcases ie H with ⟨h_33, H⟩ | ⟨h_33, H⟩
      ·rcases ic H with ⟨h_34, H⟩ | ⟨h_34, H⟩
       ·let v_35 : Int := wr .i64 (s_24.2 + 1)
        replace H := ltD H
        obtain rfl := sj H
        exact fn [br h_28, ix api_Ins.c g_29, ca [] (selvageref14_Uses.ev e_32), br h_33, pT, br h_34] (by kernel_rfl)
       ·let v_36 : Int := wr .i64 (s_24.2 + 1)
        replace H := ltD H
        obtain rfl := sj H
        exact fn [br h_28, ix api_Ins.c g_29, ca [] (selvageref14_Uses.ev e_32), br h_33, pT, br h_34] (by kernel_rfl)
      ·let v_37 : Int := wr .i64 (s_24.2 + 1)
       replace H := ltD H
       obtain rfl := sj H
       exact fn [br h_28, ix api_Ins.c g_29, ca [] (selvageref14_Uses.ev e_32), br h_33, pF, au] (by kernel_rfl)
     ·obtain rfl := sj H
      exact fn [br h_28] (by kernel_rfl)) e_26
    obtain rfl := sj H
    exact fn [br h_11, sg_ 4 j_14, br h_21, su j_27] (by kernel_rfl)
  ·obtain rfl := sj H
   exact fn [br h_11] (by kernel_rfl)) e_7
 rcases o_6 with s_9 | s_10
 ·obtain rfl := sj H
  exact selvageref14_Span.F.run tb mixed [su j_8] rfl (by kernel_rfl)
 ·obtain rfl := sj H
  exact selvageref14_Span.F.run tb mixed [su j_8] rfl (by kernel_rfl)
noncomputable def selvageref14_weightOf.F : FI Try.prog 26 := ⟨Try.f26, 38, (Try.f26.body.getD .skip), Try.f26.results.toList, Try.call26, Try.func26, by kernel_rfl, by kernel_rfl, by kernel_rfl⟩
def selvageref14_weightOf.l1 (a_1 : List api_Ins) (a_2 : Int) (s_7 : Int × Int) : Option ((Int × Int) ⊕ Int) :=
 if s_7.2 < (a_1.length : Int) then (if 0 ≤ s_7.2 ∧ s_7.2 < (a_1.length : Int) then (letC (gi a_1 s_7.2) fun v_13 => (selvageref14_Uses.m v_13 a_2).bind fun r_14 => if r_14 = true then (letC (wr .i64 (s_7.1 + 1)) fun v_17 => letC (wr .i64 (s_7.2 + 1)) fun v_18 => some (Sum.inl (v_17, v_18))) else (letC (wr .i64 (s_7.2 + 1)) fun v_19 => some (Sum.inl (s_7.1, v_19)))) else none) else (some (Sum.inr s_7.1))
def selvageref14_weightOf.m (a_1 : List api_Ins) (a_2 : Int) : Option (Nat) :=
 (selvageref14_Span.m a_1 a_2).bind fun r_3 => (B.loop (selvageref14_weightOf.l1 a_1 a_2) ((0, 0) : Int × Int)).bind fun o_8 => letC (qf (flt (i2f o_8)) (flt (i2f (wr .i64 (r_3.2.1 - r_3.1))))) fun v_20 => some v_20
noncomputable def selvageref14_weightOf.o (a_1 : List api_Ins) (a_2 : Int) (r : Nat) : Out := .ret (.flt r) [] []
theorem selvageref14_weightOf.ev {a_1 : List api_Ins} {a_2 : Int} {r : Nat} (H : selvageref14_weightOf.m a_1 a_2 = some r) : Ev Try.prog 26 [.ro false 8 a_1.length (a_1.map api_Ins.c), .v (.int .i64 a_2)] [] [] (selvageref14_weightOf.o a_1 a_2 r) := by
 unfold selvageref14_weightOf.m at H
 obtain ⟨r_3, e_4, H⟩ := bdE H
 obtain ⟨o_8, e_9, H⟩ := bdE H
 have j_10 := Runs.loop (P := Try.prog) (N := selvageref14_weightOf.F.N) (m0 := 0) (c := sub_ selvageref14_weightOf.F.c [1, 1, 1, 0, 1, 0, 0]) (f := (selvageref14_weightOf.l1 a_1 a_2)) (St := fun s_7 => ⟨[(0, .ro false 8 a_1.length (a_1.map api_Ins.c)), (1, .v (.int .i64 a_2)), (5, .v (.int .i64 r_3.1)), (6, .v (.int .i64 r_3.2.1)), (8, .v (.int .i64 s_7.1)), (9, .v (.int .i64 s_7.2))], [], []⟩) (xo := (fun _ => (.exit 0) : Int → Ex)) (So := (fun o_8 => ⟨[(5, .v (.int .i64 r_3.1)), (6, .v (.int .i64 r_3.2.1)), (8, .v (.int .i64 o_8))], [], []⟩ : Int → ASt)) (by intro o; simp) (fun s_7 z H => by
  unfold selvageref14_weightOf.l1 at H
  rcases ic H with ⟨h_11, H⟩ | ⟨h_11, H⟩
  ·obtain ⟨g_12, H⟩ := gdE H
   let v_13 : api_Ins := gi a_1 s_7.2
   replace H := ltD H
   obtain ⟨r_14, e_15, H⟩ := bdE H
   rcases ie H with ⟨h_16, H⟩ | ⟨h_16, H⟩
   ·let v_17 : Int := wr .i64 (s_7.1 + 1)
    replace H := ltD H
    let v_18 : Int := wr .i64 (s_7.2 + 1)
    replace H := ltD H
    obtain rfl := sj H
    exact fn [br h_11, ix api_Ins.c g_12, ca [] (selvageref14_Uses.ev e_15), br h_16] (by kernel_rfl)
   ·let v_19 : Int := wr .i64 (s_7.2 + 1)
    replace H := ltD H
    obtain rfl := sj H
    exact fn [br h_11, ix api_Ins.c g_12, ca [] (selvageref14_Uses.ev e_15), br h_16] (by kernel_rfl)
  ·obtain rfl := sj H
   exact fn [br h_11] (by kernel_rfl)) e_9
 let v_20 : Nat := qf (flt (i2f o_8)) (flt (i2f (wr .i64 (r_3.2.1 - r_3.1))))
 replace H := ltD H
 obtain rfl := sj H
 exact selvageref14_weightOf.F.run tb mixed [ca [] (selvageref14_Span.ev e_4), su j_10] rfl (by kernel_rfl)
noncomputable def selvageref03_NaN_2.F : FI Try.prog 59 := ⟨Try.f59, 15, (Try.f59.body.getD .skip), Try.f59.results.toList, Try.call59, Try.func59, by kernel_rfl, by kernel_rfl, by kernel_rfl⟩
def selvageref03_NaN_2.m (a_1 : Nat) : Bool :=
 letC (wr .u64 ((a_1 : Int) * 2 ^ (min (1 : Int).toNat 64))) fun v_2 => letC (v_2 / 2 ^ (min (53 : Int).toNat 64)) fun v_3 => if v_3 = 2047 then (letC (wr .u64 ((a_1 : Int) * 2 ^ (min (12 : Int).toNat 64))) fun v_5 => (!(decide (v_5 = 0)))) else (false)
noncomputable def selvageref03_NaN_2.o (a_1 : Nat) (r : Bool) : Out := .ret (.v (.bool r)) [] []
theorem selvageref03_NaN_2.ev {a_1 : Nat} {r : Bool} (H : selvageref03_NaN_2.m a_1 = r) : Ev Try.prog 59 [.v (.float .f64 a_1)] [] [] (selvageref03_NaN_2.o a_1 r) := by
 unfold selvageref03_NaN_2.m at H
 let v_2 : Int := wr .u64 ((a_1 : Int) * 2 ^ (min (1 : Int).toNat 64))
 replace H := ltD H
 let v_3 : Int := v_2 / 2 ^ (min (53 : Int).toNat 64)
 replace H := ltD H
 rcases ic H with ⟨h_4, H⟩ | ⟨h_4, H⟩
 ·let v_5 : Int := wr .u64 ((a_1 : Int) * 2 ^ (min (12 : Int).toNat 64))
  replace H := ltD H
  subst H
  exact selvageref03_NaN_2.F.run tb mixed [ext (ext_f64bitsx (c := a_1) Try.func60 (by kernel_rfl) (by kernel_rfl) (by kernel_rfl) (by kernel_rfl)), pf (by decide : 0 ≤ (1 : Int)), pf (by decide : 0 ≤ (53 : Int)), br h_4, pf (by decide : 0 ≤ (12 : Int)), pT] rfl (by kernel_rfl)
 ·subst H
  exact selvageref03_NaN_2.F.run tb mixed [ext (ext_f64bitsx (c := a_1) Try.func60 (by kernel_rfl) (by kernel_rfl) (by kernel_rfl) (by kernel_rfl)), pf (by decide : 0 ≤ (1 : Int)), pf (by decide : 0 ≤ (53 : Int)), br h_4, pF] rfl (by kernel_rfl)
def selvageref03_NaN_3.m (a_1 : Nat) : Bool := isnan a_1
noncomputable def selvageref03_NaN_3.o (a_1 : Nat) (r : Bool) : Out := .ret (.v (.bool r)) [] []
theorem selvageref03_NaN_3.ev {a_1 : Nat} {r : Bool} (H : selvageref03_NaN_3.m a_1 = r) : Ev Try.prog 59 [.flt a_1] [] [] (selvageref03_NaN_3.o a_1 r) := by
 subst H
 refine Ev.fltE Try.call59 fun c hc => selvageref03_NaN_2.ev ?_
 unfold selvageref03_NaN_2.m selvageref03_NaN_3.m
 rw [← hc, isnan_flt]
 exact nan_ifB c
noncomputable def selvageref03_Rank.F : FI Try.prog 25 := ⟨Try.f25, 15, (Try.f25.body.getD .skip), Try.f25.results.toList, Try.call25, Try.func25, by kernel_rfl, by kernel_rfl, by kernel_rfl⟩
def selvageref03_Rank.m (a_1 : Nat) : Option (Int) :=
 letC (selvageref03_NaN_3.m a_1) fun r_2 => if r_2 = true then (some 0) else (if isnan a_1 = false then (letC ((a_1 : Int) / 2 ^ (min (63 : Int).toNat 64)) fun v_6 => if v_6 = 1 then (letC (bits .xor .u64 (bif IntKind.signed .u64 then -1 else IntKind.max .u64) (a_1 : Int)) fun v_8 => some v_8) else (letC (bits .or .u64 (a_1 : Int) (9223372036854775808 : Int)) fun v_9 => some v_9)) else none)
noncomputable def selvageref03_Rank.o (a_1 : Nat) (r : Int) : Out := .ret (.v (.int .u64 r)) [] []
theorem selvageref03_Rank.ev {a_1 : Nat} {r : Int} (H : selvageref03_Rank.m a_1 = some r) : Ev Try.prog 25 [.flt a_1] [] [] (selvageref03_Rank.o a_1 r) := by
 unfold selvageref03_Rank.m at H
 obtain ⟨r_2, e_3, H⟩ := ltE H
 rcases ie H with ⟨h_4, H⟩ | ⟨h_4, H⟩
 ·obtain rfl := sj H
  exact selvageref03_Rank.F.run tb mixed [ca [] (selvageref03_NaN_3.ev e_3), br h_4] rfl (by kernel_rfl)
 ·obtain ⟨g_5, H⟩ := gdE H
  let v_6 : Int := (a_1 : Int) / 2 ^ (min (63 : Int).toNat 64)
  replace H := ltD H
  rcases ic H with ⟨h_7, H⟩ | ⟨h_7, H⟩
  ·let v_8 : Int := bits .xor .u64 (bif IntKind.signed .u64 then -1 else IntKind.max .u64) (a_1 : Int)
   replace H := ltD H
   obtain rfl := sj H
   exact selvageref03_Rank.F.run tb mixed [ca [] (selvageref03_NaN_3.ev e_3), br h_4, ext (ext_f64bits Try.func60 (by kernel_rfl) (by kernel_rfl) (by kernel_rfl) (by kernel_rfl) g_5), pf (by decide : 0 ≤ (63 : Int)), br h_7] rfl (by kernel_rfl)
  ·let v_9 : Int := bits .or .u64 (a_1 : Int) (9223372036854775808 : Int)
   replace H := ltD H
   obtain rfl := sj H
   exact selvageref03_Rank.F.run tb mixed [ca [] (selvageref03_NaN_3.ev e_3), br h_4, ext (ext_f64bits Try.func60 (by kernel_rfl) (by kernel_rfl) (by kernel_rfl) (by kernel_rfl) g_5), pf (by decide : 0 ≤ (63 : Int)), br h_7] rfl (by kernel_rfl)
noncomputable def selvageref14_Homes.F : FI Try.prog 11 := ⟨Try.f11, 185, (Try.f11.body.getD .skip), Try.f11.results.toList, Try.call11, Try.func11, by kernel_rfl, by kernel_rfl, by kernel_rfl⟩
def selvageref14_Homes.l6 (a_1 : List api_Ins) (a_3 : Int) (o_49 : (List Int) × Int) (s_80 : Int × Int) (s_87 : Int × Int) : Option ((Int × Int) ⊕ Int) :=
 if s_87.2 < a_3 then ((if 0 ≤ s_80.2 ∧ s_80.2 < (a_1.length : Int) then (letC (gi a_1 s_80.2) fun v_96 => (selvageref10_Has.m v_96.Op 100).bind fun r_97 => if r_97 = true then (letC (gi a_1 s_80.2) fun v_100 => if 0 ≤ s_87.2 ∧ s_87.2 < 8 then (if 0 ≤ s_87.2 ∧ s_87.2 < (o_49.1.length : Int) then (letC (gi o_49.1 s_87.2) fun v_103 => if v_100.D = v_103 then (if s_87.1 < 0 then (some (true : Bool)) else (letC (gi o_49.1 s_87.2) fun v_106 => (selvageref14_weightOf.m a_1 v_106).bind fun r_107 => (selvageref03_Rank.m r_107).bind fun r_109 => if 0 ≤ s_87.1 ∧ s_87.1 < 8 then (if 0 ≤ s_87.1 ∧ s_87.1 < (o_49.1.length : Int) then (letC (gi o_49.1 s_87.1) fun v_113 => (selvageref14_weightOf.m a_1 v_113).bind fun r_114 => (selvageref03_Rank.m r_114).bind fun r_116 => some ((decide (r_109 < r_116)) : Bool)) else none) else none)) else (some (false : Bool))) else none) else none) else (some (false : Bool))) else none : Option Bool).bind fun o_92 => if o_92 = true then (letC (wr .i64 (s_87.2 + 1)) fun v_119 => some (Sum.inl (s_87.2, v_119))) else (letC (wr .i64 (s_87.2 + 1)) fun v_120 => some (Sum.inl (s_87.1, v_120)))) else (some (Sum.inr s_87.1))
def selvageref14_Homes.l5 (a_1 : List api_Ins) (a_3 : Int) (s_25 : (List Int) × (List api_Home) × Nat × Int × Int) (o_49 : (List Int) × Int) (s_80 : Int × Int) : Option ((Int × Int) ⊕ Int) :=
 if s_80.2 < s_25.2.2.2.2 then ((B.loop (selvageref14_Homes.l6 a_1 a_3 o_49 s_80) ((s_80.1, 0) : Int × Int)).bind fun o_88 => letC (wr .i64 (s_80.2 + 1)) fun v_121 => some (Sum.inl (o_88, v_121))) else (some (Sum.inr s_80.1))
def selvageref14_Homes.l4 (a_1 : List api_Ins) (s_25 : (List Int) × (List api_Home) × Nat × Int × Int) (s_48 : (List Int) × Int × Int) : Option (((List Int) × Int × Int) ⊕ ((List Int) × Int)) :=
 if s_48.2.2 ≥ 0 then (if 0 ≤ s_48.2.2 ∧ s_48.2.2 < 8 then (if 0 ≤ s_48.2.2 ∧ s_48.2.2 < (s_48.1.length : Int) then (letC (gi s_48.1 s_48.2.2) fun v_55 => (if v_55 ≥ 0 then (letC (gi s_48.1 s_48.2.2) fun v_60 => (selvageref14_Span.m a_1 v_60).bind fun r_61 => if r_61.2.1 < s_25.2.2.2.2 then (letC (s_48.1.set s_48.2.2.toNat (-1)) fun v_64 => some (v_64 : List Int)) else (some (s_48.1 : List Int))) else (some (s_48.1 : List Int)) : Option (List Int)).bind fun o_56 => if 0 ≤ s_48.2.2 ∧ s_48.2.2 < (o_56.length : Int) then (letC (gi o_56 s_48.2.2) fun v_66 => if v_66 < 0 then (letC (wr .i64 (s_48.2.2 - 1)) fun v_68 => some (Sum.inl (o_56, s_48.2.2, v_68))) else (letC (wr .i64 (s_48.2.2 - 1)) fun v_69 => some (Sum.inl (o_56, s_48.2.1, v_69)))) else none) else none) else none) else (some (Sum.inr (s_48.1, s_48.2.1)))
def selvageref14_Homes.l3 (v_35 : api_Ins) (s_38 : (List api_Home) × Nat) : Option (((List api_Home) × Nat) ⊕ ((List api_Home) × Nat)) :=
 if (s_38.2 : Int) ≤ v_35.D then (if s_38.1.length = s_38.2 then (if (s_38.2 + ([(api_Home.mk (-1) (-1))] : List api_Home).length) * 16 ≤ 140737488355328 then (letC (s_38.1 ++ ([(api_Home.mk (-1) (-1))] : List api_Home)) fun v_45 => some (Sum.inl (v_45, v_45.length))) else none) else none) else (some (Sum.inr (s_38.1, s_38.2)))
def selvageref14_Homes.l2 (a_1 : List api_Ins) (a_3 : Int) (s_25 : (List Int) × (List api_Home) × Nat × Int × Int) : Option (((List Int) × (List api_Home) × Nat × Int × Int) ⊕ ((List api_Home) × Nat)) :=
 if s_25.2.2.2.2 < (a_1.length : Int) then (if 0 ≤ s_25.2.2.2.2 ∧ s_25.2.2.2.2 < (a_1.length : Int) then (letC (gi a_1 s_25.2.2.2.2) fun v_31 => (selvageref10_Has.m v_31.Op 100).bind fun r_32 => if r_32 = true then (letC (gi a_1 s_25.2.2.2.2) fun v_35 => (B.loop (selvageref14_Homes.l3 v_35) ((s_25.2.1, s_25.2.2.1) : (List api_Home) × Nat)).bind fun o_39 => (B.loop (selvageref14_Homes.l4 a_1 s_25) ((s_25.1, (-1), (wr .i64 (a_3 - 1))) : (List Int) × Int × Int)).bind fun o_49 => if o_49.2 ≥ 0 then (if 0 ≤ o_49.2 ∧ o_49.2 < 8 then (if 0 ≤ o_49.2 ∧ o_49.2 < (o_49.1.length : Int) then (letC (o_49.1.set o_49.2.toNat v_35.D) fun v_73 => if 0 ≤ v_35.D ∧ v_35.D < (o_39.2 : Int) then (if 0 ≤ v_35.D ∧ v_35.D < (o_39.1.length : Int) then (letC (o_39.1.set v_35.D.toNat (api_Home.mk o_49.2 0)) fun v_76 => letC (wr .i64 (s_25.2.2.2.2 + 1)) fun v_77 => some (Sum.inl (v_73, v_76, o_39.2, s_25.2.2.2.1, v_77))) else none) else none) else none) else none) else ((B.loop (selvageref14_Homes.l5 a_1 a_3 s_25 o_49) (((-1), 0) : Int × Int)).bind fun o_81 => letC (wr .i64 (s_25.2.2.2.1 + 1)) fun v_122 => (selvageref14_weightOf.m a_1 v_35.D).bind fun r_123 => (selvageref03_Rank.m r_123).bind fun r_125 => if 0 ≤ o_81 ∧ o_81 < 8 then (if 0 ≤ o_81 ∧ o_81 < (o_49.1.length : Int) then (letC (gi o_49.1 o_81) fun v_129 => (selvageref14_weightOf.m a_1 v_129).bind fun r_130 => (selvageref03_Rank.m r_130).bind fun r_132 => if r_125 < r_132 then (if 0 ≤ v_35.D ∧ v_35.D < (o_39.2 : Int) then (if 0 ≤ v_35.D ∧ v_35.D < (o_39.1.length : Int) then (letC (o_39.1.set v_35.D.toNat (api_Home.mk (-1) s_25.2.2.2.1)) fun v_137 => letC (wr .i64 (s_25.2.2.2.2 + 1)) fun v_138 => some (Sum.inl (o_49.1, v_137, o_39.2, v_122, v_138))) else none) else none) else (letC (gi o_49.1 o_81) fun v_139 => if 0 ≤ v_139 ∧ v_139 < (o_39.2 : Int) then (if 0 ≤ v_139 ∧ v_139 < (o_39.1.length : Int) then (letC (o_39.1.set v_139.toNat (api_Home.mk (-1) s_25.2.2.2.1)) fun v_142 => if 0 ≤ v_35.D ∧ v_35.D < (o_39.2 : Int) then (if 0 ≤ v_35.D ∧ v_35.D < (v_142.length : Int) then (letC (v_142.set v_35.D.toNat (api_Home.mk o_81 0)) fun v_145 => letC (o_49.1.set o_81.toNat v_35.D) fun v_146 => letC (wr .i64 (s_25.2.2.2.2 + 1)) fun v_147 => some (Sum.inl (v_146, v_145, o_39.2, v_122, v_147))) else none) else none) else none) else none)) else none) else none)) else (letC (wr .i64 (s_25.2.2.2.2 + 1)) fun v_148 => some (Sum.inl (s_25.1, s_25.2.1, s_25.2.2.1, s_25.2.2.2.1, v_148)))) else none) else (some (Sum.inr (s_25.2.1, s_25.2.2.1)))
def selvageref14_Homes.l1 (s_14 : (List Int) × Int) : Option (((List Int) × Int) ⊕ (List Int)) :=
 if s_14.2 < 8 then (if 0 ≤ s_14.2 ∧ s_14.2 < 8 then (if 0 ≤ s_14.2 ∧ s_14.2 < (s_14.1.length : Int) then (letC (s_14.1.set s_14.2.toNat (-1)) fun v_21 => letC (wr .i64 (s_14.2 + 1)) fun v_22 => some (Sum.inl (v_21, v_22))) else none) else none) else (some (Sum.inr s_14.1))
def selvageref14_Homes.m (a_1 : List api_Ins) (a_2 : List api_Loc) (a_3 : Int) : Option (Int ⊕ ((List api_Home) × Nat)) :=
 (selvageref10_Right.m a_1 a_2).bind fun r_4 => if r_4 = true then ((if a_3 < 1 then (some (true : Bool)) else (some ((decide (a_3 > 8)) : Bool)) : Option Bool).bind fun o_7 => if o_7 = true then (some (Sum.inl 1)) else ((B.loop selvageref14_Homes.l1 (((List.replicate 8 (0 : Int)), 0) : (List Int) × Int)).bind fun o_15 => (B.loop (selvageref14_Homes.l2 a_1 a_3) ((o_15, ([] : List api_Home), ([] : List api_Home).length, 0, 0) : (List Int) × (List api_Home) × Nat × Int × Int)).bind fun o_26 => some (Sum.inr ((o_26.1, o_26.2))))) else (some (Sum.inl 3))
noncomputable def selvageref14_Homes.o (a_1 : List api_Ins) (a_2 : List api_Loc) (a_3 : Int) (r : Int ⊕ ((List api_Home) × Nat)) : Out := match r with | Sum.inl r => .ret (.tup [.v (.slice none 0 0), .v (.int .i64 r)]) [] [] | Sum.inr (r) => .ret (.tup [.sl 0 1 r.2 0 r.2, .v (.int .i64 0)]) [.dead, .arr true 79 2 r.2 (r.1.map api_Home.c)] []
theorem selvageref14_Homes.ev {a_1 : List api_Ins} {a_2 : List api_Loc} {a_3 : Int} {r : Int ⊕ ((List api_Home) × Nat)} (H : selvageref14_Homes.m a_1 a_2 a_3 = some r) : Ev Try.prog 11 [.ro false 8 a_1.length (a_1.map api_Ins.c), .ro false 2 a_2.length (a_2.map api_Loc.c), .v (.int .i64 a_3)] [] [] (selvageref14_Homes.o a_1 a_2 a_3 r) := by
 unfold selvageref14_Homes.m at H
 obtain ⟨r_4, e_5, H⟩ := bdE H
 rcases ie H with ⟨h_6, H⟩ | ⟨h_6, H⟩
 ·obtain ⟨o_7, e_8, H⟩ := bdE H
  have j_9 : Runs Try.prog selvageref14_Homes.F.N 0 (sub_ selvageref14_Homes.F.c [1, 1, 0, 0]) ⟨[(0, .ro false 8 a_1.length (a_1.map api_Ins.c)), (2, .v (.int .i64 a_3))], [], []⟩ ((fun _ => .normal : Bool → Ex) o_7) ((fun o_7 => ⟨[(0, .ro false 8 a_1.length (a_1.map api_Ins.c)), (2, .v (.int .i64 a_3)), (32, .v (.bool o_7))], [], []⟩ : Bool → ASt) o_7) := by
   clear H
   have H := e_8
   clear e_8
   rcases ic H with ⟨h_10, H⟩ | ⟨h_10, H⟩
   ·obtain rfl := sj H
    exact fn [br h_10, pT] (by kernel_rfl)
   ·obtain rfl := sj H
    exact fn [br h_10, pF] (by kernel_rfl)
  rcases ie H with ⟨h_11, H⟩ | ⟨h_11, H⟩
  ·obtain rfl := sj H
   exact selvageref14_Homes.F.run tb mixed [ca [] (selvageref10_Right.ev e_5), bn h_6, sg_ 3 j_9, br h_11] rfl (by kernel_rfl)
  ·obtain ⟨o_15, e_16, H⟩ := bdE H
   have j_17 := Runs.loop (P := Try.prog) (N := selvageref14_Homes.F.N) (m0 := 0) (c := sub_ selvageref14_Homes.F.c [1, 1, 1, 1, 1, 0, 1, 0, 0]) (f := selvageref14_Homes.l1) (St := fun s_14 => ⟨[(0, .ro false 8 a_1.length (a_1.map api_Ins.c)), (2, .v (.int .i64 a_3)), (8, .v (.slice none 0 0)), (9, .el 0 ((List.replicate 8 (0 : Int)).length) 0 0), (10, .v (.int .i64 s_14.2))], [.arr false 76 1 ((List.replicate 8 (0 : Int)).length) (s_14.1.map (cI .i64))], []⟩) (xo := (fun _ => (.exit 0) : (List Int) → Ex)) (So := (fun o_15 => ⟨[(0, .ro false 8 a_1.length (a_1.map api_Ins.c)), (2, .v (.int .i64 a_3)), (8, .v (.slice none 0 0)), (9, .el 0 ((List.replicate 8 (0 : Int)).length) 0 0)], [.arr false 76 1 ((List.replicate 8 (0 : Int)).length) (o_15.map (cI .i64))], []⟩ : (List Int) → ASt)) (by intro o; simp) (fun s_14 z H => by
    unfold selvageref14_Homes.l1 at H
    rcases ic H with ⟨h_18, H⟩ | ⟨h_18, H⟩
    ·obtain ⟨g_19, H⟩ := gdE H
     obtain ⟨g_20, H⟩ := gdE H
     let v_21 : List Int := s_14.1.set s_14.2.toNat (-1)
     replace H := ltD H
     let v_22 : Int := wr .i64 (s_14.2 + 1)
     replace H := ltD H
     obtain rfl := sj H
     exact fn [br h_18, pf g_19, up (cI .i64) 0 [.v (.int .i64 (-1))] (-1) g_20 (by kernel_rfl)] (by kernel_rfl)
    ·obtain rfl := sj H
     exact fn [br h_18] (by kernel_rfl)) e_16
   obtain ⟨o_26, e_27, H⟩ := bdE H
   have j_28 := Runs.loop (P := Try.prog) (N := selvageref14_Homes.F.N) (m0 := 0) (c := sub_ selvageref14_Homes.F.c [1, 1, 1, 1, 1, 1, 1, 0, 1, 0, 0]) (f := (selvageref14_Homes.l2 a_1 a_3)) (St := fun s_25 => ⟨[(0, .ro false 8 a_1.length (a_1.map api_Ins.c)), (2, .v (.int .i64 a_3)), (8, .sl 0 1 s_25.2.2.1 0 s_25.2.2.1), (9, .el 0 ((List.replicate 8 (0 : Int)).length) 0 0), (11, .v (.int .i64 s_25.2.2.2.1)), (12, .v (.int .i64 s_25.2.2.2.2))], [.arr false 76 1 ((List.replicate 8 (0 : Int)).length) (s_25.1.map (cI .i64)), .arr true 79 2 s_25.2.2.1 (s_25.2.1.map api_Home.c)], []⟩) (xo := (fun _ => (.exit 2) : ((List api_Home) × Nat) → Ex)) (So := (fun o_26 => ⟨[(8, .sl 0 1 o_26.2 0 o_26.2)], [.dead, .arr true 79 2 o_26.2 (o_26.1.map api_Home.c)], []⟩ : ((List api_Home) × Nat) → ASt)) (by intro o; simp) (fun s_25 z H => by
    unfold selvageref14_Homes.l2 at H
    rcases ic H with ⟨h_29, H⟩ | ⟨h_29, H⟩
    ·obtain ⟨g_30, H⟩ := gdE H
     let v_31 : api_Ins := gi a_1 s_25.2.2.2.2
     replace H := ltD H
     obtain ⟨r_32, e_33, H⟩ := bdE H
     rcases ie H with ⟨h_34, H⟩ | ⟨h_34, H⟩
     ·let v_35 : api_Ins := gi a_1 s_25.2.2.2.2
      replace H := ltD H
      obtain ⟨o_39, e_40, H⟩ := bdE H
      have j_41 := Runs.loop (P := Try.prog) (N := selvageref14_Homes.F.N) (m0 := 0) (c := sub_ selvageref14_Homes.F.c [1, 1, 1, 1, 1, 1, 1, 0, 1, 0, 0, 1, 0, 0, 1, 1, 0, 0, 0]) (f := (selvageref14_Homes.l3 v_35)) (St := fun s_38 => ⟨[(0, .ro false 8 a_1.length (a_1.map api_Ins.c)), (2, .v (.int .i64 a_3)), (8, .sl 0 1 s_38.2 0 s_38.2), (9, .el 0 ((List.replicate 8 (0 : Int)).length) 0 0), (11, .v (.int .i64 s_25.2.2.2.1)), (12, .v (.int .i64 s_25.2.2.2.2)), (13, .v (.int .i64 v_35.D))], [.arr false 76 1 ((List.replicate 8 (0 : Int)).length) (s_25.1.map (cI .i64)), .arr true 79 2 s_38.2 (s_38.1.map api_Home.c)], []⟩) (xo := (fun _ => (.exit 4) : ((List api_Home) × Nat) → Ex)) (So := (fun o_39 => ⟨[(0, .ro false 8 a_1.length (a_1.map api_Ins.c)), (2, .v (.int .i64 a_3)), (8, .sl 0 1 o_39.2 0 o_39.2), (9, .el 0 ((List.replicate 8 (0 : Int)).length) 0 0), (11, .v (.int .i64 s_25.2.2.2.1)), (12, .v (.int .i64 s_25.2.2.2.2)), (13, .v (.int .i64 v_35.D))], [.arr false 76 1 ((List.replicate 8 (0 : Int)).length) (s_25.1.map (cI .i64)), .arr true 79 2 o_39.2 (o_39.1.map api_Home.c)], []⟩ : ((List api_Home) × Nat) → ASt)) (by intro o; simp) (fun s_38 z H => by
       unfold selvageref14_Homes.l3 at H
       rcases ic H with ⟨h_42, H⟩ | ⟨h_42, H⟩
       ·obtain ⟨g_43, H⟩ := gdE H
        obtain ⟨g_44, H⟩ := gdE H
        let v_45 : List api_Home := s_38.1 ++ ([(api_Home.mk (-1) (-1))] : List api_Home)
        replace H := ltD H
        obtain rfl := sj H
        exact fn [br h_42, apn api_Home.c 16 false s_38.1 ([(api_Home.mk (-1) (-1))] : List api_Home) s_38.2 g_43 g_44 (fun h => by cases h)] (by kernel_rfl)
       ·obtain rfl := sj H
        exact fn [br h_42] (by kernel_rfl)) e_40
      obtain ⟨o_49, e_50, H⟩ := bdE H
      have j_51 := Runs.loop (P := Try.prog) (N := selvageref14_Homes.F.N) (m0 := 0) (c := sub_ selvageref14_Homes.F.c [1, 1, 1, 1, 1, 1, 1, 0, 1, 0, 0, 1, 0, 0, 1, 1, 1, 1, 0, 1, 0, 0]) (f := (selvageref14_Homes.l4 a_1 s_25)) (St := fun s_48 => ⟨[(0, .ro false 8 a_1.length (a_1.map api_Ins.c)), (2, .v (.int .i64 a_3)), (8, .sl 0 1 o_39.2 0 o_39.2), (9, .el 0 ((List.replicate 8 (0 : Int)).length) 0 0), (11, .v (.int .i64 s_25.2.2.2.1)), (12, .v (.int .i64 s_25.2.2.2.2)), (13, .v (.int .i64 v_35.D)), (14, .v (.int .i64 s_48.2.1)), (15, .v (.int .i64 s_48.2.2))], [.arr false 76 1 ((List.replicate 8 (0 : Int)).length) (s_48.1.map (cI .i64)), .arr true 79 2 o_39.2 (o_39.1.map api_Home.c)], []⟩) (xo := (fun _ => (.exit 6) : ((List Int) × Int) → Ex)) (So := (fun o_49 => ⟨[(0, .ro false 8 a_1.length (a_1.map api_Ins.c)), (2, .v (.int .i64 a_3)), (8, .sl 0 1 o_39.2 0 o_39.2), (9, .el 0 ((List.replicate 8 (0 : Int)).length) 0 0), (11, .v (.int .i64 s_25.2.2.2.1)), (12, .v (.int .i64 s_25.2.2.2.2)), (13, .v (.int .i64 v_35.D)), (14, .v (.int .i64 o_49.2))], [.arr false 76 1 ((List.replicate 8 (0 : Int)).length) (o_49.1.map (cI .i64)), .arr true 79 2 o_39.2 (o_39.1.map api_Home.c)], []⟩ : ((List Int) × Int) → ASt)) (by intro o; simp) (fun s_48 z H => by
       unfold selvageref14_Homes.l4 at H
       rcases ic H with ⟨h_52, H⟩ | ⟨h_52, H⟩
       ·obtain ⟨g_53, H⟩ := gdE H
        obtain ⟨g_54, H⟩ := gdE H
        let v_55 : Int := gi s_48.1 s_48.2.2
        replace H := ltD H
        obtain ⟨o_56, e_57, H⟩ := bdE H
        have j_58 : Runs Try.prog selvageref14_Homes.F.N 0 (sub_ selvageref14_Homes.F.c [1, 1, 1, 1, 1, 1, 1, 0, 1, 0, 0, 1, 0, 0, 1, 1, 1, 1, 0, 1, 0, 0, 1, 0, 0, 0, 1]) ⟨[(0, .ro false 8 a_1.length (a_1.map api_Ins.c)), (2, .v (.int .i64 a_3)), (8, .sl 0 1 o_39.2 0 o_39.2), (9, .el 0 ((List.replicate 8 (0 : Int)).length) 0 0), (11, .v (.int .i64 s_25.2.2.2.1)), (12, .v (.int .i64 s_25.2.2.2.2)), (13, .v (.int .i64 v_35.D)), (14, .v (.int .i64 s_48.2.1)), (15, .v (.int .i64 s_48.2.2)), (74, .v (.bool (decide (v_55 ≥ 0))))], [.arr false 76 1 ((List.replicate 8 (0 : Int)).length) (s_48.1.map (cI .i64)), .arr true 79 2 o_39.2 (o_39.1.map api_Home.c)], []⟩ ((fun _ => .normal : (List Int) → Ex) o_56) ((fun o_56 => ⟨[(0, .ro false 8 a_1.length (a_1.map api_Ins.c)), (2, .v (.int .i64 a_3)), (8, .sl 0 1 o_39.2 0 o_39.2), (9, .el 0 ((List.replicate 8 (0 : Int)).length) 0 0), (11, .v (.int .i64 s_25.2.2.2.1)), (12, .v (.int .i64 s_25.2.2.2.2)), (13, .v (.int .i64 v_35.D)), (14, .v (.int .i64 s_48.2.1)), (15, .v (.int .i64 s_48.2.2))], [.arr false 76 1 ((List.replicate 8 (0 : Int)).length) (o_56.map (cI .i64)), .arr true 79 2 o_39.2 (o_39.1.map api_Home.c)], []⟩ : (List Int) → ASt) o_56) := by
         clear H
         have H := e_57
         clear e_57
         rcases ic H with ⟨h_59, H⟩ | ⟨h_59, H⟩
         ·let v_60 : Int := gi s_48.1 s_48.2.2
          replace H := ltD H
          obtain ⟨r_61, e_62, H⟩ := bdE H
          rcases ic H with ⟨h_63, H⟩ | ⟨h_63, H⟩
          ·let v_64 : List Int := s_48.1.set s_48.2.2.toNat (-1)
           replace H := ltD H
           obtain rfl := sj H
           exact fn [br h_59, pf g_53, el (cI .i64) g_54, ca [] (selvageref14_Span.ev e_62), br h_63, pf g_53, up (cI .i64) 0 [.v (.int .i64 (-1))] (-1) g_54 (by kernel_rfl)] (by kernel_rfl)
          ·obtain rfl := sj H
           exact fn [br h_59, pf g_53, el (cI .i64) g_54, ca [] (selvageref14_Span.ev e_62), br h_63] (by kernel_rfl)
         ·obtain rfl := sj H
          exact fn [br h_59] (by kernel_rfl)
        obtain ⟨g_65, H⟩ := gdE H
        let v_66 : Int := gi o_56 s_48.2.2
        replace H := ltD H
        rcases ic H with ⟨h_67, H⟩ | ⟨h_67, H⟩
        ·let v_68 : Int := wr .i64 (s_48.2.2 - 1)
         replace H := ltD H
         obtain rfl := sj H
         exact fn [br h_52, pf g_53, el (cI .i64) g_54, sc_ j_58, pf g_53, el (cI .i64) g_65, br h_67] (by kernel_rfl)
        ·let v_69 : Int := wr .i64 (s_48.2.2 - 1)
         replace H := ltD H
         obtain rfl := sj H
         exact fn [br h_52, pf g_53, el (cI .i64) g_54, sc_ j_58, pf g_53, el (cI .i64) g_65, br h_67] (by kernel_rfl)
       ·obtain rfl := sj H
        exact fn [br h_52] (by kernel_rfl)) e_50
      rcases ic H with ⟨h_70, H⟩ | ⟨h_70, H⟩
      ·obtain ⟨g_71, H⟩ := gdE H
       obtain ⟨g_72, H⟩ := gdE H
       let v_73 : List Int := o_49.1.set o_49.2.toNat v_35.D
       replace H := ltD H
       obtain ⟨g_74, H⟩ := gdE H
       obtain ⟨g_75, H⟩ := gdE H
       let v_76 : List api_Home := o_39.1.set v_35.D.toNat (api_Home.mk o_49.2 0)
       replace H := ltD H
       let v_77 : Int := wr .i64 (s_25.2.2.2.2 + 1)
       replace H := ltD H
       obtain rfl := sj H
       exact fn [br h_29, ix api_Ins.c g_30, ca [] (selvageref10_Has.ev e_33), bn h_34, ix api_Ins.c g_30, su j_41, su j_51, br h_70, pf g_71, up (cI .i64) 0 [.v (.int .i64 v_35.D)] v_35.D g_72 (by kernel_rfl), pf g_74, up api_Home.c 0 [.v (.int .i64 o_49.2), .v (.int .i64 0)] (api_Home.mk o_49.2 0) g_75 (by kernel_rfl)] (by kernel_rfl)
      ·obtain ⟨o_81, e_82, H⟩ := bdE H
       have j_83 := Runs.loop (P := Try.prog) (N := selvageref14_Homes.F.N) (m0 := 0) (c := sub_ selvageref14_Homes.F.c [1, 1, 1, 1, 1, 1, 1, 0, 1, 0, 0, 1, 0, 0, 1, 1, 1, 1, 1, 1, 1, 0, 1, 0, 0]) (f := (selvageref14_Homes.l5 a_1 a_3 s_25 o_49)) (St := fun s_80 => ⟨[(0, .ro false 8 a_1.length (a_1.map api_Ins.c)), (2, .v (.int .i64 a_3)), (8, .sl 0 1 o_39.2 0 o_39.2), (9, .el 0 ((List.replicate 8 (0 : Int)).length) 0 0), (11, .v (.int .i64 s_25.2.2.2.1)), (12, .v (.int .i64 s_25.2.2.2.2)), (13, .v (.int .i64 v_35.D)), (19, .v (.int .i64 s_80.1)), (20, .v (.int .i64 s_80.2))], [.arr false 76 1 ((List.replicate 8 (0 : Int)).length) (o_49.1.map (cI .i64)), .arr true 79 2 o_39.2 (o_39.1.map api_Home.c)], []⟩) (xo := (fun _ => (.exit 8) : Int → Ex)) (So := (fun o_81 => ⟨[(0, .ro false 8 a_1.length (a_1.map api_Ins.c)), (2, .v (.int .i64 a_3)), (8, .sl 0 1 o_39.2 0 o_39.2), (9, .el 0 ((List.replicate 8 (0 : Int)).length) 0 0), (11, .v (.int .i64 s_25.2.2.2.1)), (12, .v (.int .i64 s_25.2.2.2.2)), (13, .v (.int .i64 v_35.D)), (19, .v (.int .i64 o_81))], [.arr false 76 1 ((List.replicate 8 (0 : Int)).length) (o_49.1.map (cI .i64)), .arr true 79 2 o_39.2 (o_39.1.map api_Home.c)], []⟩ : Int → ASt)) (by intro o; simp) (fun s_80 z H => by
        unfold selvageref14_Homes.l5 at H
        rcases ic H with ⟨h_84, H⟩ | ⟨h_84, H⟩
        ·obtain ⟨o_88, e_89, H⟩ := bdE H
         have j_90 := Runs.loop (P := Try.prog) (N := selvageref14_Homes.F.N) (m0 := 0) (c := sub_ selvageref14_Homes.F.c [1, 1, 1, 1, 1, 1, 1, 0, 1, 0, 0, 1, 0, 0, 1, 1, 1, 1, 1, 1, 1, 0, 1, 0, 0, 1, 0, 0, 1, 0, 0]) (f := (selvageref14_Homes.l6 a_1 a_3 o_49 s_80)) (St := fun s_87 => ⟨[(0, .ro false 8 a_1.length (a_1.map api_Ins.c)), (2, .v (.int .i64 a_3)), (8, .sl 0 1 o_39.2 0 o_39.2), (9, .el 0 ((List.replicate 8 (0 : Int)).length) 0 0), (11, .v (.int .i64 s_25.2.2.2.1)), (12, .v (.int .i64 s_25.2.2.2.2)), (13, .v (.int .i64 v_35.D)), (19, .v (.int .i64 s_87.1)), (20, .v (.int .i64 s_80.2)), (21, .v (.int .i64 s_87.2))], [.arr false 76 1 ((List.replicate 8 (0 : Int)).length) (o_49.1.map (cI .i64)), .arr true 79 2 o_39.2 (o_39.1.map api_Home.c)], []⟩) (xo := (fun _ => (.exit 10) : Int → Ex)) (So := (fun o_88 => ⟨[(0, .ro false 8 a_1.length (a_1.map api_Ins.c)), (2, .v (.int .i64 a_3)), (8, .sl 0 1 o_39.2 0 o_39.2), (9, .el 0 ((List.replicate 8 (0 : Int)).length) 0 0), (11, .v (.int .i64 s_25.2.2.2.1)), (12, .v (.int .i64 s_25.2.2.2.2)), (13, .v (.int .i64 v_35.D)), (19, .v (.int .i64 o_88)), (20, .v (.int .i64 s_80.2))], [.arr false 76 1 ((List.replicate 8 (0 : Int)).length) (o_49.1.map (cI .i64)), .arr true 79 2 o_39.2 (o_39.1.map api_Home.c)], []⟩ : Int → ASt)) (by intro o; simp) (fun s_87 z H => by
          unfold selvageref14_Homes.l6 at H
          rcases ic H with ⟨h_91, H⟩ | ⟨h_91, H⟩
          ·obtain ⟨o_92, e_93, H⟩ := bdE H
           have j_94 : Runs Try.prog selvageref14_Homes.F.N 0 (sub_ selvageref14_Homes.F.c [1, 1, 1, 1, 1, 1, 1, 0, 1, 0, 0, 1, 0, 0, 1, 1, 1, 1, 1, 1, 1, 0, 1, 0, 0, 1, 0, 0, 1, 0, 0, 1, 0, 0, 0]) ⟨[(0, .ro false 8 a_1.length (a_1.map api_Ins.c)), (2, .v (.int .i64 a_3)), (8, .sl 0 1 o_39.2 0 o_39.2), (9, .el 0 ((List.replicate 8 (0 : Int)).length) 0 0), (11, .v (.int .i64 s_25.2.2.2.1)), (12, .v (.int .i64 s_25.2.2.2.2)), (13, .v (.int .i64 v_35.D)), (19, .v (.int .i64 s_87.1)), (20, .v (.int .i64 s_80.2)), (21, .v (.int .i64 s_87.2))], [.arr false 76 1 ((List.replicate 8 (0 : Int)).length) (o_49.1.map (cI .i64)), .arr true 79 2 o_39.2 (o_39.1.map api_Home.c)], []⟩ ((fun _ => .normal : Bool → Ex) o_92) ((fun o_92 => ⟨[(0, .ro false 8 a_1.length (a_1.map api_Ins.c)), (2, .v (.int .i64 a_3)), (8, .sl 0 1 o_39.2 0 o_39.2), (9, .el 0 ((List.replicate 8 (0 : Int)).length) 0 0), (11, .v (.int .i64 s_25.2.2.2.1)), (12, .v (.int .i64 s_25.2.2.2.2)), (13, .v (.int .i64 v_35.D)), (19, .v (.int .i64 s_87.1)), (20, .v (.int .i64 s_80.2)), (21, .v (.int .i64 s_87.2)), (149, .v (.bool o_92))], [.arr false 76 1 ((List.replicate 8 (0 : Int)).length) (o_49.1.map (cI .i64)), .arr true 79 2 o_39.2 (o_39.1.map api_Home.c)], []⟩ : Bool → ASt) o_92) := by
            clear H
            have H := e_93
            clear e_93
            obtain ⟨g_95, H⟩ := gdE H
            let v_96 : api_Ins := gi a_1 s_80.2
            replace H := ltD H
            obtain ⟨r_97, e_98, H⟩ := bdE H
            rcases ie H with ⟨h_99, H⟩ | ⟨h_99, H⟩
            ·let v_100 : api_Ins := gi a_1 s_80.2
             replace H := ltD H
             obtain ⟨g_101, H⟩ := gdE H
             obtain ⟨g_102, H⟩ := gdE H
             let v_103 : Int := gi o_49.1 s_87.2
             replace H := ltD H
             rcases ic H with ⟨h_104, H⟩ | ⟨h_104, H⟩
             ·rcases ic H with ⟨h_105, H⟩ | ⟨h_105, H⟩
              ·obtain rfl := sj H
               exact fn [ix api_Ins.c g_95, ca [] (selvageref10_Has.ev e_98), br h_99, ix api_Ins.c g_95, pf g_101, el (cI .i64) g_102, pT, br h_104, br h_105, pT, pT] (by kernel_rfl)
              ·let v_106 : Int := gi o_49.1 s_87.2
               replace H := ltD H
               obtain ⟨r_107, e_108, H⟩ := bdE H
               obtain ⟨r_109, e_110, H⟩ := bdE H
               obtain ⟨g_111, H⟩ := gdE H
               obtain ⟨g_112, H⟩ := gdE H
               let v_113 : Int := gi o_49.1 s_87.1
               replace H := ltD H
               obtain ⟨r_114, e_115, H⟩ := bdE H
               obtain ⟨r_116, e_117, H⟩ := bdE H
               obtain rfl := sj H
               exact fn [ix api_Ins.c g_95, ca [] (selvageref10_Has.ev e_98), br h_99, ix api_Ins.c g_95, pf g_101, el (cI .i64) g_102, pT, br h_104, br h_105, pf g_101, el (cI .i64) g_102, ca [] (selvageref14_weightOf.ev e_108), ca [] (selvageref03_Rank.ev e_110), pf g_111, el (cI .i64) g_112, ca [] (selvageref14_weightOf.ev e_115), ca [] (selvageref03_Rank.ev e_117), pF, pT] (by kernel_rfl)
             ·obtain rfl := sj H
              exact fn [ix api_Ins.c g_95, ca [] (selvageref10_Has.ev e_98), br h_99, ix api_Ins.c g_95, pf g_101, el (cI .i64) g_102, pT, br h_104, pF] (by kernel_rfl)
            ·obtain rfl := sj H
             exact fn [ix api_Ins.c g_95, ca [] (selvageref10_Has.ev e_98), br h_99, pF, au, pF] (by kernel_rfl)
           rcases ie H with ⟨h_118, H⟩ | ⟨h_118, H⟩
           ·let v_119 : Int := wr .i64 (s_87.2 + 1)
            replace H := ltD H
            obtain rfl := sj H
            exact fn [br h_91, sg_ 39 j_94, br h_118] (by kernel_rfl)
           ·let v_120 : Int := wr .i64 (s_87.2 + 1)
            replace H := ltD H
            obtain rfl := sj H
            exact fn [br h_91, sg_ 39 j_94, br h_118] (by kernel_rfl)
          ·obtain rfl := sj H
           exact fn [br h_91] (by kernel_rfl)) e_89
         let v_121 : Int := wr .i64 (s_80.2 + 1)
         replace H := ltD H
         obtain rfl := sj H
         exact fn [br h_84, su j_90] (by kernel_rfl)
        ·obtain rfl := sj H
         exact fn [br h_84] (by kernel_rfl)) e_82
       let v_122 : Int := wr .i64 (s_25.2.2.2.1 + 1)
       replace H := ltD H
       obtain ⟨r_123, e_124, H⟩ := bdE H
       obtain ⟨r_125, e_126, H⟩ := bdE H
       obtain ⟨g_127, H⟩ := gdE H
       obtain ⟨g_128, H⟩ := gdE H
       let v_129 : Int := gi o_49.1 o_81
       replace H := ltD H
       obtain ⟨r_130, e_131, H⟩ := bdE H
       obtain ⟨r_132, e_133, H⟩ := bdE H
       rcases ic H with ⟨h_134, H⟩ | ⟨h_134, H⟩
       ·obtain ⟨g_135, H⟩ := gdE H
        obtain ⟨g_136, H⟩ := gdE H
        let v_137 : List api_Home := o_39.1.set v_35.D.toNat (api_Home.mk (-1) s_25.2.2.2.1)
        replace H := ltD H
        let v_138 : Int := wr .i64 (s_25.2.2.2.2 + 1)
        replace H := ltD H
        obtain rfl := sj H
        exact fn [br h_29, ix api_Ins.c g_30, ca [] (selvageref10_Has.ev e_33), bn h_34, ix api_Ins.c g_30, su j_41, su j_51, br h_70, su j_83, ca [] (selvageref14_weightOf.ev e_124), ca [] (selvageref03_Rank.ev e_126), pf g_127, el (cI .i64) g_128, ca [] (selvageref14_weightOf.ev e_131), ca [] (selvageref03_Rank.ev e_133), br h_134, pf g_135, up api_Home.c 0 [.v (.int .i64 (-1)), .v (.int .i64 s_25.2.2.2.1)] (api_Home.mk (-1) s_25.2.2.2.1) g_136 (by kernel_rfl)] (by kernel_rfl)
       ·let v_139 : Int := gi o_49.1 o_81
        replace H := ltD H
        obtain ⟨g_140, H⟩ := gdE H
        obtain ⟨g_141, H⟩ := gdE H
        let v_142 : List api_Home := o_39.1.set v_139.toNat (api_Home.mk (-1) s_25.2.2.2.1)
        replace H := ltD H
        obtain ⟨g_143, H⟩ := gdE H
        obtain ⟨g_144, H⟩ := gdE H
        let v_145 : List api_Home := v_142.set v_35.D.toNat (api_Home.mk o_81 0)
        replace H := ltD H
        let v_146 : List Int := o_49.1.set o_81.toNat v_35.D
        replace H := ltD H
        let v_147 : Int := wr .i64 (s_25.2.2.2.2 + 1)
        replace H := ltD H
        obtain rfl := sj H
        exact fn [br h_29, ix api_Ins.c g_30, ca [] (selvageref10_Has.ev e_33), bn h_34, ix api_Ins.c g_30, su j_41, su j_51, br h_70, su j_83, ca [] (selvageref14_weightOf.ev e_124), ca [] (selvageref03_Rank.ev e_126), pf g_127, el (cI .i64) g_128, ca [] (selvageref14_weightOf.ev e_131), ca [] (selvageref03_Rank.ev e_133), br h_134, pf g_127, el (cI .i64) g_128, pf g_140, up api_Home.c 0 [.v (.int .i64 (-1)), .v (.int .i64 s_25.2.2.2.1)] (api_Home.mk (-1) s_25.2.2.2.1) g_141 (by kernel_rfl), pf g_143, up api_Home.c 0 [.v (.int .i64 o_81), .v (.int .i64 0)] (api_Home.mk o_81 0) g_144 (by kernel_rfl), pf g_127, up (cI .i64) 0 [.v (.int .i64 v_35.D)] v_35.D g_128 (by kernel_rfl)] (by kernel_rfl)
     ·let v_148 : Int := wr .i64 (s_25.2.2.2.2 + 1)
      replace H := ltD H
      obtain rfl := sj H
      exact fn [br h_29, ix api_Ins.c g_30, ca [] (selvageref10_Has.ev e_33), bn h_34] (by kernel_rfl)
    ·obtain rfl := sj H
     exact fn [br h_29] (by kernel_rfl)) e_27
   obtain rfl := sj H
   exact selvageref14_Homes.F.run tb mixed [ca [] (selvageref10_Right.ev e_5), bn h_6, sg_ 3 j_9, br h_11, on_ 9 (na (cI .i64) (0 : Int) 8 1 rfl), su j_17, su j_28, adL 8 (some 79) 2] rfl (by kernel_rfl)
 ·obtain rfl := sj H
  exact selvageref14_Homes.F.run tb mixed [ca [] (selvageref10_Right.ev e_5), bn h_6] rfl (by kernel_rfl)
noncomputable def selvageref10_Same.F : FI Try.prog 12 := ⟨Try.f12, 26, (Try.f12.body.getD .skip), Try.f12.results.toList, Try.call12, Try.func12, by kernel_rfl, by kernel_rfl, by kernel_rfl⟩
def selvageref10_Same.l1 (a_1 : List api_Ins) (a_2 : List api_Ins) (s_6 : Int) : Option (Int ⊕ (Unit ⊕ Unit)) :=
 if s_6 < (a_1.length : Int) then (if 0 ≤ s_6 ∧ s_6 < (a_1.length : Int) then (letC (gi a_1 s_6) fun v_14 => if 0 ≤ s_6 ∧ s_6 < (a_2.length : Int) then (letC (gi a_2 s_6) fun v_16 => if ((v_14.Op == v_16.Op) && ((v_14.D == v_16.D) && ((v_14.A == v_16.A) && ((v_14.B == v_16.B) && ((v_14.Loc == v_16.Loc) && ((v_14.Len == v_16.Len) && ((v_14.K == v_16.K) && ((v_14.To == v_16.To) && true)))))))) = true then (some (Sum.inl (wr .i64 (s_6 + 1)))) else (some (Sum.inr (Sum.inl ())))) else none) else none) else (some (Sum.inr (Sum.inr (()))))
def selvageref10_Same.m (a_1 : List api_Ins) (a_2 : List api_Ins) : Option (Bool) :=
 if (a_1.length : Int) = (a_2.length : Int) then ((B.loop (selvageref10_Same.l1 a_1 a_2) (0 : Int)).bind fun o_7 => match o_7 with | Sum.inl s_10 => (some false) | Sum.inr (s_11) => (some true)) else (some false)
noncomputable def selvageref10_Same.o (a_1 : List api_Ins) (a_2 : List api_Ins) (r : Bool) : Out := .ret (.v (.bool r)) [] []
theorem selvageref10_Same.ev {a_1 : List api_Ins} {a_2 : List api_Ins} {r : Bool} (H : selvageref10_Same.m a_1 a_2 = some r) : Ev Try.prog 12 [.ro false 8 a_1.length (a_1.map api_Ins.c), .ro false 8 a_2.length (a_2.map api_Ins.c)] [] [] (selvageref10_Same.o a_1 a_2 r) := by
 unfold selvageref10_Same.m at H
 rcases ic H with ⟨h_3, H⟩ | ⟨h_3, H⟩
 ·obtain ⟨o_7, e_8, H⟩ := bdE H
  have j_9 := Runs.loop (P := Try.prog) (N := selvageref10_Same.F.N) (m0 := 0) (c := sub_ selvageref10_Same.F.c [1, 1, 0, 1, 0, 0]) (f := (selvageref10_Same.l1 a_1 a_2)) (St := fun s_6 => ⟨[(0, .ro false 8 a_1.length (a_1.map api_Ins.c)), (1, .ro false 8 a_2.length (a_2.map api_Ins.c)), (5, .v (.int .i64 s_6))], [], []⟩) (xo := (fun o => match o with | Sum.inl _ => .ret | Sum.inr (_) => (.exit 0) : (Unit ⊕ Unit) → Ex)) (So := (fun o => match o with | Sum.inl s_10 => ⟨[(4, .v (.bool false))], [], []⟩ | Sum.inr (s_11) => ⟨[], [], []⟩ : (Unit ⊕ Unit) → ASt)) (by intro o; rcases o with _ | _ <;> simp) (fun s_6 z H => by
   unfold selvageref10_Same.l1 at H
   rcases ic H with ⟨h_12, H⟩ | ⟨h_12, H⟩
   ·obtain ⟨g_13, H⟩ := gdE H
    let v_14 : api_Ins := gi a_1 s_6
    replace H := ltD H
    obtain ⟨g_15, H⟩ := gdE H
    let v_16 : api_Ins := gi a_2 s_6
    replace H := ltD H
    rcases ie H with ⟨h_17, H⟩ | ⟨h_17, H⟩
    ·obtain rfl := sj H
     exact fn [br h_12, ix api_Ins.c g_13, ix api_Ins.c g_15, eqs (P := Try.prog) (xt := 62) ⟨by kernel_rfl, by kernel_rfl⟩, bn h_17] (by kernel_rfl)
    ·obtain rfl := sj H
     exact fn [br h_12, ix api_Ins.c g_13, ix api_Ins.c g_15, eqs (P := Try.prog) (xt := 62) ⟨by kernel_rfl, by kernel_rfl⟩, bn h_17] (by kernel_rfl)
   ·obtain rfl := sj H
    exact fn [br h_12] (by kernel_rfl)) e_8
  rcases o_7 with s_10 | s_11
  ·obtain rfl := sj H
   exact selvageref10_Same.F.run tb mixed [bn h_3, su j_9] rfl (by kernel_rfl)
  ·obtain rfl := sj H
   exact selvageref10_Same.F.run tb mixed [bn h_3, su j_9] rfl (by kernel_rfl)
 ·obtain rfl := sj H
  exact selvageref10_Same.F.run tb mixed [bn h_3] rfl (by kernel_rfl)
end Go.Proofs.Ytbhekpcimmaijaa
