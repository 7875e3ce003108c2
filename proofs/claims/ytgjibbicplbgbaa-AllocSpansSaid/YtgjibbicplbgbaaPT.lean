/- PT: several texts in one. -/
import Derived.Test.YtgjibbicplbgbaaPP
import Derived.Test.YtgjibbicplbgbaaQF
set_option linter.unusedVariables false
set_option linter.unusedSimpArgs false
set_option linter.unusedSectionVars false
namespace Go.Proofs.Ytgjibbicplbgbaa.W
open Go Go.RowKit Go.Proofs.Ytgjibbicplbgbaa Go.Proofs.Ytgjibbicplbgbaa.X
open Go.Proofs.Ytgjibbicplbgbaa.B (wr aget aset loop loop_in loop_out loop_tot)

/-- What a kind of piece uses. -/
def sh (op : Int) : tree_uses := (tree_shape.m op).1
def isOp (op : Int) : Bool := (tree_shape.m op).2
theorem has_a (op : Int) : selvageref10_Has.m op 97 = some (sh op).a := by
  unfold sh; rcases ops_c op with h | h
  · rcases h with rfl | rfl | rfl | rfl | rfl | rfl | rfl | rfl | rfl | rfl | rfl | rfl | rfl | rfl | rfl | rfl | rfl | rfl <;> exact OLe.to (selvageref10_Has.k_le _ _) (by kernel_rfl)
  · have e : selvageref10_letters.m op = ⟨#[]⟩ := by simp [selvageref10_letters.m, letC, h]
    have e2 : tree_shape.m op = (⟨false, false, false, false, false, false, false, false⟩, false) := by simp [tree_shape.m, letC, h]
    unfold selvageref10_Has.m
    rw [e, e2]
    simp only [letC]
    rw [loop_out (f := selvageref10_Has.l1 _ ⟨#[]⟩) (o := .inr ()) (by kernel_rfl)]
    rfl
theorem has_b (op : Int) : selvageref10_Has.m op 98 = some (sh op).b := by
  unfold sh; rcases ops_c op with h | h
  · rcases h with rfl | rfl | rfl | rfl | rfl | rfl | rfl | rfl | rfl | rfl | rfl | rfl | rfl | rfl | rfl | rfl | rfl | rfl <;> exact OLe.to (selvageref10_Has.k_le _ _) (by kernel_rfl)
  · have e : selvageref10_letters.m op = ⟨#[]⟩ := by simp [selvageref10_letters.m, letC, h]
    have e2 : tree_shape.m op = (⟨false, false, false, false, false, false, false, false⟩, false) := by simp [tree_shape.m, letC, h]
    unfold selvageref10_Has.m
    rw [e, e2]
    simp only [letC]
    rw [loop_out (f := selvageref10_Has.l1 _ ⟨#[]⟩) (o := .inr ()) (by kernel_rfl)]
    rfl
theorem has_d (op : Int) : selvageref10_Has.m op 100 = some (sh op).d := by
  unfold sh; rcases ops_c op with h | h
  · rcases h with rfl | rfl | rfl | rfl | rfl | rfl | rfl | rfl | rfl | rfl | rfl | rfl | rfl | rfl | rfl | rfl | rfl | rfl <;> exact OLe.to (selvageref10_Has.k_le _ _) (by kernel_rfl)
  · have e : selvageref10_letters.m op = ⟨#[]⟩ := by simp [selvageref10_letters.m, letC, h]
    have e2 : tree_shape.m op = (⟨false, false, false, false, false, false, false, false⟩, false) := by simp [tree_shape.m, letC, h]
    unfold selvageref10_Has.m
    rw [e, e2]
    simp only [letC]
    rw [loop_out (f := selvageref10_Has.l1 _ ⟨#[]⟩) (o := .inr ()) (by kernel_rfl)]
    rfl
theorem has_k (op : Int) : selvageref10_Has.m op 107 = some (sh op).k := by
  unfold sh; rcases ops_c op with h | h
  · rcases h with rfl | rfl | rfl | rfl | rfl | rfl | rfl | rfl | rfl | rfl | rfl | rfl | rfl | rfl | rfl | rfl | rfl | rfl <;> exact OLe.to (selvageref10_Has.k_le _ _) (by kernel_rfl)
  · have e : selvageref10_letters.m op = ⟨#[]⟩ := by simp [selvageref10_letters.m, letC, h]
    have e2 : tree_shape.m op = (⟨false, false, false, false, false, false, false, false⟩, false) := by simp [tree_shape.m, letC, h]
    unfold selvageref10_Has.m
    rw [e, e2]
    simp only [letC]
    rw [loop_out (f := selvageref10_Has.l1 _ ⟨#[]⟩) (o := .inr ()) (by kernel_rfl)]
    rfl
theorem has_t (op : Int) : selvageref10_Has.m op 116 = some (sh op).to_ := by
  unfold sh; rcases ops_c op with h | h
  · rcases h with rfl | rfl | rfl | rfl | rfl | rfl | rfl | rfl | rfl | rfl | rfl | rfl | rfl | rfl | rfl | rfl | rfl | rfl <;> exact OLe.to (selvageref10_Has.k_le _ _) (by kernel_rfl)
  · have e : selvageref10_letters.m op = ⟨#[]⟩ := by simp [selvageref10_letters.m, letC, h]
    have e2 : tree_shape.m op = (⟨false, false, false, false, false, false, false, false⟩, false) := by simp [tree_shape.m, letC, h]
    unfold selvageref10_Has.m
    rw [e, e2]
    simp only [letC]
    rw [loop_out (f := selvageref10_Has.l1 _ ⟨#[]⟩) (o := .inr ()) (by kernel_rfl)]
    rfl
theorem has_m (op : Int) : selvageref10_Has.m op 109 = some (sh op).atomic := by
  unfold sh; rcases ops_c op with h | h
  · rcases h with rfl | rfl | rfl | rfl | rfl | rfl | rfl | rfl | rfl | rfl | rfl | rfl | rfl | rfl | rfl | rfl | rfl | rfl <;> exact OLe.to (selvageref10_Has.k_le _ _) (by kernel_rfl)
  · have e : selvageref10_letters.m op = ⟨#[]⟩ := by simp [selvageref10_letters.m, letC, h]
    have e2 : tree_shape.m op = (⟨false, false, false, false, false, false, false, false⟩, false) := by simp [tree_shape.m, letC, h]
    unfold selvageref10_Has.m
    rw [e, e2]
    simp only [letC]
    rw [loop_out (f := selvageref10_Has.l1 _ ⟨#[]⟩) (o := .inr ()) (by kernel_rfl)]
    rfl
theorem has_r (op : Int) : selvageref10_Has.m op 114 = some (sh op).row := by
  unfold sh; rcases ops_c op with h | h
  · rcases h with rfl | rfl | rfl | rfl | rfl | rfl | rfl | rfl | rfl | rfl | rfl | rfl | rfl | rfl | rfl | rfl | rfl | rfl <;> exact OLe.to (selvageref10_Has.k_le _ _) (by kernel_rfl)
  · have e : selvageref10_letters.m op = ⟨#[]⟩ := by simp [selvageref10_letters.m, letC, h]
    have e2 : tree_shape.m op = (⟨false, false, false, false, false, false, false, false⟩, false) := by simp [tree_shape.m, letC, h]
    unfold selvageref10_Has.m
    rw [e, e2]
    simp only [letC]
    rw [loop_out (f := selvageref10_Has.l1 _ ⟨#[]⟩) (o := .inr ()) (by kernel_rfl)]
    rfl
theorem has_l (op : Int) : selvageref10_Has.m op 108 = some ((sh op).place && !(sh op).atomic && !(sh op).row) := by
  unfold sh; rcases ops_c op with h | h
  · rcases h with rfl | rfl | rfl | rfl | rfl | rfl | rfl | rfl | rfl | rfl | rfl | rfl | rfl | rfl | rfl | rfl | rfl | rfl <;> exact OLe.to (selvageref10_Has.k_le _ _) (by kernel_rfl)
  · have e : selvageref10_letters.m op = ⟨#[]⟩ := by simp [selvageref10_letters.m, letC, h]
    have e2 : tree_shape.m op = (⟨false, false, false, false, false, false, false, false⟩, false) := by simp [tree_shape.m, letC, h]
    unfold selvageref10_Has.m
    rw [e, e2]
    simp only [letC]
    rw [loop_out (f := selvageref10_Has.l1 _ ⟨#[]⟩) (o := .inr ()) (by kernel_rfl)]
    rfl
theorem sh_place (op : Int) : ((sh op).row = true → (sh op).place = true) ∧ ((sh op).atomic = true → (sh op).place = true) ∧ ((sh op).row = true → (sh op).atomic = false) := by
  unfold sh
  rcases ops_c op with h | h
  · rcases h with rfl | rfl | rfl | rfl | rfl | rfl | rfl | rfl | rfl | rfl | rfl | rfl | rfl | rfl | rfl | rfl | rfl | rfl <;> exact ⟨by decide, by decide, by decide⟩
  · have e2 : tree_shape.m op = (⟨false, false, false, false, false, false, false, false⟩, false) := by simp [tree_shape.m, letC, h]
    rw [e2]; exact ⟨by decide, by decide, by decide⟩
theorem letters_e (op : Int) : ((selvageref10_letters.m op).toList == (⟨#[]⟩ : ByteArray).toList) = !isOp op := by
  unfold isOp
  rcases ops_c op with h | h
  · rcases h with rfl | rfl | rfl | rfl | rfl | rfl | rfl | rfl | rfl | rfl | rfl | rfl | rfl | rfl | rfl | rfl | rfl | rfl <;> kernel_rfl
  · have e : selvageref10_letters.m op = ⟨#[]⟩ := by simp [selvageref10_letters.m, letC, h]
    have e2 : tree_shape.m op = (⟨false, false, false, false, false, false, false, false⟩, false) := by simp [tree_shape.m, letC, h]
    rw [e, e2]; simp
theorem mks_sh (x : api_Ins) : mks x = (sh x.Op).d := mks_shape x
theorem nds_sh (x : api_Ins) (t : Int) : nds x t = ((sh x.Op).a && decide (x.A = t) || (sh x.Op).b && decide (x.B = t)) := by
  unfold nds alloc_needs.m sh tree_shape.m letC
  generalize x.Op = op
  rcases ops_c op with h | h
  · rcases h with rfl | rfl | rfl | rfl | rfl | rfl | rfl | rfl | rfl | rfl | rfl | rfl | rfl | rfl | rfl | rfl | rfl | rfl <;> simp <;> by_cases h1 : x.A = t <;> simp [h1]
  · simp [h]
/-! ### a piece by itself -/
def TempP (u : Bool) (n : Int) : Prop := (u = true → 0 ≤ n ∧ n < 400) ∧ (u = false → n = 0)
theorem temp_iff (u : Bool) (n : Int) : tree_temp.m u n = true ↔ TempP u n := by
  unfold tree_temp.m TempP
  cases u
  · simp
  · by_cases h1 : n ≥ 0 <;> by_cases h2 : n < 400 <;> simp [h1, h2] <;> omega
theorem field_iff (u : Bool) (n : Int) : selvageref10_field.m u n = true ↔ TempP u n := by
  unfold selvageref10_field.m TempP
  cases u
  · simp
  · by_cases h1 : n ≥ 0 <;> simp [h1] <;> omega
def wid (u : tree_uses) (x : api_Ins) : Int := if u.row = true then x.Len else 1
def PlP (u : tree_uses) (x : api_Ins) (l : List api_Loc) : Prop :=
  (u.place = true → (u.row = false → x.Len = 0) ∧ 1 ≤ wid u x ∧ 0 ≤ x.Loc ∧ x.Loc + wid u x ≤ l.length ∧ ∀ k : Int, x.Loc ≤ k → k < x.Loc + wid u x → (gi l k).Atomic = u.atomic) ∧ (u.place = false → x.Loc = 0 ∧ x.Len = 0)
theorem gi_part {α : Type} [Inhabited α] {l : List α} {o n : Nat} {i : Int} (h0 : 0 ≤ i) (h1 : i < n) : gi ((l.drop o).take n) i = gi l (o + i) := by
  unfold gi
  rw [List.getD_eq_getElem?_getD, List.getD_eq_getElem?_getD, List.getElem?_take, if_pos (by omega), List.getElem?_drop]
  congr 2; omega
theorem places_iff (u : tree_uses) (x : api_Ins) (l : List api_Loc) (hl : l.length ≤ 16) : Tot (fun b => b = true ↔ PlP u x l) (tree_places.m u x l) := by
  unfold tree_places.m PlP
  refine .ite (fun hp => ?_) fun hp => .ite (fun h => .some ?_) fun h => .some ?_
  · refine .bind (R := fun o => match o with | .inl n => n = wid u x ∧ (u.row = false → x.Len = 0) | .inr _ => u.row = false ∧ x.Len ≠ 0) ?_ fun o ho => ?_
    · unfold wid
      exact .ite (fun h => .some ⟨by rw [if_pos h], fun e => by rw [h] at e; cases e⟩) fun h => .ite (fun h2 => .some ⟨by rw [if_neg h], fun _ => h2⟩) fun h2 => .some ⟨by simpa using h, h2⟩
    cases o with
    | inr o => exact .some (by simp only [hp]; simp; intro h; exact absurd (h ho.1) ho.2)
    | inl n =>
      obtain ⟨hn, hlen⟩ := ho
      rw [← hn]
      refine .bind (R := fun b => (b = false ↔ 1 ≤ n ∧ n ≤ l.length ∧ 0 ≤ x.Loc ∧ x.Loc + n ≤ l.length)) ?_ fun b hb => ?_
      · refine .ite (fun h1 => .some (by simp; omega)) fun h1 => .ite (fun h2 => .some (by simp; omega)) fun h2 => .ite (fun h3 => .some (by simp; omega)) fun h3 => .let fun v hv => ?_
        rw [wr64 (by omega)] at hv
        refine .some ?_
        rw [decide_eq_false_iff_not]; omega
      · refine .ite (fun h => .some ?_) fun h => ?_
        · simp only [hp]
          have : ¬ (1 ≤ n ∧ n ≤ l.length ∧ 0 ≤ x.Loc ∧ x.Loc + n ≤ l.length) := fun c => by have := hb.2 c; rw [h] at this; cases this
          simp; intro _ h1 h2 h3
          exact absurd ⟨h1, by omega, h2, h3⟩ this
        · obtain ⟨b1, b2, b3, b4⟩ := hb.1 (by simpa using h)
          rw [wr64 (by omega)]
          refine Tot.gd (by omega) ?_
          refine Tot.let fun v hv => ?_
          have hvl : v.length = n.toNat := by rw [hv]; simp; omega
          have hvi : ∀ i : Nat, i < n.toNat → gi v i = gi l (x.Loc + i) := fun i hi => by
            rw [hv, gi_part (by omega) (by omega)]; congr 1; omega
          refine .bind (R := fun o => (o = .inr () ↔ ∀ k : Int, x.Loc ≤ k → k < x.Loc + n → (gi l k).Atomic = u.atomic)) ?_ fun o ho => ?_
          · refine loop_T (f := tree_places.l1 u v) v.length (fun i s => s = (i : Int) ∧ ∀ j : Nat, j < i → (gi l (x.Loc + j)).Atomic = u.atomic) (fun i s hi hs => ?_) (fun s hs => ?_) ⟨rfl, fun j hj => by omega⟩
            · obtain ⟨rfl, hs⟩ := hs
              unfold tree_places.l1
              refine .tt (by omega) ?_
              refine Tot.gd (by omega) ?_
              refine Tot.let fun w hw => ?_
              rw [hvi i (by omega)] at hw
              refine .ite (fun he => .some ⟨by rw [wr64 (by omega)]; rfl, fun j hj => ?_⟩) fun he => .some ?_
              · by_cases e : j = i
                · subst e; rw [← hw]; simpa using he
                · exact hs j (by omega)
              · simp only [reduceCtorEq, false_iff]
                intro c
                have := c (x.Loc + i) (by omega) (by omega)
                rw [← hw] at this
                exact he (by simpa using this)
            · obtain ⟨rfl, hs⟩ := hs
              unfold tree_places.l1
              refine .ff (by omega) (.some ?_)
              simp only [true_iff]
              intro k h1 h2
              have := hs (k - x.Loc).toNat (by omega)
              rw [← this]; congr 1; congr 1; omega
          · have key : ∀ c : Prop, (c ↔ ∀ k : Int, x.Loc ≤ k → k < x.Loc + n → (gi l k).Atomic = u.atomic) → (c ↔ (u.place = true → (u.row = false → x.Len = 0) ∧ 1 ≤ n ∧ 0 ≤ x.Loc ∧ x.Loc + n ≤ l.length ∧ ∀ k : Int, x.Loc ≤ k → k < x.Loc + n → (gi l k).Atomic = u.atomic) ∧ (u.place = false → x.Loc = 0 ∧ x.Len = 0)) := fun c hc => by
              rw [hc]
              constructor
              · exact fun h => ⟨fun _ => ⟨hlen, b1, b3, b4, h⟩, fun e => by rw [hp] at e; cases e⟩
              · exact fun h => (h.1 hp).2.2.2.2
            cases o with
            | inl o => exact .some (key _ (by rw [← ho]; simp))
            | inr o => exact .some (key _ (by rw [← ho]; simp))
  · have hp : u.place = false := by simpa using hp
    simp [hp, h]
  · have hp : u.place = false := by simpa using hp
    simp [hp, h]
/-- A piece is right by itself. -/
structure PP (x : api_Ins) (i n : Int) (l : List api_Loc) : Prop where
  op : isOp x.Op = true
  d : TempP (sh x.Op).d x.D
  a : TempP (sh x.Op).a x.A
  b : TempP (sh x.Op).b x.B
  k : (sh x.Op).k = false → x.K = 0
  pl : PlP (sh x.Op) x l
  to1 : (sh x.Op).to_ = true → i + 1 < x.To ∧ x.To < n
  to0 : (sh x.Op).to_ = false → x.To = 0
theorem plain_iff (x : api_Ins) (i n : Int) (l : List api_Loc) (hi : 0 ≤ i ∧ i < n) (hn : n ≤ 400) (hl : l.length ≤ 16) : Tot (fun b => b = true ↔ PP x i n l) (selvageref10_plain.m x i n l) := by
  unfold selvageref10_plain.m
  refine .bind (R := fun b => b = false ↔ (isOp x.Op = true ∧ TempP (sh x.Op).d x.D ∧ TempP (sh x.Op).a x.A ∧ TempP (sh x.Op).b x.B ∧ ((sh x.Op).k = false → x.K = 0))) ?_ fun b1 hb1 => ?_
  · simp only [letC]
    rw [letters_e, has_d, has_a, has_b, has_k]
    simp only [Option.bind_some]
    refine .ite (fun h => .some ?_) fun h0 => .ite (fun h1 => .ite (fun h2 => .ite (fun h3 => .ite (fun h4 => .some ?_) fun h4 => .some ?_) fun h3 => .some ?_) fun h2 => .some ?_) fun h1 => .some ?_
    · simp at h; simp [h]
    · rw [field_iff] at h1 h2 h3; simp at h0; simp [h0, h1, h2, h3, h4]
    · rw [field_iff] at h1 h2 h3; simp at h0; simp [h0, h1, h2, h3, h4]
    · rw [field_iff] at h1 h2 h3; simp [h3]
    · rw [field_iff] at h1 h2; simp [h2]
    · rw [field_iff] at h1; simp [h1]
  refine .ite (fun h => .some ⟨fun e => (by cases e), fun p => ?_⟩) fun h => ?_
  · have := hb1.2 ⟨p.op, p.d, p.a, p.b, p.k⟩; rw [h] at this; cases this
  obtain ⟨q1, q2, q3, q4, q5⟩ := hb1.1 (by simpa using h)
  rw [has_t]
  simp only [Option.bind_some]
  refine .bind (R := fun o => o = .inr () ↔ (((sh x.Op).to_ = true → i + 1 < x.To ∧ x.To < n) ∧ ((sh x.Op).to_ = false → x.To = 0))) ?_ fun o ho => ?_
  · rw [wr64 (by omega), wr64 (by omega)]
    refine .ite (fun h1 => .ite (fun h2 => .some ?_) fun h2 => .ite (fun h3 => .some ?_) fun h3 => .some ?_) fun h1 => .ite (fun h2 => .some ?_) fun h2 => .some ?_
    · simp [h1]; omega
    · simp [h1]; omega
    · simp [h1]; omega
    · simp [h1, h2]
    · simp [h1, h2]
  cases o with
  | inl o => exact .some ⟨fun e => (by cases e), fun p => by have := ho.2 ⟨p.to1, p.to0⟩; cases this⟩
  | inr o =>
    obtain ⟨q6, q7⟩ := ho.1 rfl
    have fin : ∀ c : Prop, (c ↔ PlP (sh x.Op) x l) → (c ↔ PP x i n l) := fun c hc => by
      rw [hc]; exact ⟨fun h => ⟨q1, q2, q3, q4, q5, h, q6, q7⟩, fun h => h.pl⟩
    dsimp only
    rw [has_l, has_m, has_r]
    simp only [Option.bind_some]
    obtain ⟨s1, s2, s3⟩ := sh_place x.Op
    refine .mono (Q := fun b => b = true ↔ PlP (sh x.Op) x l) ?_ fun b hb => fin _ hb
    generalize sh x.Op = u at *
    unfold PlP
    refine .bind (R := fun b => b = false ↔ ((u.row = true → 1 ≤ x.Len ∧ x.Len ≤ 16) ∧ (u.row = false → x.Len = 0))) ?_ fun b hb => ?_
    · refine .ite (fun h1 => .ite (fun h2 => .some ?_) fun h2 => .some ?_) fun h1 => .ite (fun h2 => .some ?_) fun h2 => .some ?_
      · simp [h1]; omega
      · rw [decide_eq_false_iff_not]; simp [h1]; omega
      · simp [h1, h2]
      · simp [h1, h2]
    have hw0 : u.row = false → wid u x = 1 := fun h => by unfold wid; rw [h]; simp
    have hw1 : u.row = true → wid u x = x.Len := fun h => by unfold wid; rw [if_pos h]
    refine .ite (fun h => .some ⟨fun e => (by cases e), fun p => ?_⟩) fun h => ?_
    · have : b = false := hb.2 (by
        cases hr : u.row
        · refine ⟨fun e => (by cases e), fun _ => ?_⟩
          cases hp : u.place
          · exact (p.2 hp).2
          · exact (p.1 hp).1 hr
        · refine ⟨fun _ => ?_, fun e => (by cases e)⟩
          have := p.1 (s1 hr)
          rw [hw1 hr] at this
          omega)
      rw [h] at this; cases this
    obtain ⟨r1, r2⟩ := hb.1 (by simpa using h)
    refine .bind (R := fun b => b = true ↔ u.place = false) ?_ fun b hb => ?_
    · refine .ite (fun h1 => .some ?_) fun h1 => .ite (fun h2 => .some ?_) fun h2 => .some ?_
      · simp only [Bool.and_eq_true] at h1; simp [h1.1.1]
      · simp [s2 h2]
      · cases hr : u.row
        · cases hp : u.place
          · simp
          · exfalso; apply h1; simp [hp, hr]; simpa using h2
        · simp [s1 hr]
    refine .ite (fun h => .some ?_) fun h => ?_
    · have hp := hb.1 h
      have hr : u.row = false := by
        cases hr : u.row
        · rfl
        · have := s1 hr; rw [hp] at this; cases this
      simp [hp, r2 hr]
    · have hp : u.place = true := by
        cases hp : u.place
        · exact absurd (hb.2 hp) h
        · rfl
      have hwid : 1 ≤ wid u x ∧ wid u x ≤ 16 := by
        cases hr : u.row
        · rw [hw0 hr]; omega
        · rw [hw1 hr]; exact r1 hr
      refine .bind (R := fun b => b = false ↔ (0 ≤ x.Loc ∧ x.Loc < l.length)) (.ite (fun h1 => .some (by simp; omega)) fun h1 => .some (by rw [decide_eq_false_iff_not]; omega)) fun b hb => ?_
      refine .ite (fun h => .some ⟨fun e => (by cases e), fun p => ?_⟩) fun h => ?_
      · have := p.1 hp
        have : b = false := hb.2 ⟨by omega, by omega⟩
        rw [h] at this; cases this
      obtain ⟨l1, l2⟩ := hb.1 (by simpa using h)
      refine .bind (R := fun o => o = x.Loc + wid u x - 1) ?_ fun o ho => ?_
      · refine .ite (fun hr => ?_) fun hr => .some (by rw [hw0 (by simpa using hr)]; omega)
        simp only [letC]
        rw [hw1 hr] at hwid ⊢
        rw [wr64 (x := x.Loc + x.Len) (by omega), wr64 (by omega)]
        exact .some rfl
      subst ho
      have main : Tot (fun o => (o = .inr () ↔ (x.Loc + wid u x ≤ l.length ∧ ∀ k : Int, x.Loc ≤ k → k < x.Loc + wid u x → (gi l k).Atomic = u.atomic))) (loop (selvageref10_plain.l1 l u.atomic (x.Loc + wid u x - 1)) x.Loc) := by
        refine loop_T (wid u x).toNat (fun i s => s = x.Loc + i ∧ (0 < i → x.Loc + i ≤ l.length) ∧ ∀ k : Int, x.Loc ≤ k → k < x.Loc + i → (gi l k).Atomic = u.atomic) (fun i s hi hs => ?_) (fun s hs => ?_) ⟨by omega, fun h => by omega, fun k _ _ => by omega⟩
        · obtain ⟨rfl, hb0, hs⟩ := hs
          unfold selvageref10_plain.l1
          refine .tt (by omega) (.ite (fun hge => .some ?_) fun hge => ?_)
          · simp only [reduceCtorEq, false_iff]; intro c; omega
          refine Tot.gd (by omega) ?_
          refine Tot.let fun w hw => ?_
          refine .ite (fun he => .some ⟨by rw [wr64 (by omega)]; omega, fun _ => by omega, fun k k0 k1 => ?_⟩) fun he => .some ?_
          · by_cases e : k = x.Loc + i
            · rw [e, ← hw]; simpa using he
            · exact hs k k0 (by omega)
          · simp only [reduceCtorEq, false_iff]
            intro c
            have := c.2 (x.Loc + i) (by omega) (by omega)
            rw [← hw] at this
            exact he (by simpa using this)
        · obtain ⟨rfl, hb0, hs⟩ := hs
          unfold selvageref10_plain.l1
          refine .ff (by omega) (.some ?_)
          simp only [true_iff]
          exact ⟨by have := hb0 (by omega); omega, fun k k0 k1 => hs k k0 (by omega)⟩
      refine .bind main fun o ho => ?_
      have key : ∀ c : Prop, (c ↔ (x.Loc + wid u x ≤ l.length ∧ ∀ k : Int, x.Loc ≤ k → k < x.Loc + wid u x → (gi l k).Atomic = u.atomic)) → (c ↔ (u.place = true → (u.row = false → x.Len = 0) ∧ 1 ≤ wid u x ∧ 0 ≤ x.Loc ∧ x.Loc + wid u x ≤ l.length ∧ ∀ k : Int, x.Loc ≤ k → k < x.Loc + wid u x → (gi l k).Atomic = u.atomic) ∧ (u.place = false → x.Loc = 0 ∧ x.Len = 0)) := fun c hc => by
        rw [hc]
        constructor
        · exact fun h => ⟨fun _ => ⟨r2, hwid.1, l1, h.1, h.2⟩, fun e => by rw [hp] at e; cases e⟩
        · exact fun h => ⟨(h.1 hp).2.2.2.1, (h.1 hp).2.2.2.2⟩
      cases o with
      | inl o => exact .some (key _ (by rw [← ho]; simp))
      | inr o => exact .some (key _ (by rw [← ho]; simp))
end Go.Proofs.Ytgjibbicplbgbaa.W
namespace Go.Proofs.Ytgjibbicplbgbaa.W
open Go Go.RowKit Go.Proofs.Ytgjibbicplbgbaa Go.Proofs.Ytgjibbicplbgbaa.X
open Go.Proofs.Ytgjibbicplbgbaa.B (wr aget aset loop loop_in loop_out loop_tot)

/-- From a piece one comes to another. -/
def isP (code : List api_Ins) (k j : Nat) : Bool := decide (k + 1 = j ∧ (gi code k).Op ≠ 18) || ((sh (gi code k).Op).to_ && decide ((gi code k).To = (j : Int)))
def preds (code : List api_Ins) (i : Nat) : List Nat := (List.range i).filter fun k => isP code k i
inductive Anc (code : List api_Ins) : Nat → Nat → Prop
  | one {i k : Nat} (h : preds code i = [k]) : Anc code i k
  | step {i j k : Nat} (h : preds code i = [j]) (r : Anc code j k) : Anc code i k
theorem preds_lt {code : List api_Ins} {i k : Nat} {r : List Nat} (h : preds code i = k :: r) : k < i := by
  have : k ∈ preds code i := by rw [h]; simp
  exact List.mem_range.1 (List.mem_filter.1 this).1
theorem Anc.lt {code : List api_Ins} {i k : Nat} (h : Anc code i k) : k < i := by
  induction h with
  | one h => exact preds_lt h
  | step h _ ih => have := preds_lt h; omega
theorem Anc.iff {code : List api_Ins} {i p : Nat} (h : preds code i = [p]) (k : Nat) : Anc code i k ↔ p = k ∨ Anc code p k := by
  constructor
  · intro c
    cases c with
    | one h' => rw [h] at h'; exact .inl (by simpa using h')
    | @step _ j _ h' r =>
      rw [h] at h'
      have e : p = j := by simpa using h'
      subst e
      exact .inr r
  · rintro (rfl | c)
    · exact .one h
    · exact .step h c
/-- A temp is made on the way to a piece. -/
def UA (code : List api_Ins) (i : Nat) (t : Int) : Prop := ∃ k, Anc code i k ∧ mks (gi code k) = true ∧ (gi code k).D = t
theorem UA.iff {code : List api_Ins} {i p : Nat} (h : preds code i = [p]) (t : Int) : UA code i t ↔ (mks (gi code p) = true ∧ (gi code p).D = t) ∨ UA code p t := by
  unfold UA
  constructor
  · rintro ⟨k, hk, h1, h2⟩
    rcases (Anc.iff h k).1 hk with rfl | c
    · exact .inl ⟨h1, h2⟩
    · exact .inr ⟨k, c, h1, h2⟩
  · rintro (⟨h1, h2⟩ | ⟨k, hk, h1, h2⟩)
    · exact ⟨p, .one h, h1, h2⟩
    · exact ⟨k, .step h hk, h1, h2⟩
theorem UA.zero (code : List api_Ins) (t : Int) : ¬ UA code 0 t := by
  rintro ⟨k, hk, _⟩
  have := hk.lt
  omega
/-- Each piece by itself, and no temp twice. -/
def AP (code : List api_Ins) (l : List api_Loc) (i : Nat) : Prop := PP (gi code i) i code.length l ∧ (mks (gi code i) = true → ∀ j : Nat, j < i → mks (gi code j) = true → (gi code j).D ≠ (gi code i).D)
/-- One way to a piece, on which is made what it uses. -/
def AW (code : List api_Ins) (i : Nat) : Prop := (0 < i → (preds code i).length = 1) ∧ ((sh (gi code i).Op).a = true → UA code i (gi code i).A) ∧ ((sh (gi code i).Op).b = true → UA code i (gi code i).B)
structure RP (code : List api_Ins) (l : List api_Loc) : Prop where
  n : 1 ≤ code.length ∧ code.length ≤ 400
  z : (gi code (code.length - 1)).Op = 18
  p : ∀ i : Nat, i < code.length → AP code l i
  w : ∀ i : Nat, i < code.length → AW code i
theorem RP.good {code : List api_Ins} {l : List api_Loc} (h : RP code l) : Good code code.length := fun i hi hm => by
  have := (h.p i hi).1.d.1 (by rw [← mks_sh]; exact hm)
  exact ⟨this.1, this.2, (h.p i hi).2 hm⟩
theorem before_eq (code : List api_Ins) (i : Nat) (hi : i ≤ code.length) (hn : code.length ≤ 400) : selvageref10_Before.m code i = some ((preds code i).map fun k : Nat => (k : Int)) := by
  unfold selvageref10_Before.m
  have := loop_st (f := selvageref10_Before.l1 code i) i (fun k => (((List.range k).filter fun k => isP code k i).map fun k : Nat => (k : Int), (k : Int))) ((preds code i).map fun k : Nat => (k : Int)) (fun k hk => ?_) ?_
  · rw [show ((([] : List Int), 0) : (List Int) × Int) = ((((List.range 0).filter fun k => isP code k i).map fun k : Nat => (k : Int)), ((0 : Nat) : Int)) from rfl, this]; rfl
  · unfold selvageref10_Before.l1
    dsimp only
    have hlen : (((List.range k).filter fun k => isP code k i).map fun k : Nat => (k : Int)).length ≤ k := by
      have := List.length_filter_le (fun k => isP code k i) (List.range k)
      simp at this ⊢; exact this
    rw [if_pos (by omega), Option.bind_some, if_pos (by simp; omega)]
    have g : 0 ≤ (k : Int) ∧ (k : Int) < (code.length : Int) := by omega
    have w1 : wr .i64 ((i : Int) - 1) = (i : Int) - 1 := wr64 (by omega)
    have w2 : wr .i64 ((k : Int) + 1) = (k : Int) + 1 := wr64 (by omega)
    simp only [letC, has_t, Option.bind_some, if_pos g, w1, w2]
    have e : (if (k : Int) = (i : Int) - 1 then (if (gi code (k : Int)).Op = 18 then (if (sh (gi code (k : Int)).Op).to_ = true then some (decide ((gi code (k : Int)).To = (i : Int))) else some false) else some true) else (if (sh (gi code (k : Int)).Op).to_ = true then some (decide ((gi code (k : Int)).To = (i : Int))) else some false)) = some (isP code k i) := by
      unfold isP
      by_cases h1 : (k : Int) = (i : Int) - 1
      · have h1' : k + 1 = i := by omega
        rw [if_pos h1]
        generalize gi code (k : Int) = x
        by_cases h2 : x.Op = 18
        · rw [if_pos h2]
          cases h3 : (sh x.Op).to_ <;> simp [h2]
        · simp [h1', h2]
      · have h1' : ¬ k + 1 = i := by omega
        rw [if_neg h1]
        generalize gi code (k : Int) = x
        cases h3 : (sh x.Op).to_ <;> simp [h1']
    rw [e, Option.bind_some, List.range_succ, List.filter_append]
    by_cases hp : isP code k i = true
    · rw [if_pos hp, if_pos (by simp at hlen ⊢; omega), List.filter_cons_of_pos (p := fun k => isP code k i) hp]; simp
    · rw [if_neg hp, List.filter_cons_of_neg (p := fun k => isP code k i) hp]; simp
  · unfold selvageref10_Before.l1
    dsimp only
    have e : (if (i : Int) < (code.length : Int) then (some ((decide ((i : Int) < (i : Int))) : Bool)) else (some (false : Bool))) = some false := by
      split
      · simp
      · rfl
    rw [e, Option.bind_some, if_neg (by simp)]
    rfl
theorem last_T (code : List api_Ins) (h : code.length ≤ 400) : Tot (fun b => b = false ↔ (1 ≤ code.length ∧ code.length ≤ 400 ∧ (gi code (code.length - 1)).Op = 18)) (if (code.length : Int) < (1 : Int) then (some (true : Bool)) else (if (code.length : Int) > (400 : Int) then (some (true : Bool)) else (letC (wr .i64 ((code.length : Int) - (1 : Int))) fun v_8 => if 0 ≤ v_8 ∧ v_8 < (code.length : Int) then (letC (gi code v_8) fun v_10 => some ((!(decide (v_10.Op = (18 : Int)))) : Bool)) else none)) : Option Bool) := by
  refine .ite (fun h1 => .some (by simp; omega)) fun h1 => .ite (fun h2 => .some (by simp; omega)) fun h2 => ?_
  refine Tot.let fun v hv => ?_
  rw [wr64 (by omega)] at hv
  refine Tot.gd (by omega) ?_
  refine Tot.let fun w hw => ?_
  refine .some ?_
  subst hv hw
  have : 1 ≤ code.length := by omega
  simp [this, h]
theorem l4_eq {code : List api_Ins} {i : Nat} (hn : code.length ≤ 400) (hi : i < code.length) : ∀ k : Nat, k ≤ i → (∀ j : Nat, 0 < j → j ≤ k → (preds code j).length = 1) → ∀ a b : Bool,
    Tot (fun o => (o.1 = true ↔ (a = true ∨ UA code k (gi code i).A)) ∧ (o.2 = true ↔ (b = true ∨ UA code k (gi code i).B))) (loop (selvageref10_Right.l4 code i) ((a, b, (k : Int)) : Bool × Bool × Int)) := by
  intro k
  induction k using Nat.strongRecOn with
  | ind k ih =>
    intro hk hw a b
    rcases Nat.eq_zero_or_pos k with h0 | h0
    · subst h0
      rw [loop_out (o := (a, b)) (by unfold selvageref10_Right.l4; dsimp only; rw [if_neg (by omega)])]
      exact .some ⟨by simp [UA.zero], by simp [UA.zero]⟩
    · obtain ⟨p, hp⟩ : ∃ p, preds code k = [p] := by
        have := hw k h0 (Nat.le_refl _)
        match preds code k, this with
        | [p], _ => exact ⟨p, rfl⟩
      have hpk := preds_lt hp
      have hf : selvageref10_Right.l4 code i (a, b, (k : Int)) = some (.inl (if mks (gi code p) = true then a || decide ((gi code p).D = (gi code i).A) else a, if mks (gi code p) = true then b || decide ((gi code p).D = (gi code i).B) else b, (p : Int))) := by
        unfold selvageref10_Right.l4
        dsimp only
        rw [if_pos (by omega), before_eq code k (by omega) hn, Option.bind_some, hp, if_pos (by simp)]
        simp only [letC]
        rw [show gi (List.map (fun k : Nat => (k : Int)) [p]) 0 = (p : Int) from rfl, if_pos (by omega), has_d, Option.bind_some, ← mks_sh]
        by_cases hm : mks (gi code p) = true
        · have g : 0 ≤ (i : Int) ∧ (i : Int) < (code.length : Int) := by omega
          rw [if_pos hm, if_pos hm, if_pos hm]
          simp only [if_pos g]
          cases a <;> cases b <;> simp
        · rw [if_neg hm, if_neg hm, if_neg hm]
      rw [loop_in hf]
      refine (ih p hpk (by omega) (fun j j0 j1 => hw j j0 (by omega)) _ _).mono fun o ho => ?_
      rw [ho.1, ho.2, UA.iff hp, UA.iff hp]
      by_cases hm : mks (gi code p) = true
      · simp only [hm, if_true, Bool.or_eq_true, decide_eq_true_eq, true_and]
        exact ⟨by rw [or_assoc], by rw [or_assoc]⟩
      · simp [hm]
theorem ref_right (code : List api_Ins) (l : List api_Loc) (hn : code.length ≤ 400) (hl : l.length ≤ 16) : Tot (fun b => b = true ↔ RP code l) (selvageref10_Right.m code l) := by
  unfold selvageref10_Right.m
  refine .bind (last_T code hn) fun b hb => .ite (fun h => .some ⟨fun e => (by cases e), fun p => ?_⟩) fun h => ?_
  · have := hb.2 ⟨p.n.1, p.n.2, p.z⟩; rw [h] at this; cases this
  obtain ⟨n1, n4, hz⟩ := hb.1 (by simpa using h)
  refine .bind (R := fun o => o = .inr () ↔ ∀ i : Nat, i < code.length → AP code l i) ?_ fun o ho => ?_
  · refine loop_T code.length (fun i s => s = (i : Int) ∧ ∀ j : Nat, j < i → AP code l j) (fun i s hi hs => ?_) (fun s hs => ?_) ⟨rfl, fun j hj => by omega⟩
    · obtain ⟨rfl, hs⟩ := hs
      unfold selvageref10_Right.l1
      refine .tt (by omega) ?_
      refine Tot.gd (by omega) ?_
      refine Tot.let fun x hx => ?_
      subst hx
      refine .bind (plain_iff _ _ _ l ⟨by omega, by omega⟩ (by omega) hl) fun b hb => .ite (fun h => ?_) fun h => .some ?_
      · refine .bind (R := fun o => o = .inr () ↔ (mks (gi code i) = true → ∀ j : Nat, j < i → mks (gi code j) = true → (gi code j).D ≠ (gi code i).D)) ?_ fun o ho => ?_
        · refine loop_T i (fun j s => s = (j : Int) ∧ (mks (gi code i) = true → ∀ k : Nat, k < j → mks (gi code k) = true → (gi code k).D ≠ (gi code i).D)) (fun j s hj hs => ?_) (fun s hs => ?_) ⟨rfl, fun _ k hk => by omega⟩
          · obtain ⟨rfl, hs⟩ := hs
            unfold selvageref10_Right.l2
            refine .tt (by omega) ?_
            refine .bind (R := fun b => b = false ↔ (mks (gi code i) = true → mks (gi code j) = true → (gi code j).D ≠ (gi code i).D)) ?_ fun b hb => ?_
            · refine Tot.gd (by omega) ?_
              simp only [letC]
              rw [has_d, has_d, ← mks_sh, ← mks_sh]
              simp only [Option.bind_some]
              refine .ite (fun h1 => ?_) fun h1 => .some (by simp [h1])
              refine Tot.gd (by omega) ?_
              refine .ite (fun h2 => .some ?_) fun h2 => .some (by simp [h2])
              rw [decide_eq_false_iff_not]
              exact ⟨fun c _ _ e => c e.symm, fun c e => c h1 h2 e.symm⟩
            · refine .ite (fun h => .some ?_) fun h => .some ⟨by rw [wr64 (by omega)]; rfl, fun h1 k hk h2 => ?_⟩
              · simp only [reduceCtorEq, false_iff]
                intro c
                have := hb.2 fun h1 h2 => c h1 j hj h2
                rw [h] at this; cases this
              · by_cases e : k = j
                · subst e; exact hb.1 (by simpa using h) h1 h2
                · exact hs h1 k (by omega) h2
          · obtain ⟨rfl, hs⟩ := hs
            unfold selvageref10_Right.l2
            exact .ff (by omega) (.some (by simp only [true_iff]; exact hs))
        · cases o with
          | inl o =>
            refine .some ?_
            simp only [reduceCtorEq, false_iff]
            intro c
            have := ho.2 (c i hi).2
            cases this
          | inr o =>
            refine .some ⟨by rw [wr64 (by omega)]; rfl, fun j hj => ?_⟩
            by_cases e : j = i
            · subst e; exact ⟨hb.1 h, ho.1 rfl⟩
            · exact hs j (by omega)
      · simp only [reduceCtorEq, false_iff]
        intro c
        exact h (hb.2 (c i hi).1)
    · obtain ⟨rfl, hs⟩ := hs
      unfold selvageref10_Right.l1
      exact .ff (by omega) (.some (by simp only [true_iff]; exact hs))
  cases o with
  | inl o => exact .some ⟨fun e => (by cases e), fun p => by have := ho.2 p.p; cases this⟩
  | inr o =>
    have hap := ho.1 rfl
    dsimp only
    refine .bind (R := fun o => o = .inr () ↔ ∀ i : Nat, i < code.length → AW code i) ?_ fun o ho => ?_
    · refine loop_T code.length (fun i s => s = (i : Int) ∧ ∀ j : Nat, j < i → AW code j) (fun i s hi hs => ?_) (fun s hs => ?_) ⟨rfl, fun j hj => by omega⟩
      · obtain ⟨rfl, hs⟩ := hs
        unfold selvageref10_Right.l3
        refine .tt (by omega) ?_
        refine .bind (R := fun b => b = false ↔ (0 < i → (preds code i).length = 1)) ?_ fun b hb => ?_
        · refine .ite (fun h => ?_) fun h => .some ⟨fun _ c => by omega, fun _ => rfl⟩
          refine .bindE (before_eq code i (by omega) hn) (.some ?_)
          simp only [List.length_map, Bool.not_eq_false', decide_eq_true_eq]
          exact ⟨fun c _ => by omega, fun c => by have := c (by omega); omega⟩
        refine .ite (fun h => .some ?_) fun h => ?_
        · simp only [reduceCtorEq, false_iff]
          intro c
          have := hb.2 (c i hi).1
          rw [h] at this; cases this
        have h1 := hb.1 (by simpa using h)
        refine Tot.gd (by omega) ?_
        simp only [letC]
        rw [has_a, has_b]
        simp only [Option.bind_some]
        refine .bind (l4_eq hn hi i (Nat.le_refl _) (fun j j0 j1 => ?_) _ _) fun o ho => ?_
        · by_cases e : j = i
          · subst e; exact h1 j0
          · exact (hs j (by omega)).1 j0
        have hA : o.1 = true ↔ ((sh (gi code i).Op).a = true → UA code i (gi code i).A) := by
          rw [ho.1]; cases (sh (gi code (i : Int)).Op).a <;> simp
        have hB : o.2 = true ↔ ((sh (gi code i).Op).b = true → UA code i (gi code i).B) := by
          rw [ho.2]; cases (sh (gi code (i : Int)).Op).b <;> simp
        refine .ite (fun h2 => .ite (fun h3 => .some ⟨by rw [wr64 (by omega)]; rfl, fun j hj => ?_⟩) fun h3 => .some ?_) fun h2 => .some ?_
        · by_cases e : j = i
          · subst e; exact ⟨h1, hA.1 h2, hB.1 h3⟩
          · exact hs j (by omega)
        · simp only [reduceCtorEq, false_iff]
          intro c
          exact h3 (hB.2 (c i hi).2.2)
        · simp only [reduceCtorEq, false_iff]
          intro c
          exact h2 (hA.2 (c i hi).2.1)
      · obtain ⟨rfl, hs⟩ := hs
        unfold selvageref10_Right.l3
        exact .ff (by omega) (.some (by simp only [true_iff]; exact hs))
    cases o with
    | inl o => exact .some ⟨fun e => (by cases e), fun p => by have := ho.2 p.w; cases this⟩
    | inr o => exact .some ⟨fun _ => ⟨⟨n1, n4⟩, hz, hap, ho.1 rfl⟩, fun _ => rfl⟩
end Go.Proofs.Ytgjibbicplbgbaa.W
