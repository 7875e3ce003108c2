/- PB: several texts in one. -/
import Derived.Test.YtbdbmklkgjbehaaPA
import Derived.Test.YtbdbmklkgjbehaaQA
import Derived.Test.YtbdbmklkgjbehaaQB
set_option linter.unusedVariables false
set_option linter.unusedSimpArgs false
set_option linter.unusedSectionVars false
namespace Go.Proofs.Ytbdbmklkgjbehaa.W
open Go Go.RowKit Go.Proofs.Ytbdbmklkgjbehaa Go.Proofs.Ytbdbmklkgjbehaa.X
open Go.Proofs.Ytbdbmklkgjbehaa.B (wr aget aset loop loop_in loop_out loop_tot aget_aset)

def Alk (x y : api_Ins) : Prop := x.Op = y.Op ∧ x.D = y.D ∧ x.A = y.A ∧ x.B = y.B ∧ x.K = y.K
theorem lay_mem : ∀ (t : Tr) (o : Nat) (y : api_Ins), y ∈ layT o t → ∃ x ∈ t.ps, Alk y x
  | .nil, o, y, h => by simp [layT] at h
  | .node x nx sd, o, y, h => by
    simp only [layT, List.mem_cons, List.mem_append] at h
    simp only [Tr.ps, List.mem_cons, List.mem_append]
    rcases h with rfl | h | h
    · obtain ⟨t1, t2, t3, t4, t5, _⟩ := tgt_op x (o + 1 + nx.size) sd
      exact ⟨x, .inl rfl, t1, t2, t3, t4, t5⟩
    · obtain ⟨z, h1, h2⟩ := lay_mem nx _ y h; exact ⟨z, .inr (.inl h1), h2⟩
    · obtain ⟨z, h1, h2⟩ := lay_mem sd _ y h; exact ⟨z, .inr (.inr h1), h2⟩
theorem lay_mem2 : ∀ (t : Tr) (o : Nat) (x : api_Ins), x ∈ t.ps → ∃ y ∈ layT o t, Alk y x
  | .nil, o, x, h => by simp [Tr.ps] at h
  | .node z nx sd, o, x, h => by
    simp only [layT, List.mem_cons, List.mem_append]
    simp only [Tr.ps, List.mem_cons, List.mem_append] at h
    rcases h with rfl | h | h
    · obtain ⟨t1, t2, t3, t4, t5, _⟩ := tgt_op x (o + 1 + nx.size) sd
      exact ⟨_, .inl rfl, t1, t2, t3, t4, t5⟩
    · obtain ⟨y, h1, h2⟩ := lay_mem2 nx (o + 1) x h; exact ⟨y, .inr (.inl h1), h2⟩
    · obtain ⟨y, h1, h2⟩ := lay_mem2 sd (o + 1 + nx.size) x h; exact ⟨y, .inr (.inr h1), h2⟩
theorem gi_mem {α : Type} [Inhabited α] {l : List α} {i : Nat} (h : i < l.length) : gi l (i : Int) ∈ l := by
  rw [gi_get (List.getElem?_eq_getElem h)]; exact List.getElem_mem h
section
variable (O : List api_Ins) (a : Int) (hO : O.length ≤ 1000)
include hO
theorem maker_T : Tot (fun r => r.2 = true → r.1 ∈ O ∧ r.1.D = a ∧ mks r.1 = true) (selvagelaw12_maker.m O a) := by
  unfold selvagelaw12_maker.m
  refine .bind (R := fun o => match o with | .inl x => x ∈ O ∧ x.D = a ∧ mks x = true | .inr _ => True) ?_ fun o ho => ?_
  · refine loop_T (f := selvagelaw12_maker.l1 O a) O.length (fun i s => s.2 = (i : Int)) (fun i s hi hs => ?_) (fun s hs => ?_) rfl
    · obtain ⟨s1, s2⟩ := s
      have hs : s2 = (i : Int) := hs
      subst hs
      have hw : wr .i64 ((i : Int) + 1) = ((i + 1 : Nat) : Int) := wr64 (by omega)
      unfold selvagelaw12_maker.l1
      simp only [letC]
      refine .tt (by omega) (.gd (by omega) (.bindE (has_d _) (.ite (fun c => .ite (fun d => .some ?_) fun d => .some hw) fun c => .some hw)))
      exact ⟨gi_mem hi, d, by rw [mks_sh]; exact c⟩
    · obtain ⟨s1, s2⟩ := s
      have hs : s2 = (O.length : Int) := hs
      subst hs
      unfold selvagelaw12_maker.l1
      exact .ff (by simp) (.some trivial)
  · cases o with
    | inl x => exact .some fun _ => ho
    | inr x => exact .some fun e => by cases e
theorem known_T : Tot (fun r => r.2 = true → ∃ y ∈ O, y.Op = 1 ∧ y.D = a ∧ y.K = r.1) (selvagelaw12_known.m O a) := by
  unfold selvagelaw12_known.m
  refine .bind (maker_T O a hO) fun r hr => .ite (fun c => .some fun e => ?_) fun c => .some fun e => by cases e
  obtain ⟨h1, h2, h3⟩ := hr c
  exact ⟨r.1, h1, of_decide_eq_true e, h2, rfl⟩
theorem used_T : Tot (fun b => b = false → ∀ y ∈ O, a ∉ ust y) (selvagelaw12_used.m O a) := by
  unfold selvagelaw12_used.m
  refine .bind (R := fun o => match o with | .inl _ => True | .inr _ => ∀ y ∈ O, a ∉ ust y) ?_ fun o ho => ?_
  · refine loop_T (f := selvagelaw12_used.l1 O a) O.length (fun i s => s = (i : Int) ∧ ∀ j : Nat, j < i → a ∉ ust (gi O j)) (fun i s hi hs => ?_) (fun s hs => ?_) ⟨rfl, fun j hj => by omega⟩
    · obtain ⟨rfl, hs⟩ := hs
      have hw : wr .i64 ((i : Int) + 1) = ((i + 1 : Nat) : Int) := wr64 (by omega)
      unfold selvagelaw12_used.l1
      simp only [letC]
      refine .tt (by omega) (.bind (R := fun o => o = false → a ∉ ust (gi O (i : Int))) ?_ fun o ho => ?_)
      · refine .gd (by omega) (.bindE (has_a _) ?_)
        have hb : ∀ (_ : (sh (gi O (i : Int)).Op).a = true → (gi O (i : Int)).A ≠ a), Tot (fun o => o = false → a ∉ ust (gi O (i : Int))) (((selvageref10_Has.m (gi O (i : Int)).Op 98).bind fun r_23 => if r_23 = true then (some ((decide ((gi O (i : Int)).B = a)) : Bool)) else (some (false : Bool)))) := fun hA => by
          refine .bindE (has_b _) (.ite (fun d => .some fun e hm => ?_) fun d => .some fun e hm => ?_)
          · have e := of_decide_eq_false e
            unfold ust at hm
            rw [if_pos d] at hm
            rcases List.mem_append.1 hm with hm | hm
            · split at hm
              · rename_i h; exact hA h (List.mem_singleton.1 hm).symm
              · simp at hm
            · exact e (List.mem_singleton.1 hm).symm
          · unfold ust at hm
            rw [if_neg d, List.append_nil] at hm
            split at hm
            · rename_i h; exact hA h (List.mem_singleton.1 hm).symm
            · simp at hm
        exact .ite (fun c => .ite (fun d => .some fun e => by cases e) fun d => hb fun _ => d) fun c => hb fun h => absurd h c
      · refine .ite (fun c => .some trivial) fun c => .some ?_
        have ho := ho (by simpa using c)
        refine ⟨hw, fun j hj => ?_⟩
        by_cases e : j = i
        · rw [e]; exact ho
        · exact hs j (by omega)
    · obtain ⟨rfl, hs⟩ := hs
      unfold selvagelaw12_used.l1
      refine .ff (by simp) (.some fun y hy => ?_)
      obtain ⟨j, hj, rfl⟩ := List.getElem_of_mem hy
      have := hs j hj
      rw [gi_get (List.getElem?_eq_getElem hj)] at this
      exact this
  · cases o with
    | inl _ => exact .some fun e => by cases e
    | inr _ => exact .some fun _ => ho
end
theorem alk_ust {x y : api_Ins} (h : Alk y x) : ust y = ust x := by
  obtain ⟨h1, h2, h3, h4, h5⟩ := h
  unfold ust
  rw [h1, h3, h4]
theorem least_1 {l : List api_Loc} {N : Nat} {tc t : Tr} (hG : Gd l N tc t) (hS : LS t) (hN : N ≤ 400) {i : Nat} (hi : i < (layT 0 t).length) : selvagelaw12_FoldLeast.l1 (layT 0 t) (i : Int) = some (.inl ((i + 1 : Nat) : Int)) := by
  have hs := hG.sz
  have hlen := layT_len t 0
  suffices h : Tot (fun z => z = .inl ((i + 1 : Nat) : Int)) (selvagelaw12_FoldLeast.l1 (layT 0 t) (i : Int)) by
    obtain ⟨z, e, rfl⟩ := h; exact e
  have hw : wr .i64 ((i : Int) + 1) = ((i + 1 : Nat) : Int) := wr64 (by omega)
  obtain ⟨x, hx, hk⟩ := lay_mem t 0 _ (gi_mem hi)
  obtain ⟨k1, k2, k3, k4, k5⟩ := hk
  have hu := uq_of hG.nd
  have hgn := hG.gn x hx
  have hls := hS x hx
  unfold selvagelaw12_FoldLeast.l1
  refine .tt (by omega) (.gd (by omega) ?_)
  simp only [letC]
  rw [k1, k2, k3, k4, hw]
  have cof : ∀ (b : Int) (r : Int × Bool), (r.2 = true → ∃ y ∈ layT 0 t, y.Op = 1 ∧ y.D = b ∧ y.K = r.1) → r.2 = true → ∃ y ∈ t.ps, y.Op = 1 ∧ y.D = b ∧ y.K = r.1 := fun b r h e => by
    obtain ⟨y, y1, y2, y3, y4⟩ := h e
    obtain ⟨z, z1, z2, z3, z4, z5, z6⟩ := lay_mem t 0 y y1
    exact ⟨z, z1, by rw [← z2]; exact y2, by rw [← z3]; exact y3, by rw [← z6]; exact y4⟩
  have nou : ∀ b : Bool, (b = false → ∀ y ∈ layT 0 t, x.D ∉ ust y) → gz (usT t) x.D ≠ 0 → b = true := fun b h h0 => by
    cases b with
    | true => rfl
    | false =>
      refine absurd ((us_0 (by omega) x.D).2 fun hm => ?_) h0
      obtain ⟨z, z1, z2⟩ := oc_mem.1 hm
      obtain ⟨y, y1, y2⟩ := lay_mem2 t 0 z z1
      exact h rfl y y1 (by rw [alk_ust y2]; exact z2)
  refine .bind (known_T _ x.A (by omega)) fun ra hra => .bind (known_T _ x.B (by omega)) fun rb hrb => ?_
  have hra := cof _ _ hra
  have hrb := cof _ _ hrb
  have hcA : ra.2 = true → cons t x.A := fun e => by obtain ⟨y, y1, y2, y3, _⟩ := hra e; exact ⟨y, y1, y2, y3⟩
  have hcB : rb.2 = true → cons t x.B := fun e => by obtain ⟨y, y1, y2, y3, _⟩ := hrb e; exact ⟨y, y1, y2, y3⟩
  have hU := used_T (layT 0 t) x.D (by omega)
  refine .bind (R := fun o => o = decide (x.Op = 2 ∨ x.Op = 3 ∨ x.Op = 4)) (.ite (fun c => .some (by simp [c])) fun c => .ite (fun d => .some (by simp [d])) fun d => .some (by simp [c, d])) fun o ho => ?_
  subst ho
  refine .ite (fun c => ?_) fun c => .ite (fun d => ?_) fun d => .ite (fun e => ?_) fun e => ?_
  · have c := of_decide_eq_true c
    have hz : gz (usT t) x.D ≠ 0 := by
      unfold idl at hls
      rw [if_pos (by omega)] at hls
      exact of_decide_eq_false hls
    have hud : Tot (fun o => o = false) ((selvagelaw12_used.m (layT 0 t) x.D).bind fun r_41 => some ((!r_41) : Bool)) := .bind hU fun b hb => .some (by rw [nou b hb hz]; rfl)
    refine .bind (R := fun o => o = false) (.ite (fun h1 => .ite (fun h2 => ?_) fun h2 => hud) fun h1 => hud) fun o ho => ?_
    · exact absurd ⟨hcA h1, hcB h2⟩ (hgn.1 c)
    · subst ho; exact .ff (by decide) (.some rfl)
  · have hz : gz (usT t) x.D ≠ 0 := by
      unfold idl at hls
      rw [if_pos (by omega)] at hls
      exact of_decide_eq_false hls
    exact .bind hU fun b hb => .tt (nou b hb hz) (.some rfl)
  · refine .bind (R := fun o => o = false) (.ite (fun h2 => .ite (fun z => .some rfl) fun z => .ite (fun h1 => ?_) fun h1 => ?_) fun h2 => .some rfl) fun o ho => ?_
    · obtain ⟨y, y1, y2, y3, y4⟩ := hrb h2
      exact absurd (y4 ▸ hgn.2.1 e (hcA h1) y y1 y2 y3) z
    · obtain ⟨y, y1, y2, y3, y4⟩ := hrb h2
      have hz : gz (usT t) x.D ≠ 0 := by
        intro h0
        unfold idl at hls
        rw [if_neg (by omega), if_pos e, if_pos h0] at hls
        have hk := kn_of hu y1 y2
        rw [y3] at hk
        unfold gz at hls
        rw [hk] at hls
        simp [y4, z] at hls
      exact .bind hU fun b hb => .some (by rw [nou b hb hz]; rfl)
    · subst ho; exact .ff (by decide) (.some rfl)
  · refine .bind (R := fun o => o = decide (x.Op = 16 ∨ x.Op = 17)) (.ite (fun c => .some (by simp [c])) fun c => .some (by simp [c])) fun o ho => ?_
    subst ho
    refine .ite (fun f => ?_) fun f => .some rfl
    have f := of_decide_eq_true f
    have hne := (hgn.2.2 f).1
    refine .bind (R := fun o => o = false) (.ite (fun h1 => .ite (fun h2 => ?_) fun h2 => .some (decide_eq_false hne)) fun h1 => .some (decide_eq_false hne)) fun o ho => ?_
    · exact absurd ⟨hcA h1, hcB h2⟩ (hgn.2.2 f).2
    · subst ho; exact .ff (by decide) (.some rfl)
theorem pureFoldLeast (a : List api_Ins) (l : List api_Loc) {p q : Prop} (w0 : p) (w1 : q) : selvagelaw12_FoldLeast.m a l = some true := by
  suffices h : Tot (fun b => b = true) (selvagelaw12_FoldLeast.m a l) by
    obtain ⟨b, e, rfl⟩ := h; exact e
  unfold selvagelaw12_FoldLeast.m
  refine .bindE selvagelaw12_awake_eq (.tt rfl ?_)
  refine .bind (R := fun b => b = false → a.length ≤ 410 ∧ l.length ≤ 16) (.ite (fun h => .some fun e => by cases e) fun h => .some fun e => ?_) fun b hb => .ite (fun _ => .some rfl) fun hbf => ?_
  · have := of_decide_eq_false e
    exact ⟨by omega, by omega⟩
  obtain ⟨ha, hl⟩ := hb (by simpa using hbf)
  rcases fold_m (C := a) hl with ⟨hR, _, hf⟩ | ⟨hR, t, hf, hG, hS⟩
  · exact .bindE hf (.some rfl)
  · have hn := hR.n
    have := loop_st (f := selvagelaw12_FoldLeast.l1 (layT 0 t)) (layT 0 t).length (fun i => (i : Int)) (.inr ()) (fun i hi => least_1 hG hS hn.2 hi) (by unfold selvagelaw12_FoldLeast.l1; rw [if_neg (by omega)])
    exact .bindE hf (.bindE this (.some rfl))
end Go.Proofs.Ytbdbmklkgjbehaa.W
