/- PU: several texts in one. -/
import Derived.Test.YtgjibbicplbgbaaPP
import Derived.Test.YtgjibbicplbgbaaPT
import Derived.Test.YtgjibbicplbgbaaQG
set_option linter.unusedVariables false
set_option linter.unusedSimpArgs false
set_option linter.unusedSectionVars false
namespace Go.Proofs.Ytgjibbicplbgbaa.W
open Go Go.RowKit Go.Proofs.Ytgjibbicplbgbaa Go.Proofs.Ytgjibbicplbgbaa.X
open Go.Proofs.Ytgjibbicplbgbaa.B (wr aget aset loop loop_in loop_out loop_tot)

theorem uses_eq (x : api_Ins) (t : Int) : selvageref14_Uses.m x t = some (nds x t) := by
  unfold selvageref14_Uses.m
  rw [has_a, has_b, nds_sh]
  simp only [Option.bind_some]
  cases (sh x.Op).a <;> cases (sh x.Op).b <;> simp
  all_goals by_cases h : x.A = t <;> simp [h]
theorem pureAllocSpans (a : List api_Ins) (l : List api_Loc) : selvagelaw14_AllocSpans.m a l = some true := by
  suffices h : Tot (fun b => b = true) (selvagelaw14_AllocSpans.m a l) by
    obtain ⟨b, e, rfl⟩ := h; exact e
  unfold selvagelaw14_AllocSpans.m
  refine .bindE selvagelaw14_awake_eq (.tt rfl ?_)
  refine .bind (R := fun b => b = false → a.length ≤ 200 ∧ RP a l) (.ite (fun _ => .some fun e => by cases e) fun h1 => .ite (fun _ => .some fun e => by cases e) fun h2 => .bind (ref_right a l (by omega) (by omega)) fun b hb => .some fun e => ⟨by omega, hb.1 (by simpa using e)⟩) fun b hb => .ite (fun _ => .some rfl) fun hbf => ?_
  obtain ⟨hn, hr⟩ := hb (by simpa using hbf)
  have hg := hr.good
  refine .bind (R := fun o => o = .inr ()) ?_ fun o h => by subst h; exact .some rfl
  refine loop_T a.length (fun i s => s = (i : Int)) (fun i s hi hs => ?_) (fun s hs => ?_) rfl
  · subst hs
    unfold selvagelaw14_AllocSpans.l1
    refine .tt (by omega) ?_
    refine Tot.gd (by omega) ?_
    refine Tot.let fun x hx => ?_
    refine .bind (R := fun o => o = .inr ()) ?_ fun o h => by subst h; exact .some (by simp only []; rw [wr64 (by omega)]; rfl)
    refine loop_T 400 (fun t s => s = (t : Int)) (fun t s ht hs => ?_) (fun s hs => ?_) rfl
    · subst hs
      unfold selvagelaw14_AllocSpans.l2
      refine .tt (by omega) ?_
      refine .bind (R := fun b => b = false → nds x t = true ∨ (mks x = true ∧ x.D = t)) ?_ fun b hb => .ite (fun _ => .some (by simp only []; rw [wr64 (by omega)]; rfl)) fun hbf => ?_
      · refine .bindE (uses_eq x t) (.ite (fun h => .some fun _ => .inl h) fun h => ?_)
        refine .bindE (has_d x.Op) (.ite (fun h => .some fun e => .inr ⟨by rw [mks_sh]; exact h, by simpa using e⟩) fun h => .some fun e => by cases e)
      have hc := hb (by simpa using hbf)
      -- where it is made
      have hk : ∃ k : Nat, k ≤ i ∧ mks (gi a k) = true ∧ (gi a k).D = (t : Int) := by
        rcases hc with h | ⟨h1, h2⟩
        · rw [nds_sh, hx] at h
          simp only [Bool.or_eq_true, Bool.and_eq_true, decide_eq_true_eq] at h
          have hw := hr.w i hi
          rcases h with ⟨h1, h2⟩ | ⟨h1, h2⟩
          · obtain ⟨k, hk, hm, hD⟩ := hw.2.1 h1
            exact ⟨k, by have := hk.lt; omega, hm, by rw [hD, h2]⟩
          · obtain ⟨k, hk, hm, hD⟩ := hw.2.2 h1
            exact ⟨k, by have := hk.lt; omega, hm, by rw [hD, h2]⟩
        · exact ⟨i, Nat.le_refl _, by rw [← hx]; exact h1, by rw [← hx]; exact h2⟩
      obtain ⟨k, hki, hkm, hkD⟩ := hk
      rcases span_c (code := a) (by omega) (t : Int) with ⟨j, hj, hm, hD, e⟩ | ⟨hno, _⟩
      · have hjk : j = k := by
          rcases Nat.lt_trichotomy j k with c | c | c
          · exact absurd (hD.trans hkD.symm) ((hg k (by omega) hkm).2.2 j c hm)
          · exact c
          · exact absurd (hkD.trans hD.symm) ((hg j hj hm).2.2 k c hkm)
        subst hjk
        have hto : (i : Int) ≤ (spn a j).to_ := by
          obtain ⟨_, h2, _, _, h5, _, h7⟩ := su_p a (gi a j).D j a.length
          rcases hc with h | ⟨h1, h2⟩
          · exact h7 i hi (by rw [← hx, hD]; exact h)
          · rw [hx] at h1 h2
            have hij : i = j := by
              rcases Nat.lt_trichotomy i j with c | c | c
              · omega
              · exact c
              · exact absurd (hD.trans h2.symm) ((hg i hi h1).2.2 j c hm)
            rw [hij]; exact (spn_t a j).2.2
        refine .bindE e ?_
        refine .bind (R := fun b => b = false) (.tt rfl (.ff (by simp only []; omega) (.some ?_))) fun b h => by subst h; exact .ff (by simp) (.some (by simp only []; rw [wr64 (by omega)]; rfl))
        simp only [decide_eq_false_iff_not]; omega
      · exact absurd hkD (hno k (by omega) hkm)
    · subst hs
      unfold selvagelaw14_AllocSpans.l2
      exact .ff (by omega) (.some rfl)
  · subst hs
    unfold selvagelaw14_AllocSpans.l1
    exact .ff (by omega) (.some rfl)
end Go.Proofs.Ytgjibbicplbgbaa.W
