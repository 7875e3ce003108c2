/- Chapter 16: ThreadRuns, in plain words. -/
import Derived.Test.YtcnchjlomcafeaaPI
set_option linter.unusedVariables false
set_option linter.unusedSimpArgs false
namespace Go.Proofs.Ytcnchjlomcafeaa.W
open Go Go.RowKit Go.Proofs.Ytcnchjlomcafeaa.B
theorem enc0_iff (x : api_Inst) : enc0 x = true ↔ isa_check.m (isa_formOf.m x.Op).1 x = some 0 := by
  obtain ⟨e, he, _⟩ := check_tot (isa_formOf.m x.Op).1 x
  obtain ⟨w, e', h', _⟩ := enc_tot x
  have : e' = e := by
    unfold isa_Encode.m at h'
    rw [he, Option.bind_some] at h'
    by_cases h0 : e = 0
    · rw [if_neg (by simp [h0])] at h'
      have key : ∀ o : Option Int, (o.bind fun o => some (o, (0 : Int))) = some (w, e') → e' = 0 := by
        rintro (_ | o) h
        · cases h
        · injection h with h; injection h with _ h; exact h.symm
      rw [key _ h', h0]
    · rw [if_pos (by simp [h0])] at h'
      injection h' with h'; injection h' with _ h'; exact h'.symm
  subst this
  unfold enc0
  rw [h', he]
  simp
theorem ref_l0 (code : List api_Inst) (h : code.length ≤ 300) : loop (selvageref16_Do.l0 code) 0 = some (if code.all enc0 then .inl () else .inr ⟨[], 0⟩) := by
  refine loop_to _ (fun i : Int => 0 ≤ i ∧ i ≤ (code.length : Int) ∧ ∀ j : Int, 0 ≤ j → j < i → enc0 (gi code j) = true) (fun i : Int => ((code.length : Int) - i).toNat) ?_ 0 ⟨by omega, by omega, fun j h1 h2 => by omega⟩
  rintro i ⟨h0, h1, h2⟩
  unfold selvageref16_Do.l0
  by_cases hi : i < code.length
  · rw [if_pos (by simpa using hi), if_pos ⟨h0, hi⟩]
    obtain ⟨w, e, he, hk⟩ := ref_enc (gi code i)
    rw [← enc0_iff] at hk
    rw [he, Option.bind_some]
    by_cases h0' : e = 0
    · left
      refine ⟨i + 1, ?_, ⟨by omega, by omega, fun j h3 h4 => ?_⟩, by omega⟩
      · rw [if_neg (by simp [h0']), w64 (by omega)]
      · rcases (by omega : j < i ∨ j = i) with h5 | rfl
        · exact h2 j h3 h5
        · exact hk.1 h0'
    · right
      have hf : code.all enc0 = false := by
        rw [Bool.eq_false_iff]
        intro h3
        exact h0' (hk.2 (all_gi.1 h3 i h0 hi))
      rw [if_pos (by simp [h0']), hf]
      rfl
  · right
    rw [if_neg (by simpa using hi)]
    have ht : code.all enc0 = true := all_gi.2 fun j h3 h4 => h2 j h3 (by omega)
    rw [ht]
    rfl
theorem vg_rep' {α : Type} [Inhabited α] {n : Nat} {c : α} {i : Int} (h0 : 0 ≤ i) (h1 : i < n) : vg (Vector.replicate n c) i = c := by
  have : i.toNat < n := by omega
  simp [vg, gi, this]
theorem ref_do (code : List api_Inst) (locs dom : Int) (ans : List Int) (h : code.length ≤ 300) (hw : ∀ n ∈ ans, -9223372036854775808 ≤ n ∧ n < 9223372036854775808) :
    selvageref16_Do.m code locs dom ans = some (clDo code locs dom ans) := by
  unfold selvageref16_Do.m clDo
  by_cases hb : locs < 0 ∨ locs > 16 ∨ dom < 0 ∨ dom ≥ 3
  · rw [if_pos (by simp; omega), if_pos hb]
  · rw [if_neg (by simp; omega), if_neg hb, ref_l0 code h]
    by_cases hc : code.all enc0 = true
    · rw [if_pos hc, if_pos hc]
      simp only [Option.bind_some]
      have e1 : wrap64 (65536 * dom) = dom * 65536 := by rw [w64 (show _ ∧ _ by omega)]; omega
      rw [e1, w64 (show _ ∧ _ by omega)]
      refine run_eq code h hc 8000 (ini code locs dom ans) _ 0 0 (by omega) (by omega) ?_
      have r0 : ∀ i : Int, 0 ≤ i → i < 32 → CR (vg (α := thread_cell) (m := 32) (vp (vp (Vector.replicate 32 ⟨0, 0⟩) 1 ⟨1048576 + dom * 65536, 0⟩) 2 ⟨65536, 0⟩) i)
          (vg (α := selvageref16_Cell) (m := 32) (vp (vp (Vector.replicate 32 ⟨0, []⟩) 1 ⟨1048576 + dom * 65536, []⟩) 2 ⟨65536, []⟩) i) := fun i h0 h1 => by
        rw [vg_vp _ _ _ _ (by decide) (by decide) h0, vg_vp _ _ _ _ (by decide) (by decide) h0, vg_vp _ _ _ _ (by decide) (by decide) h0, vg_vp _ _ _ _ (by decide) (by decide) h0, vg_rep' h0 h1, vg_rep' h0 h1]
        split
        · exact ⟨rfl, .nil, by decide⟩
        · split
          · exact ⟨rfl, .nil, by simp only []; omega⟩
          · exact ⟨rfl, .nil, by decide⟩
      have s0 : ∀ i : Int, 0 ≤ i → i < 400 → CR (vg (α := thread_cell) (Vector.replicate 400 ⟨0, 0⟩) i) (vg (α := selvageref16_Cell) (Vector.replicate 400 ⟨0, []⟩) i) := fun i h0 h1 => by
        rw [vg_rep' h0 h1, vg_rep' h0 h1]; exact ⟨rfl, .nil, by decide⟩
      refine ⟨rfl, rfl, rfl, rfl, r0, s0, rfl, rfl, .nil, .nil, .nil, rfl, fun h => absurd h (by show ¬ (-1 : Int) ≥ 0; decide), ?_, ?_, ?_, hw⟩
      · simp only [ini]; omega
      · simp [ini]
      · simp only [ini]; omega
    · rw [if_neg hc, if_neg hc]
      rfl
theorem wf_in {n : Int} (h : (Lit.int .i64 n).wf = true) : -9223372036854775808 ≤ n ∧ n < 9223372036854775808 := by
  simp [Lit.wf, IntKind.max, IntKind.min, IntKind.bits, IntKind.signed] at h
  omega
end Go.Proofs.Ytcnchjlomcafeaa.W
