/- Chapter 15: both encoders answer the same, whatever the instruction. -/
import Derived.Test.YtallojficgiemaaPureIsaC
set_option linter.unusedVariables false
set_option linter.unusedSimpArgs false
namespace Go.Proofs.Ytallojficgiemaa.W
open Go Go.RowKit Go.Proofs.Ytallojficgiemaa.B
theorem formOut (c : Int) (h : c < 1 ∨ 23 < c) : isa_formOf.m c = (0, 0) := by
  unfold isa_formOf.m
  repeat rw [if_neg (by simp <;> omega)]
theorem isaOut (c t a b i : Int) (h : c < 1 ∨ 23 < c) : isa_Encode.m ⟨c, t, a, b, i⟩ = some (0, 3) := by
  unfold isa_Encode.m
  simp only [formOut c h]
  simp [isa_check.m]
theorem refOut (k : Nat) (c t a b i : Int) (h : c < 1 ∨ 23 < c) : selvageref15_Encode.m (k + 60) ⟨c, t, a, b, i⟩ = some (0, 3) := by
  unfold selvageref15_Encode.m selvageref15_sort.m
  simp only []
  rw [if_pos (by simp <;> omega)]
  simp [show selvageref15_uses.m 0 = some (⟨#[]⟩ : ByteArray) from rfl]
theorem opCases (c : Int) (h : ¬ (c < 1 ∨ 23 < c)) : c = 1 ∨ c = 2 ∨ c = 3 ∨ c = 4 ∨ c = 5 ∨ c = 6 ∨ c = 7 ∨ c = 8 ∨ c = 9 ∨ c = 10 ∨ c = 11 ∨ c = 12 ∨ c = 13 ∨ c = 14 ∨ c = 15 ∨ c = 16 ∨ c = 17 ∨ c = 18 ∨ c = 19 ∨ c = 20 ∨ c = 21 ∨ c = 22 ∨ c = 23 := by omega
theorem encEq (k : Nat) (x : api_Inst) : selvageref15_Encode.m (k + 60) x = isa_Encode.m x := by
  obtain ⟨c, t, a, b, i⟩ := x
  by_cases h : c < 1 ∨ 23 < c
  · rw [isaOut c t a b i h, refOut k c t a b i h]
  · rcases opCases c h with rfl | rfl | rfl | rfl | rfl | rfl | rfl | rfl | rfl | rfl | rfl | rfl | rfl | rfl | rfl | rfl | rfl | rfl | rfl | rfl | rfl | rfl | rfl
    · rw [isaE1, refE1]
    · rw [isaE2, refE2]
    · rw [isaE3, refE3]
    · rw [isaE4, refE4]
    · rw [isaE5, refE5]
    · rw [isaE6, refE6]
    · rw [isaE7, refE7]
    · rw [isaE8, refE8]
    · rw [isaE9, refE9]
    · rw [isaE10, refE10]
    · rw [isaE11, refE11]
    · rw [isaE12, refE12]
    · rw [isaE13, refE13]
    · rw [isaE14, refE14]
    · rw [isaE15, refE15]
    · rw [isaE16, refE16]
    · rw [isaE17, refE17]
    · rw [isaE18, refE18]
    · rw [isaE19, refE19]
    · rw [isaE20, refE20]
    · rw [isaE21, refE21]
    · rw [isaE22, refE22]
    · rw [isaE23, refE23]
theorem encSome (x : api_Inst) : ∃ r, isa_Encode.m x = some r := by
  obtain ⟨c, t, a, b, i⟩ := x
  by_cases h : c < 1 ∨ 23 < c
  · exact ⟨_, isaOut c t a b i h⟩
  · rcases opCases c h with rfl | rfl | rfl | rfl | rfl | rfl | rfl | rfl | rfl | rfl | rfl | rfl | rfl | rfl | rfl | rfl | rfl | rfl | rfl | rfl | rfl | rfl | rfl
    · exact ⟨_, isaE1 t a b i⟩
    · exact ⟨_, isaE2 t a b i⟩
    · exact ⟨_, isaE3 t a b i⟩
    · exact ⟨_, isaE4 t a b i⟩
    · exact ⟨_, isaE5 t a b i⟩
    · exact ⟨_, isaE6 t a b i⟩
    · exact ⟨_, isaE7 t a b i⟩
    · exact ⟨_, isaE8 t a b i⟩
    · exact ⟨_, isaE9 t a b i⟩
    · exact ⟨_, isaE10 t a b i⟩
    · exact ⟨_, isaE11 t a b i⟩
    · exact ⟨_, isaE12 t a b i⟩
    · exact ⟨_, isaE13 t a b i⟩
    · exact ⟨_, isaE14 t a b i⟩
    · exact ⟨_, isaE15 t a b i⟩
    · exact ⟨_, isaE16 t a b i⟩
    · exact ⟨_, isaE17 t a b i⟩
    · exact ⟨_, isaE18 t a b i⟩
    · exact ⟨_, isaE19 t a b i⟩
    · exact ⟨_, isaE20 t a b i⟩
    · exact ⟨_, isaE21 t a b i⟩
    · exact ⟨_, isaE22 t a b i⟩
    · exact ⟨_, isaE23 t a b i⟩
theorem awake100 : selvagelaw15_awake.m 100 = some true := by decide +kernel
theorem pureIsaEncodes (x : api_Inst) {p : Prop} (h : p) : ∃ k, selvagelaw15_IsaEncodes.m k x = some true := by
  refine ⟨100, ?_⟩
  unfold selvagelaw15_IsaEncodes.m
  rw [awake100]
  obtain ⟨r, hr⟩ := encSome x
  have h2 : selvageref15_Encode.m 100 x = _ := encEq 40 x
  rw [hr] at h2
  simp [h2, hr]
end Go.Proofs.Ytallojficgiemaa.W
