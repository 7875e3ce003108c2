/- Chapter 16: ThreadWords, in plain words. -/
import Derived.Test.YtcnchjlomcafeaaPG
import Derived.Test.YtcnchjlomcafeaaG6
set_option linter.unusedVariables false
set_option linter.unusedSimpArgs false
namespace Go.Proofs.Ytcnchjlomcafeaa.W
open Go Go.RowKit Go.Proofs.Ytcnchjlomcafeaa.B
def dv (w : Int) : api_Inst × Int := (isa_Decode.m w).getD default
def U32 (l : List Int) : Prop := ∀ w ∈ l, 0 ≤ w ∧ w < 4294967296
theorem dv_eq {w : Int} (h : 0 ≤ w ∧ w < 4294967296) : isa_Decode.m w = some (dv w) ∧ selvageref15_Decode.m w = some (dv w) := by
  obtain ⟨r, h1, h2⟩ := dec_eq h.1 h.2
  unfold dv
  rw [h1, h2]
  exact ⟨rfl, rfl⟩
def codeOf (l : List Int) : List api_Inst := l.map fun w => (dv w).1
def okW (w : Int) : Bool := decide ((dv w).2 = 0)
theorem okW_all {l : List Int} : l.all okW = true ↔ ∀ i : Int, 0 ≤ i → i < l.length → okW (gi l i) = true := by
  rw [List.all_eq_true]
  constructor
  · intro h i h0 h1; exact h _ (gi_mem h0 h1)
  · intro h x hx
    obtain ⟨i, hi, rfl⟩ := List.mem_iff_getElem.1 hx
    have := h i (by omega) (by omega)
    rwa [gi_nat l i hi] at this
theorem code_step {l : List Int} {m : Nat} (h : m < l.length) : codeOf (l.take m) ++ [(dv (gi l m)).1] = codeOf (l.take (m + 1)) := by
  unfold codeOf
  rw [List.take_succ_eq_append_getElem h, List.map_append, gi_nat l m h]; rfl
theorem words_loop {S O : Type} (l : List Int) (hl : l.length ≤ 300) (f : List api_Inst × Int → Option ((List api_Inst × Int) ⊕ O)) (good : List api_Inst → O) (bad : O)
    (hs : ∀ (c : List api_Inst) (i : Int), 0 ≤ i → i < l.length → c.length ≤ 300 → okW (gi l i) = true → f (c, i) = some (.inl (c ++ [(dv (gi l i)).1], i + 1)))
    (hb : ∀ (c : List api_Inst) (i : Int), 0 ≤ i → i < l.length → okW (gi l i) = false → f (c, i) = some (.inr bad))
    (he : ∀ (c : List api_Inst), f (c, l.length) = some (.inr (good c))) : loop f ([], 0) = some (if l.all okW then good (codeOf l) else bad) := by
  refine loop_to _ (fun s : List api_Inst × Int => 0 ≤ s.2 ∧ s.2 ≤ (l.length : Int) ∧ s.1 = codeOf (l.take s.2.toNat) ∧ ∀ j : Int, 0 ≤ j → j < s.2 → okW (gi l j) = true) (fun s => ((l.length : Int) - s.2).toNat) ?_ ([], 0) ⟨by simp, by simp, rfl, fun j h1 h2 => by simp only [] at h2; omega⟩
  rintro ⟨c, i⟩ ⟨h0, h1, h2, h3⟩
  simp only at h0 h1 h2 h3
  obtain ⟨m, rfl⟩ := Int.eq_ofNat_of_zero_le h0
  simp only [Int.toNat_natCast] at h2
  by_cases hi : (m : Int) < l.length
  · cases hk : okW (gi l m) with
    | true =>
      left
      refine ⟨_, hs c m h0 hi (by rw [h2]; simp [codeOf]; omega) hk, ⟨by simp only []; omega, by simp only []; omega, ?_, fun j g0 g1 => ?_⟩, by simp only []; omega⟩
      · show c ++ [(dv (gi l m)).1] = codeOf (l.take ((m : Int) + 1).toNat)
        rw [h2, show ((m : Int) + 1).toNat = m + 1 by omega]; exact code_step (by omega)
      · simp only [] at g1
        rcases (by omega : j < m ∨ j = m) with g | rfl
        · exact h3 j g0 g
        · exact hk
    | false =>
      right
      have : l.all okW = false := by
        rw [Bool.eq_false_iff]; intro ha
        rw [okW_all.1 ha m h0 hi] at hk; cases hk
      rw [hb c m h0 hi hk, this]; rfl
  · right
    have e : (m : Int) = l.length := by omega
    have : l.all okW = true := okW_all.2 fun j g0 g1 => h3 j g0 (by omega)
    rw [e, he c, this, if_pos rfl, h2, List.take_of_length_le (by omega)]
theorem words_eq (l : List Int) (a1 a2 : Int) (a3 : List Int) (hl : l.length ≤ 300) (hu : U32 l) : thread_Words.m l a1 a2 a3 = some (if l.all okW then clDo (codeOf l) a1 a2 a3 else ⟨[], 0⟩) := by
  unfold thread_Words.m
  rw [words_loop (S := Unit) l hl (thread_Words.l0 l) (fun c => .inl c) (.inr ⟨[], 0⟩) (fun c i h0 h1 hc hk => ?_) (fun c i h0 h1 hk => ?_) (fun c => ?_)]
  · cases l.all okW
    · rfl
    · simp only [if_true, Option.bind_some]
      rw [do_eq _ _ _ _ (by simp [codeOf]; omega)]; rfl
  · unfold thread_Words.l0
    rw [if_pos (by simpa using h1), if_pos ⟨h0, h1⟩, (dv_eq (hu _ (gi_mem h0 h1))).1, Option.bind_some]
    have : (dv (gi l i)).2 = 0 := of_decide_eq_true hk
    rw [if_neg (by simp [this]), if_pos (by simp only [List.length_singleton]; omega), w64 (show _ ∧ _ by omega)]
  · unfold thread_Words.l0
    rw [if_pos (by simpa using h1), if_pos ⟨h0, h1⟩, (dv_eq (hu _ (gi_mem h0 h1))).1, Option.bind_some]
    have : ¬ (dv (gi l i)).2 = 0 := of_decide_eq_false hk
    rw [if_pos (by simp [this])]; rfl
  · unfold thread_Words.l0
    rw [if_neg (by simp)]; rfl
theorem wf_u {n : Int} (h : (Lit.int .u32 n).wf = true) : 0 ≤ n ∧ n < 4294967296 := by
  simp [Lit.wf, IntKind.max, IntKind.min, IntKind.bits, IntKind.signed] at h
  omega
theorem pureThreadWords (a0 : List Int) (a1 a2 : Int) (a3 : List Int) {p q r s : Prop} (w0 : p ∧ ∀ x ∈ a0, (fun n => (Lit.int .u32 n).wf = true) x) (w1 : q) (w2 : r) (w3 : s ∧ ∀ x ∈ a3, (fun n => (Lit.int .i64 n).wf = true) x) : selvagelaw16_ThreadWords.m a0 a1 a2 a3 = some true := by
  unfold selvagelaw16_ThreadWords.m
  rw [awake_eq]
  simp only [Option.bind_some, Bool.not_true, Bool.false_eq_true, if_false]
  by_cases hl : a0.length > 300 ∨ a3.length > 100
  · rw [if_pos (by simp; omega)]
  have hu : U32 a0 := fun w hw => wf_u (w0.2 w hw)
  have hw := words_eq a0 a1 a2 a3 (by omega) hu
  rw [if_neg (by simp; omega), words_loop (S := Unit) a0 (by omega) (selvagelaw16_ThreadWords.l0 a0 a1 a2 a3) (fun c => .inl c) (.inr true) (fun c i h0 h1 hc hk => ?_) (fun c i h0 h1 hk => ?_) (fun c => ?_)]
  · cases ha : a0.all okW
    · rfl
    · rw [ha] at hw
      simp only [if_true, Option.bind_some] at hw ⊢
      rw [hw, Option.bind_some, ref_do _ _ _ _ (by simp [codeOf]; omega) (fun n hn => wf_in (w3.2 n hn)), Option.bind_some, same_eq _ _ (by have := clDo_len (codeOf a0) a1 a2 a3; omega)]
      simp
  · unfold selvagelaw16_ThreadWords.l0 selvagelaw16_decode.m
    rw [if_pos (by simpa using h1), if_pos ⟨h0, h1⟩, (dv_eq (hu _ (gi_mem h0 h1))).2, Option.bind_some, Option.bind_some]
    have : (dv (gi a0 i)).2 = 0 := of_decide_eq_true hk
    rw [if_neg (by simp [this]), if_pos (by simp only [List.length_singleton]; omega), w64 (show _ ∧ _ by omega)]
  · unfold selvagelaw16_ThreadWords.l0 selvagelaw16_decode.m
    rw [if_pos (by simpa using h1), if_pos ⟨h0, h1⟩, (dv_eq (hu _ (gi_mem h0 h1))).2, Option.bind_some, Option.bind_some]
    have hn : ¬ (dv (gi a0 i)).2 = 0 := of_decide_eq_false hk
    have ha : a0.all okW = false := by
      rw [Bool.eq_false_iff]; intro ha
      rw [okW_all.1 ha i h0 h1] at hk; cases hk
    rw [ha] at hw
    rw [if_pos (by simp [hn]), hw]
    simp only [Bool.false_eq_true, if_false, Option.bind_some]
    rw [same_eq _ _ (by simp)]; simp
  · unfold selvagelaw16_ThreadWords.l0
    rw [if_neg (by simp)]; rfl
end Go.Proofs.Ytcnchjlomcafeaa.W
