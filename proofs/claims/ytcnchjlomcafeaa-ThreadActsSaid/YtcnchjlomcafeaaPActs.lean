/- Chapter 16: ThreadActs, in plain words. -/
import Derived.Test.YtcnchjlomcafeaaPU
import Derived.Test.YtcnchjlomcafeaaPMap
import Derived.Test.YtcnchjlomcafeaaF29
set_option linter.unusedVariables false
set_option linter.unusedSimpArgs false
namespace Go.Proofs.Ytcnchjlomcafeaa.W
open Go Go.RowKit Go.Proofs.Ytcnchjlomcafeaa.B
/-- What of an event that can be read is used here. -/
def evOk (s : api_Event) : Prop := (fun n => (Lit.int .i64 n).wf = true) s.Kind ∧ (fun n => (Lit.int .i64 n).wf = true) s.Loc ∧ (fun n => (Lit.int .i64 n).wf = true) s.Val ∧ (fun n => (Lit.int .i64 n).wf = true) s.Pair ∧ (fun n => (Lit.int .u64 n).wf = true) s.Addr ∧ (fun n => (Lit.int .u64 n).wf = true) s.Data ∧ (fun n => (Lit.int .u64 n).wf = true) s.Ctrl ∧ (fun n => (Lit.int .u64 n).wf = true) s.Fenced
/-- Is an event the write of a pair? -/
def pr (l : List api_Event) (i : Int) : Bool := decide ((gi l i).Kind = 2) && decide ((gi l i).Pair ≥ 1) && decide ((gi l i).Pair ≤ i) && decide ((gi l ((gi l i).Pair - 1)).Kind = 1)
theorem pr_iff {l : List api_Event} {i : Int} : pr l i = true ↔ (gi l i).Kind = 2 ∧ 1 ≤ (gi l i).Pair ∧ (gi l i).Pair ≤ i ∧ (gi l ((gi l i).Pair - 1)).Kind = 1 := by
  simp [pr, and_assoc]
section
variable {l : List api_Event} {locs : List api_Loc}
theorem pair_eq (hl : l.length ≤ 100) {i : Int} (h0 : 0 ≤ i) (h1 : i < l.length) : thread_Acts_1.m i l = some (pr l i) := by
  unfold thread_Acts_1.m
  rw [if_pos ⟨h0, h1⟩]
  by_cases h : ((gi l i).Kind = 2 ∧ 1 ≤ (gi l i).Pair) ∧ (gi l i).Pair ≤ i
  · have hw : wrap64 ((gi l i).Pair - 1) = (gi l i).Pair - 1 := w64 (by omega)
    rw [if_pos (by simpa using h), hw, if_pos (by omega)]
    simp [pr, h]
  · rw [if_neg (by simpa using h)]
    have : pr l i = false := by
      rw [Bool.eq_false_iff]; intro h2; obtain ⟨a, b, c, _⟩ := pr_iff.1 h2; exact h ⟨⟨a, b⟩, c⟩
    rw [this]; rfl
theorem paired_eq (hl : l.length ≤ 100) (hk : ∀ x ∈ l, x.Pair ≤ 9223372036854775807) {i : Int} (h0 : 0 ≤ i) (h1 : i < l.length) : selvageref16_paired.m l i = some (pr l i) := by
  unfold selvageref16_paired.m
  have hm := hk _ (gi_mem h0 h1)
  rw [if_pos ⟨h0, h1⟩]
  by_cases hk : (gi l i).Kind = 2
  · rw [if_pos (by simpa using hk)]
    by_cases hp : (gi l i).Pair > 0
    · have hw : wrap64 ((gi l i).Pair - 1) = (gi l i).Pair - 1 := w64 (by omega)
      rw [if_pos (by simpa using hp), hw]
      by_cases hlt : (gi l i).Pair - 1 < i
      · rw [if_pos (by simpa using hlt), if_pos (by omega)]
        simp [pr, hk]; omega
      · rw [if_neg (by simpa using hlt)]
        have : pr l i = false := by
          rw [Bool.eq_false_iff]; intro h2; obtain ⟨a, b, c, _⟩ := pr_iff.1 h2
          omega
        rw [this]; rfl
    · rw [if_neg (by simpa using hp)]
      have : pr l i = false := by
        rw [Bool.eq_false_iff]; intro h2; obtain ⟨a, b, c, _⟩ := pr_iff.1 h2; omega
      rw [this]; rfl
  · rw [if_neg (by simpa using hk)]
    have : pr l i = false := by
      rw [Bool.eq_false_iff]; intro h2; obtain ⟨a, b, c, _⟩ := pr_iff.1 h2; exact hk a
    rw [this]; rfl
/-- Is an event the read of a pair whose write lies ahead of place i? -/
def hits (l : List api_Event) (k : Int) (i : Nat) : Nat := ((List.range i).filter fun j : Nat => pr l (j : Int) && decide ((gi l (j : Int)).Pair - 1 = k)).length
theorem hits_succ (l : List api_Event) (k : Int) (i : Nat) : hits l k (i + 1) = hits l k i + if pr l (i : Int) = true ∧ (gi l (i : Int)).Pair - 1 = k then 1 else 0 := by
  unfold hits
  rw [List.range_succ, List.filter_append, List.length_append]
  by_cases h : pr l (i : Int) = true ∧ (gi l (i : Int)).Pair - 1 = k
  · rw [if_pos h]; simp [h]
  · rw [if_neg h]
    have : (pr l (i : Int) && decide ((gi l (i : Int)).Pair - 1 = k)) = false := by rw [Bool.eq_false_iff]; simpa using h
    simp [this]
theorem hits_le (l : List api_Event) (k : Int) (i : Nat) : hits l k i ≤ i := by
  have := List.length_filter_le (fun j : Nat => pr l (j : Int) && decide ((gi l (j : Int)).Pair - 1 = k)) (List.range i)
  rwa [List.length_range] at this
theorem turned_eq (hl : l.length ≤ 100) : ∃ m, loop (thread_Acts.l0 l) (([] : List (Int × Int)), 0) = some m ∧ ∀ k : Int, (aget m k).getD 0 = hits l k l.length := by
  refine loop_tot (fun s : List (Int × Int) × Int => 0 ≤ s.2 ∧ s.2 ≤ l.length ∧ ∀ k : Int, (aget s.1 k).getD 0 = hits l k s.2.toNat) (fun s => ((l.length : Int) - s.2).toNat) _ ?_ ([], 0) ⟨by omega, by omega, fun k => by simp [aget_nil, hits]⟩
  rintro ⟨m, i⟩ ⟨h0, h1, h2⟩
  simp only at h0 h1 h2
  obtain ⟨i, rfl⟩ := Int.eq_ofNat_of_zero_le h0
  unfold thread_Acts.l0
  simp only []
  by_cases hi : (i : Int) < l.length
  · left
    have hw : wrap64 ((i : Int) + 1) = (i : Int) + 1 := w64 (by omega)
    rw [if_pos (by simpa using hi), if_pos ⟨h0, hi⟩, pair_eq hl h0 hi]
    simp only [Option.bind_some, Int.toNat_natCast] at h2 ⊢
    by_cases hp : pr l (i : Int) = true
    · obtain ⟨_, p1, p2, _⟩ := pr_iff.1 hp
      have hwp : wrap64 ((gi l (i : Int)).Pair - 1) = (gi l (i : Int)).Pair - 1 := w64 (by omega)
      rw [if_pos hp, hwp, h2]
      have hle := hits_le l ((gi l (i : Int)).Pair - 1) i
      refine ⟨(aset m ((gi l (i : Int)).Pair - 1) (wrap64 ((hits l ((gi l (i : Int)).Pair - 1) i : Int) + 1)), (i : Int) + 1), ?_, ⟨by simp only []; omega, by simp only []; omega, fun k => ?_⟩, by simp only []; omega⟩
      · simp only [Option.bind_some, hw]
      · simp only []
        rw [show ((i : Int) + 1).toNat = i + 1 by omega, hits_succ, aget_aset]
        by_cases hk : k = (gi l (i : Int)).Pair - 1
        · rw [if_pos hk, if_pos ⟨hp, hk.symm⟩, Option.getD_some, w64 (by omega), hk]; rfl
        · rw [if_neg hk, if_neg (fun h => hk h.2.symm), h2]; rfl
    · rw [if_neg hp]
      refine ⟨(m, (i : Int) + 1), ?_, ⟨by simp only []; omega, by simp only []; omega, fun k => ?_⟩, by simp only []; omega⟩
      · simp only [Option.bind_some, hw]
      · simp only []
        rw [show ((i : Int) + 1).toNat = i + 1 by omega, hits_succ, if_neg (fun h => hp h.1), h2]; rfl
  · right
    rw [if_neg (by simpa using hi)]
    refine ⟨m, rfl, ?_⟩
    have : i = l.length := by omega
    subst this
    simpa using h2
/-- The act that an event is, if it is one. -/
def actOf (l : List api_Event) (locs : List api_Loc) (i : Int) : Option api_Act :=
  let e := gi l i
  let atomic := decide (e.Loc ≥ 0) && decide (e.Loc < (locs.length : Int)) && (gi locs e.Loc).Atomic
  if e.Kind = 6 then some ⟨6, 0, 0, e.Val⟩
  else if pr l i = true then some ⟨5, e.Loc, (gi l (e.Pair - 1)).Val, e.Val⟩
  else if e.Kind = 1 then if hits l i l.length = 0 then some ⟨if atomic then 3 else 1, e.Loc, e.Val, 0⟩ else none
  else if e.Kind = 2 then some ⟨if atomic then 4 else 2, e.Loc, 0, e.Val⟩
  else none
def actsTo (l : List api_Event) (locs : List api_Loc) (i : Nat) : List api_Act := (List.range i).filterMap fun j : Nat => actOf l locs (j : Int)
theorem actsTo_succ (l : List api_Event) (locs : List api_Loc) (i : Nat) : actsTo l locs (i + 1) = actsTo l locs i ++ (actOf l locs (i : Int)).toList := by
  unfold actsTo
  rw [List.range_succ, List.filterMap_append]
  cases h : actOf l locs (i : Int) <;> simp [h]
theorem actsTo_len (l : List api_Event) (locs : List api_Loc) (i : Nat) : (actsTo l locs i).length ≤ i := by
  have := List.length_filterMap_le (fun j : Nat => actOf l locs (j : Int)) (List.range i)
  rwa [List.length_range] at this
theorem push_eq {x : List api_Act} (a : api_Act) (h : x.length ≤ 100) : (if (x.length + ([a] : List api_Act).length) * 32 ≤ 140737488355328 then (some (x ++ ([a] : List api_Act))) else none) = some (x ++ [a]) := by
  rw [if_pos (by simp; omega)]
theorem atomic_eq (locs : List api_Loc) (n : Int) : (if (decide (n ≥ 0) && decide (n < (locs.length : Int))) = true then (if 0 ≤ n ∧ n < (locs.length : Int) then (some ((gi locs n).Atomic)) else none) else (some false) : Option Bool) = some (decide (n ≥ 0) && decide (n < (locs.length : Int)) && (gi locs n).Atomic) := by
  by_cases h : 0 ≤ n ∧ n < (locs.length : Int)
  · rw [if_pos (by simpa using h), if_pos h]; simp [h]
  · rw [if_neg (by simpa using h)]
    have : (decide (n ≥ 0) && decide (n < (locs.length : Int))) = false := by rw [Bool.eq_false_iff]; simpa using h
    rw [this]; rfl
theorem acts_l1 (hl : l.length ≤ 100) {m : List (Int × Int)} (hm : ∀ k : Int, (aget m k).getD 0 = hits l k l.length) : loop (thread_Acts.l1 l locs m) (([] : List api_Act), 0) = some (actsTo l locs l.length) := by
  refine loop_to _ (fun s : List api_Act × Int => 0 ≤ s.2 ∧ s.2 ≤ l.length ∧ s.1 = actsTo l locs s.2.toNat) (fun s => ((l.length : Int) - s.2).toNat) ?_ ([], 0) ⟨by omega, by omega, rfl⟩
  rintro ⟨o, i⟩ ⟨h0, h1, h2⟩
  simp only at h0 h1 h2
  obtain ⟨i, rfl⟩ := Int.eq_ofNat_of_zero_le h0
  rw [Int.toNat_natCast] at h2
  unfold thread_Acts.l1
  simp only []
  by_cases hi : (i : Int) < l.length
  · left
    have hw : wrap64 ((i : Int) + 1) = (i : Int) + 1 := w64 (by omega)
    have hlen : o.length ≤ 100 := by rw [h2]; have := actsTo_len l locs i; omega
    refine ⟨(actsTo l locs (i + 1), (i : Int) + 1), ?_, ⟨by simp only []; omega, by simp only []; omega, by simp only []; rw [show ((i : Int) + 1).toNat = i + 1 by omega]⟩, by simp only []; omega⟩
    rw [if_pos (by simpa using hi), if_pos ⟨h0, hi⟩, atomic_eq, pair_eq hl h0 hi]
    simp only [Option.bind_some, push_eq _ hlen, hm, hw]
    rw [actsTo_succ, ← h2]
    unfold actOf
    simp only []
    generalize (decide ((gi l (i : Int)).Loc ≥ 0) && decide ((gi l (i : Int)).Loc < (locs.length : Int)) && (gi locs (gi l (i : Int)).Loc).Atomic) = at_
    by_cases k6 : (gi l (i : Int)).Kind = 6
    · simp [k6]
    by_cases hp : pr l (i : Int) = true
    · obtain ⟨p0, p1, p2, _⟩ := pr_iff.1 hp
      have hwp : wrap64 ((gi l (i : Int)).Pair - 1) = (gi l (i : Int)).Pair - 1 := w64 (by omega)
      rw [hwp, if_pos (show 0 ≤ (gi l (i : Int)).Pair - 1 ∧ (gi l (i : Int)).Pair - 1 < (l.length : Int) by omega)]
      simp [k6, hp]
    by_cases k1 : (gi l (i : Int)).Kind = 1
    · by_cases hh : hits l (i : Int) l.length = 0
      · cases at_ <;> simp [hp, k1, hh]
      · have : ¬ ((hits l (i : Int) l.length : Nat) : Int) = 0 := by omega
        cases at_ <;> simp [hp, k1, hh]
    by_cases k2 : (gi l (i : Int)).Kind = 2
    · cases at_ <;> simp [hp, k2]
    · simp [k6, hp, k1, k2]
  · right
    rw [if_neg (by simpa using hi)]
    have : i = l.length := by omega
    subst this
    rw [h2]; rfl
theorem acts_eq (hl : l.length ≤ 100) : thread_Acts.m l locs = some (actsTo l locs l.length) := by
  unfold thread_Acts.m
  obtain ⟨m, h1, h2⟩ := turned_eq hl
  rw [h1, Option.bind_some, acts_l1 hl h2, Option.bind_some]
theorem hits_mono (l : List api_Event) (k : Int) (i : Nat) (h : hits l k (i + 1) = 0) : hits l k i = 0 := by
  rw [hits_succ] at h; omega
theorem hits_low (l : List api_Event) (k : Int) : ∀ i : Nat, (i : Int) ≤ k + 1 → hits l k i = 0 := by
  intro i
  induction i with
  | zero => intro _; rfl
  | succ i ih =>
    intro h
    rw [hits_succ, ih (by omega), if_neg]
    rintro ⟨h1, h2⟩
    obtain ⟨_, _, h3, _⟩ := pr_iff.1 h1
    omega
theorem lone_eq (hl : l.length ≤ 100) (hk : ∀ x ∈ l, x.Pair ≤ 9223372036854775807) (o : List api_Act) (i : Nat) (hi : i < l.length) : loop (selvageref16_Acts.l1 l (o, (i : Int))) (true, (i : Int) + 1) = some (decide (hits l (i : Int) l.length = 0)) := by
  refine loop_to _ (fun s : Bool × Int => (i : Int) + 1 ≤ s.2 ∧ s.2 ≤ l.length ∧ s.1 = decide (hits l (i : Int) s.2.toNat = 0)) (fun s => ((l.length : Int) - s.2).toNat) ?_ (true, (i : Int) + 1) ⟨by simp, by simp only []; omega, ?_⟩
  · rintro ⟨b, k⟩ ⟨h0, h1, h2⟩
    simp only at h0 h1 h2
    obtain ⟨k, rfl⟩ := Int.eq_ofNat_of_zero_le (show 0 ≤ k by omega)
    rw [Int.toNat_natCast] at h2
    unfold selvageref16_Acts.l1
    simp only []
    by_cases hik : (k : Int) < l.length
    · left
      have hw : wrap64 ((k : Int) + 1) = (k : Int) + 1 := w64 (by omega)
      have hwi : wrap64 ((i : Int) + 1) = (i : Int) + 1 := w64 (by omega)
      refine ⟨(decide (hits l (i : Int) (k + 1) = 0), (k : Int) + 1), ?_, ⟨by simp only []; omega, by simp only []; omega, by simp only []; rw [show ((k : Int) + 1).toNat = k + 1 by omega]⟩, by simp only []; omega⟩
      rw [if_pos (by simpa using hik), paired_eq hl hk (by omega) hik]
      simp only [Option.bind_some, hw, hwi]
      rw [hits_succ, h2]
      by_cases hp : pr l (k : Int) = true
      · rw [if_pos hp, if_pos (show 0 ≤ (k : Int) ∧ (k : Int) < (l.length : Int) by omega)]
        by_cases he : (gi l (k : Int)).Pair = (i : Int) + 1
        · simp [he, hp]
        · have : ¬ ((gi l (k : Int)).Pair - 1 = (i : Int)) := by omega
          simp [he, hp, this]
      · simp [hp]
    · right
      rw [if_neg (by simpa using hik)]
      have : k = l.length := by omega
      subst this
      rw [h2]; rfl
  · simp only []
    rw [show ((i : Int) + 1).toNat = i + 1 by omega, hits_low l (i : Int) (i + 1) (by omega)]; rfl
theorem refacts_eq (hl : l.length ≤ 100) (hk : ∀ x ∈ l, x.Pair ≤ 9223372036854775807) : selvageref16_Acts.m l locs = some (actsTo l locs l.length) := by
  unfold selvageref16_Acts.m
  have : loop (selvageref16_Acts.l0 l locs) (([] : List api_Act), 0) = some (actsTo l locs l.length) := by
    refine loop_to _ (fun s : List api_Act × Int => 0 ≤ s.2 ∧ s.2 ≤ l.length ∧ s.1 = actsTo l locs s.2.toNat) (fun s => ((l.length : Int) - s.2).toNat) ?_ ([], 0) ⟨by omega, by omega, rfl⟩
    rintro ⟨o, i⟩ ⟨h0, h1, h2⟩
    simp only at h0 h1 h2
    obtain ⟨i, rfl⟩ := Int.eq_ofNat_of_zero_le h0
    rw [Int.toNat_natCast] at h2
    unfold selvageref16_Acts.l0
    simp only []
    by_cases hi : (i : Int) < l.length
    · left
      have hw : wrap64 ((i : Int) + 1) = (i : Int) + 1 := w64 (by omega)
      have hlen : o.length ≤ 100 := by rw [h2]; have := actsTo_len l locs i; omega
      refine ⟨(actsTo l locs (i + 1), (i : Int) + 1), ?_, ⟨by simp only []; omega, by simp only []; omega, by simp only []; rw [show ((i : Int) + 1).toNat = i + 1 by omega]⟩, by simp only []; omega⟩
      rw [if_pos (by simpa using hi), if_pos ⟨h0, hi⟩, atomic_eq, paired_eq hl hk h0 hi, hw, lone_eq hl hk o i (by omega)]
      simp only [Option.bind_some, push_eq _ hlen]
      rw [actsTo_succ, ← h2]
      unfold actOf
      simp only []
      generalize (decide ((gi l (i : Int)).Loc ≥ 0) && decide ((gi l (i : Int)).Loc < (locs.length : Int)) && (gi locs (gi l (i : Int)).Loc).Atomic) = at_
      by_cases k6 : (gi l (i : Int)).Kind = 6
      · simp [k6]
      by_cases k1 : (gi l (i : Int)).Kind = 1
      · have hp : ¬ pr l (i : Int) = true := fun h => by have := (pr_iff.1 h).1; omega
        by_cases hh : hits l (i : Int) l.length = 0
        · cases at_ <;> simp [hp, k1, hh, show wrap64 3 = 3 from rfl]
        · cases at_ <;> simp [hp, k1, hh]
      by_cases hp : pr l (i : Int) = true
      · obtain ⟨p0, p1, p2, _⟩ := pr_iff.1 hp
        have hwp : wrap64 ((gi l (i : Int)).Pair - 1) = (gi l (i : Int)).Pair - 1 := w64 (by omega)
        rw [hwp, if_pos (show 0 ≤ (gi l (i : Int)).Pair - 1 ∧ (gi l (i : Int)).Pair - 1 < (l.length : Int) by omega)]
        cases at_ <;> simp [hp, p0]
      by_cases k2 : (gi l (i : Int)).Kind = 2
      · cases at_ <;> simp [hp, k2, show wrap64 4 = 4 from rfl]
      · simp [k6, hp, k1, k2]
    · right
      rw [if_neg (by simpa using hi)]
      have : i = l.length := by omega
      subst this
      rw [h2]; rfl
  rw [this, Option.bind_some]
theorem sameacts_eq (a : List api_Act) (h : a.length ≤ 100) : selvageref08_Same.m a a = some true := by
  unfold selvageref08_Same.m
  rw [if_neg (by simp)]
  have : loop (selvageref08_Same.l0 a a) 0 = some (.inl ()) := by
    refine loop_to _ (fun i : Int => 0 ≤ i ∧ i ≤ a.length) (fun i : Int => ((a.length : Int) - i).toNat) ?_ 0 ⟨by omega, by omega⟩
    rintro i ⟨h0, h1⟩
    unfold selvageref08_Same.l0
    by_cases hi : i < a.length
    · left
      refine ⟨i + 1, ?_, ⟨by omega, by omega⟩, by omega⟩
      rw [if_pos (by simpa using hi), if_pos ⟨h0, hi⟩, if_pos ⟨h0, hi⟩, if_neg (by simp), w64 (by omega)]
    · right
      rw [if_neg (by simpa using hi)]; rfl
  rw [this]; rfl
end
theorem pureThreadActs (a0 : List api_Event) (a1 : List api_Loc) {p q : Prop} (w0 : p ∧ ∀ x ∈ a0, evOk x) (w1 : q) : selvagelaw16_ThreadActs.m a0 a1 = some true := by
  unfold selvagelaw16_ThreadActs.m
  rw [awake_eq]
  simp only [Option.bind_some, Bool.not_true, Bool.false_eq_true, if_false]
  by_cases hl : a0.length > 100
  · rw [if_pos (by simp; omega)]
  have hk : ∀ x ∈ a0, x.Pair ≤ 9223372036854775807 := fun x hx => by
    have := (w0.2 x hx).2.2.2.1
    simp [Lit.wf, IntKind.max, IntKind.bits, IntKind.signed] at this
    omega
  have hlen := actsTo_len a0 a1 a0.length
  rw [if_neg (by simp; omega), acts_eq (by omega), Option.bind_some, refacts_eq (by omega) hk, Option.bind_some, sameacts_eq _ (by omega)]
  rfl
end Go.Proofs.Ytcnchjlomcafeaa.W
