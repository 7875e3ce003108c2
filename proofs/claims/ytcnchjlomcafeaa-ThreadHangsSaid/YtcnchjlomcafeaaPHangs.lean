/- Chapter 16: ThreadHangs, in plain words. -/
import Derived.Test.YtcnchjlomcafeaaPH
import Derived.Test.YtcnchjlomcafeaaF23
set_option linter.unusedVariables false
set_option linter.unusedSimpArgs false
namespace Go.Proofs.Ytcnchjlomcafeaa.W
open Go Go.RowKit Go.Proofs.Ytcnchjlomcafeaa.B
theorem gi_take {l : List api_Event} {n : Nat} {i : Int} (h0 : 0 ≤ i) (h1 : i < n) : gi (l.take n) i = gi l i := by
  have : i.toNat < n := by omega
  simp [gi, List.getD_eq_getElem?_getD, List.getElem?_take, this]
section
variable {r : api_Run} {ans : List Int} {locs : Int}
theorem hangs_l1 (hg : Good ans locs r.Events) (n : Int) (i : Nat) (hi : i < r.Events.length) : loop (selvagelaw16_ThreadHangs.l1 r (n, (i : Int))) 0 = some (.inl ()) := by
  have he := hg i hi
  have hm : MK (r.Events.take i) (bits .or .u64 (bits .or .u64 (bits .or .u64 (gi r.Events i).Addr (gi r.Events i).Data) (gi r.Events i).Ctrl) (gi r.Events i).Fenced) := by
    rw [gi_nat _ _ hi]; exact ((he.addr.uni he.data).uni he.ctrl).uni he.fenced
  have hl : (r.Events.take i).length = i := by simp; omega
  refine loop_to _ (fun k : Int => 0 ≤ k ∧ k ≤ 64) (fun k : Int => (64 - k).toNat) ?_ 0 ⟨by omega, by omega⟩
  rintro k ⟨h0, h1⟩
  unfold selvagelaw16_ThreadHangs.l1
  by_cases hk : k < 64
  · left
    refine ⟨k + 1, ?_, ⟨by omega, by omega⟩, by omega⟩
    rw [if_pos (by simpa using hk)]
    simp only []
    have hb := ask_bit hm.W h0 hk
    rw [hb]
    have hw : wrap64 (k + 1) = k + 1 := w64 (by omega)
    cases hbt : bt (bits .or .u64 (bits .or .u64 (bits .or .u64 (gi r.Events i).Addr (gi r.Events i).Data) (gi r.Events i).Ctrl) (gi r.Events i).Fenced) k.toNat
    · simp [hw]
    · obtain ⟨h2, h3⟩ := hm.at_ k.toNat hbt
      rw [hl] at h2
      rw [gi_take (by omega) (by omega), show ((k.toNat : Nat) : Int) = k by omega] at h3
      rw [if_pos rfl, if_neg (by simp; omega), if_pos (by omega)]
      simp [h3, hw]
  · right
    rw [if_neg (by simpa using hk)]
    rfl
theorem hangs_l0 (hg : Good ans locs r.Events) (hl : r.Events.length ≤ 64) : loop (selvagelaw16_ThreadHangs.l0 locs ans r) (0, 0) = some (.inl ()) := by
  refine loop_to _ (fun s : Int × Int => 0 ≤ s.2 ∧ s.2 ≤ r.Events.length ∧ s.1 = nreads (r.Events.take s.2.toNat)) (fun s => ((r.Events.length : Int) - s.2).toNat) ?_ (0, 0) ⟨by omega, by omega, by simp [nreads]⟩
  rintro ⟨n, i⟩ ⟨h0, h1, h2⟩
  simp only at h0 h1 h2
  unfold selvagelaw16_ThreadHangs.l0
  simp only []
  by_cases hi : i < r.Events.length
  · left
    obtain ⟨j, rfl⟩ := Int.eq_ofNat_of_zero_le h0
    have hj : j < r.Events.length := by omega
    have he := hg j hj
    rw [Int.toNat_natCast] at h2
    have hpre : (r.Events.take j).length = j := by simp; omega
    rw [← gi_nat r.Events j hj] at he
    have hn1 : nreads (r.Events.take (j + 1)) = nreads (r.Events.take j) + if (gi r.Events j).Kind = 1 then 1 else 0 := by
      rw [List.take_succ_eq_append_getElem hj, nreads_app, gi_nat _ _ hj]
    have hnle : nreads (r.Events.take j) ≤ j := by
      have := List.length_filter_le (fun e : api_Event => decide (e.Kind = 1)) (r.Events.take j)
      rw [hpre] at this; exact this
    have hw : wrap64 ((j : Int) + 1) = (j : Int) + 1 := w64 (by omega)
    refine ⟨(nreads (r.Events.take (j + 1)), (j : Int) + 1), ?_, ⟨by simp only []; omega, by simp only []; omega, by simp only []; rw [show ((j : Int) + 1).toNat = j + 1 by omega]⟩, by simp only []; omega⟩
    rw [if_pos (by simpa using hi), if_pos ⟨h0, hi⟩, hangs_l1 hg n j hj]
    simp only [Option.bind_some]
    rw [if_neg ?_]
    · have hpair : (if (decide (((gi r.Events (j : Int)).Pair) = 0)) = true then (some false) else (if (decide (((gi r.Events (j : Int)).Kind) = 2)) = true then (if (decide (((gi r.Events (j : Int)).Pair) > (j : Int))) = true then (some true) else (if (decide (((gi r.Events (wrap64 (((gi r.Events (j : Int)).Pair) - 1))).Kind) = 1)) = true then (if 0 ≤ (wrap64 (((gi r.Events (j : Int)).Pair) - 1)) ∧ (wrap64 (((gi r.Events (j : Int)).Pair) - 1)) < (r.Events.length : Int) then (some (!decide (((gi r.Events (wrap64 (((gi r.Events (j : Int)).Pair) - 1))).Loc) = ((gi r.Events (j : Int)).Loc)))) else none) else (if 0 ≤ (wrap64 (((gi r.Events (j : Int)).Pair) - 1)) ∧ (wrap64 (((gi r.Events (j : Int)).Pair) - 1)) < (r.Events.length : Int) then (some true) else none))) else (some true)) : Option Bool) = some false := by
        by_cases hp : (gi r.Events (j : Int)).Pair = 0
        · rw [if_pos (by simpa using hp)]
        · obtain ⟨e1, e2, e3, e4, e5⟩ := he.pair hp
          rw [hpre] at e3
          rw [gi_take (by omega) (by omega)] at e4 e5
          have hwp : wrap64 ((gi r.Events (j : Int)).Pair - 1) = (gi r.Events (j : Int)).Pair - 1 := w64 (by omega)
          rw [if_neg (by simpa using hp), if_pos (by simpa using e1), if_neg (by simp; omega), hwp, if_pos (by simpa using e4), if_pos (by omega), e5]
          simp
      by_cases hk : (gi r.Events (j : Int)).Kind = 1
      · obtain ⟨h3, h4⟩ := he.read hk
        rw [if_pos (by simpa using hk), if_neg (by simp; omega), if_pos (by omega)]
        have h5 : gi ans n = (gi r.Events (j : Int)).Val := by
          rw [h2, gi_nat _ _ h3]; exact h4
        have hwn : wrap64 (n + 1) = n + 1 := w64 (by omega)
        simp only [h5, decide_true, Bool.not_true, Option.bind_some, Bool.false_eq_true, if_false, hwn]
        rw [hpair]
        simp only [Option.bind_some, Bool.false_eq_true, if_false, hw]
        rw [hn1, if_pos hk, h2]
        rfl
      · rw [if_neg (by simpa using hk)]
        simp only [Option.bind_some]
        rw [hpair]
        simp only [Option.bind_some, Bool.false_eq_true, if_false, hw]
        rw [hn1, if_neg hk, h2]
        rfl
    · have ha := andNot_zero he.fenced.W he.ctrl.W he.sub
      have hh := he.high
      have hlo := he.loc
      simp only [ha, decide_true, Bool.not_true, Bool.false_or, Bool.or_eq_true, Bool.and_eq_true, decide_eq_true_eq, Bool.not_eq_true', decide_eq_false_iff_not]
      rintro (⟨h3, h4⟩ | ⟨h3, h4⟩)
      · have := hh h3; omega
      · have := hlo h3; omega
  · right
    rw [if_neg (by simpa using hi)]
    rfl
end
theorem pureThreadHangs (a0 : List api_Inst) (a1 a2 : Int) (a3 : List Int) : selvagelaw16_ThreadHangs.m a0 a1 a2 a3 = some true := by
  unfold selvagelaw16_ThreadHangs.m
  rw [awake_eq]
  simp only [Option.bind_some, Bool.not_true, Bool.false_eq_true, if_false]
  by_cases hl : a0.length > 300 ∨ a3.length > 100
  · rw [if_pos (by simp; omega)]
  rw [if_neg (by simp; omega), do_eq _ _ _ _ (by omega), Option.bind_some]
  have hlen := clDo_len a0 a1 a2 a3
  obtain ⟨h1, h2, h3⟩ := clDo_good a0 a1 a2 a3
  rw [hangs_l0 h1 hlen]
  simp only [Option.bind_some]
  simp; omega
end Go.Proofs.Ytcnchjlomcafeaa.W
