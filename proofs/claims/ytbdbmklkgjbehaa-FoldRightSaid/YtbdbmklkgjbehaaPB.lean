/- PB: several texts in one. -/
import Derived.Test.YtbdbmklkgjbehaaPA
import Derived.Test.YtbdbmklkgjbehaaQA
import Derived.Test.YtbdbmklkgjbehaaQB
set_option linter.unusedVariables false
set_option linter.unusedSimpArgs false
set_option linter.unusedSectionVars false
namespace Go.Proofs.Ytbdbmklkgjbehaa.W
open Go Go.RowKit Go.Proofs.Ytbdbmklkgjbehaa Go.Proofs.Ytbdbmklkgjbehaa.X
open Go.Proofs.Ytbdbmklkgjbehaa.B (wr aget aset loop loop_in loop_out loop_tot aget_aset)

theorem gz_aset (m : Kn) (k a v : Int) : gz (aset m k v) a = if a = k then v else gz m a := by
  unfold gz
  rw [aget_aset]
  split <;> rfl
theorem ufl_spec : ∀ (ts : List Int) (us : Kn) (B : Int), (∀ a, 0 ≤ gz us a ∧ gz us a ≤ B) → B + ts.length < 1000000 → (∀ a, gz us a ≤ gz (ufl us ts) a) ∧ (∀ a ∈ ts, 0 < gz (ufl us ts) a) ∧ (∀ a, a ∉ ts → gz (ufl us ts) a = gz us a)
  | [], us, B, h, hB => ⟨fun a => Int.le_refl _, fun a ha => by simp at ha, fun a _ => rfl⟩
  | t :: r, us, B, h, hB => by
    have ht := h t
    simp only [List.length_cons] at hB
    have hw : wr .i64 (gz us t + 1) = gz us t + 1 := wr64 (by omega)
    have e : ufl us (t :: r) = ufl (aset us t (gz us t + 1)) r := by unfold ufl; rw [List.foldl_cons, hw]
    rw [e]
    have hb : ∀ a, 0 ≤ gz (aset us t (gz us t + 1)) a ∧ gz (aset us t (gz us t + 1)) a ≤ B + 1 := by
      intro a
      rw [gz_aset]
      have := h a
      split <;> omega
    obtain ⟨k1, k2, k3⟩ := ufl_spec r _ (B + 1) hb (by omega)
    have ge : ∀ a, gz us a ≤ gz (aset us t (gz us t + 1)) a := fun a => by
      rw [gz_aset]; split
      · rename_i c; subst c; omega
      · exact Int.le_refl _
    refine ⟨fun a => Int.le_trans (ge a) (k1 a), fun a ha => ?_, fun a ha => ?_⟩
    · rcases List.mem_cons.1 ha with rfl | ha
      · have := k1 a
        rw [gz_aset, if_pos rfl] at this
        omega
      · exact k2 a ha
    · simp only [List.mem_cons, not_or] at ha
      rw [k3 a ha.2, gz_aset, if_neg ha.1]
theorem ufold_eq : ∀ (L : List api_Ins) (us : Kn), ufold us L = ufl us (L.flatMap ust)
  | [], us => rfl
  | y :: r, us => by
    show ufold (ufl us (ust y)) r = _
    rw [ufold_eq r, List.flatMap_cons]
    unfold ufl
    rw [List.foldl_append]
theorem ust_len (x : api_Ins) : (ust x).length ≤ 2 := by unfold ust; split <;> split <;> simp
theorem flat_len : ∀ (L : List api_Ins), (L.flatMap ust).length ≤ 2 * L.length
  | [] => by simp
  | y :: r => by
    rw [List.flatMap_cons, List.length_append, List.length_cons]
    have := ust_len y
    have := flat_len r
    omega
theorem oc_mem : ∀ {t : Tr} {a : Int}, a ∈ ocT t ↔ ∃ x ∈ t.ps, a ∈ ust x
  | .nil, a => by simp [ocT, Tr.ps]
  | .node y nx sd, a => by
    simp only [ocT, Tr.ps, List.mem_append, List.mem_cons, oc_mem (t := nx), oc_mem (t := sd)]
    constructor
    · rintro (h | ⟨x, h1, h2⟩ | ⟨x, h1, h2⟩)
      · exact ⟨y, .inl rfl, h⟩
      · exact ⟨x, .inr (.inl h1), h2⟩
      · exact ⟨x, .inr (.inr h1), h2⟩
    · rintro ⟨x, rfl | h1 | h1, h2⟩
      · exact .inl h2
      · exact .inr (.inl ⟨x, h1, h2⟩)
      · exact .inr (.inr ⟨x, h1, h2⟩)
def usT (t : Tr) : Kn := ufold [] (vs t)
def knT (t : Tr) : Kn := kfold [] (vs t)
theorem us_0 {t : Tr} (h : t.size ≤ 1000) (a : Int) : gz (usT t) a = 0 ↔ a ∉ ocT t := by
  have hl := flat_len (vs t)
  rw [vs_len] at hl
  obtain ⟨k1, k2, k3⟩ := ufl_spec ((vs t).flatMap ust) [] 0 (fun a => ⟨Int.le_refl _, Int.le_refl _⟩) (by omega)
  have hm : a ∈ (vs t).flatMap ust ↔ a ∈ ocT t := by
    rw [List.mem_flatMap, oc_mem]
    exact ⟨fun ⟨x, h1, h2⟩ => ⟨x, vs_mem.1 h1, h2⟩, fun ⟨x, h1, h2⟩ => ⟨x, vs_mem.2 h1, h2⟩⟩
  unfold usT
  rw [ufold_eq, ← hm]
  constructor
  · intro h0 h1
    have := k2 a h1; omega
  · intro h1
    rw [k3 a h1]; rfl
theorem kf_1 : ∀ (L : List api_Ins) (kn : Kn) (a k : Int), aget (kfold kn L) a = some k → aget kn a = some k ∨ ∃ y ∈ L, y.Op = 1 ∧ y.D = a ∧ y.K = k
  | [], kn, a, k, h => .inl h
  | y :: r, kn, a, k, h => by
    rcases kf_1 r (kn1 y kn) a k h with h | ⟨z, h1, h2⟩
    · unfold kn1 at h
      split at h
      · rename_i c
        rw [aget_aset] at h
        split at h
        · rename_i d
          exact .inr ⟨y, by simp, c, d.symm, by simpa using h⟩
        · exact .inl h
      · exact .inl h
    · exact .inr ⟨z, by simp [h1], h2⟩
theorem kf_2 {a k : Int} : ∀ (L : List api_Ins) (kn : Kn), (∀ z ∈ L, z.Op = 1 → z.D = a → z.K = k) → (aget kn a = some k ∨ ∃ y ∈ L, y.Op = 1 ∧ y.D = a) → aget (kfold kn L) a = some k
  | [], kn, _, h => h.elim id fun ⟨y, h, _⟩ => by simp at h
  | y :: r, kn, hu, h => by
    refine kf_2 r (kn1 y kn) (fun z hz => hu z (by simp [hz])) ?_
    by_cases c : y.Op = 1 ∧ y.D = a
    · left
      unfold kn1
      rw [if_pos c.1, aget_aset, if_pos c.2.symm, hu y (by simp) c.1 c.2]
    · rcases h with h | ⟨z, h1, h2, h3⟩
      · left
        unfold kn1
        split
        · rename_i d
          rw [aget_aset, if_neg (fun e => c ⟨d, e.symm⟩)]; exact h
        · exact h
      · right
        rcases List.mem_cons.1 h1 with rfl | h1
        · exact absurd ⟨h2, h3⟩ c
        · exact ⟨z, h1, h2, h3⟩
theorem kn_some {t : Tr} {a k : Int} (h : aget (knT t) a = some k) : ∃ y ∈ t.ps, y.Op = 1 ∧ y.D = a ∧ y.K = k := by
  rcases kf_1 _ _ _ _ h with h | ⟨y, h1, h2⟩
  · cases h
  · exact ⟨y, vs_mem.1 h1, h2⟩
theorem kn_of {t : Tr} (hu : UQ t) {y : api_Ins} (hy : y ∈ t.ps) (h1 : y.Op = 1) : aget (knT t) y.D = some y.K :=
  kf_2 _ _ (fun z hz z1 z2 => by rw [hu z (vs_mem.1 hz) y hy (mks_tt (.inl z1)) (mks_tt (.inl h1)) z2]) (.inr ⟨y, vs_mem.2 hy, h1, rfl⟩)
theorem wt_pq {l : List api_Loc} : ∀ {t : Tr} {mk : List Int}, WT l mk t → ∀ x ∈ t.ps, PQ x l
  | .nil, mk, _, x, hx => by simp [Tr.ps] at hx
  | .node y nx sd, mk, hW, x, hx => by
    obtain ⟨w1, w2, w3, w4, w5⟩ := hW
    simp only [Tr.ps, List.mem_cons, List.mem_append] at hx
    rcases hx with rfl | hx | hx
    · exact w1
    · exact wt_pq w4 x hx
    · exact wt_pq w5 x hx
structure Gd (l : List api_Loc) (N : Nat) (tc t : Tr) : Prop where
  w : WT l [] t
  f : Full t
  nd : (mkT t).Nodup
  ne : t ≠ .nil
  sz : t.size ≤ N
  gn : ∀ x ∈ t.ps, GN t x
  run : ∀ ans, trun t (Arr.r 400 (0 : Int)) ans [] = trun tc (Arr.r 400 (0 : Int)) ans []
theorem Gd.op {l : List api_Loc} {N : Nat} {tc t : Tr} (h : Gd l N tc t) : ∀ x ∈ t.ps, isOp x.Op = true := fun x hx => (wt_pq h.w x hx).op
theorem gd_fold {C : List api_Ins} {l : List api_Loc} (hR : RP C l) : Gd l C.length (ctree C 1000 0) (fold (ctree C 1000 0) []).1 := by
  have hn := hR.n
  obtain ⟨h1, h2, h3, h4, h5⟩ := ctree_all hR (n := 1000) (by omega)
  obtain ⟨k1, k2, k3, k4⟩ := fold_ok (ctree C 1000 0) [] [] h1 h2
  have hnd := k3.nodup h3
  have hdj : ∀ t : Tr, (mkT t).Nodup → DJ [] t := fun t h => ⟨fun a ha => by simp at ha, h⟩
  exact ⟨k1, k2, hnd, fold_nn _ _ h2 h5, by omega, nr_glob (uq_of hnd) _ [] [] (fun x hx => hx) k1 (hdj _ hnd) (fold_nr _ _) (fun y _ _ h => by simp at h),
    fun ans => fold_run _ [] [] _ ans [] h1 (hdj _ h3) (fun a k h => by cases h)⟩
theorem gd_trim {l : List api_Loc} {N : Nat} {tc t : Tr} (h : Gd l N tc t) (hN : N ≤ 400) : Gd l N tc (trim (usT t) (knT t) t).1 := by
  have hs := h.sz
  have hO : ∀ x ∈ t.ps, idl (usT t) (knT t) x = true → x.D ∉ ocT t := fun x hx c => (us_0 (by omega) x.D).1 (idl_c c).2.1
  have hK : ∀ x ∈ t.ps, idl (usT t) (knT t) x = true → x.Op = 5 → ∃ y ∈ t.ps, y.Op = 1 ∧ y.D = x.B ∧ y.K ≠ 0 := fun x hx c d => by
    have hz := (idl_c c).2.2 d
    unfold gz at hz
    cases e : aget (knT t) x.B with
    | none => rw [e] at hz; exact absurd rfl hz
    | some k =>
      rw [e] at hz
      obtain ⟨y, y1, y2, y3, y4⟩ := kn_some e
      exact ⟨y, y1, y2, y3, by rw [y4]; exact hz⟩
  obtain ⟨k1, k2, k3, k4, k5⟩ := trim_ok (O := ocT t) t [] [] h.w h.f (fun a ha _ => ha) (fun a ha => ha) hO
  have hdj : DJ [] t := ⟨fun a ha => by simp at ha, h.nd⟩
  exact ⟨k1, k2, k3.nodup h.nd, trim_nn t h.f h.ne, by omega, fun x hx => (h.gn x (k5.mem hx)).sub fun y hy => k5.mem hy,
    fun ans => (trim_run hO hK (uq_of h.nd) (wt_pq h.w) t [] _ _ ans [] (fun x hx => hx) (fun a ha => ha) h.w hdj (fun a _ _ => rfl) (fun y _ _ hm => by simp at hm)).trans (h.run ans)⟩
def LS (t : Tr) : Prop := ∀ x ∈ t.ps, idl (usT t) (knT t) x = false
theorem fold_loop {l : List api_Loc} {N : Nat} {tc : Tr} (hN : N ≤ 400) : ∀ (n : Nat) (t : Tr) (ar : List fold_node) (o : Option Nat) (k : Int), t.size ≤ n → Gd l N tc t → At ar 0 ar.length o t → 0 < k →
    Tot (fun r => ∃ t', Gd l N tc t' ∧ LS t' ∧ At r.1 0 r.1.length r.2 t') (loop fold_Fold.l1 (ar, o, k))
  | 0, t, ar, o, k, h, hG, _, _ => by have := Tr.size_pos hG.ne; omega
  | n + 1, t, ar, o, k, h, hG, hA, hk => by
    have hs := hG.sz
    have hc : fold_node_count.m o ([] : List (Int × Int)) ([] : List (Int × Int)) ar = some (usT t, knT t) := count_r 1000 t 0 ar.length o [] [] (by omega) hG.op hA
    obtain ⟨r, e, r1, r2, r3, r4⟩ := trim_r (us := usT t) (kn := knT t) 1000 t 0 ar.length o ar (by omega) (by omega) hA
    have hG' := gd_trim hG hN
    have hsz : (trim (usT t) (knT t) t).1.size + (trim (usT t) (knT t) t).2 ≤ t.size := by
      have hO : ∀ x ∈ t.ps, idl (usT t) (knT t) x = true → x.D ∉ ocT t := fun x hx c => (us_0 (by omega) x.D).1 (idl_c c).2.1
      exact (trim_ok (O := ocT t) t [] [] hG.w hG.f (fun a ha _ => ha) (fun a ha => ha) hO).2.2.2.1
    rw [← r3] at r2
    have hst : fold_Fold.l1 (ar, o, k) = some (.inl (r.1, r.2.1, r.2.2)) := by
      unfold fold_Fold.l1
      simp only
      rw [if_pos hk, hc, Option.bind_some, show fold_node_trim.m o (usT t) (knT t) ar = some r from e, Option.bind_some]
    rw [loop_in hst]
    by_cases c : (trim (usT t) (knT t) t).2 = 0
    · obtain ⟨c1, c2⟩ := trim_0 t c
      have hend : fold_Fold.l1 (r.1, r.2.1, r.2.2) = some (.inr (r.1, r.2.1)) := by
        unfold fold_Fold.l1
        simp only
        rw [if_neg (by rw [r1, c]; decide)]
      rw [loop_out hend]
      rw [c1] at r2
      exact .some ⟨t, hG, c2, r2⟩
    · exact fold_loop hN n _ r.1 r.2.1 r.2.2 (by omega) hG' r2 (by omega)
theorem right_long {C : List api_Ins} {l : List api_Loc} (h : 400 < C.length) : tree_Right.m C l = some false := by
  unfold tree_Right.m
  simp [show ¬ ((C.length : Int) < 1) by omega, show (C.length : Int) > 400 by omega, letC]
theorem fold_m {C : List api_Ins} {l : List api_Loc} (hl : l.length ≤ 16) : (¬ RP C l ∧ tree_Right.m C l = some false ∧ fold_Fold.m C l = some (.inr ())) ∨
    (RP C l ∧ ∃ t, fold_Fold.m C l = some (.inl (layT 0 t)) ∧ Gd l C.length (ctree C 1000 0) t ∧ LS t) := by
  unfold fold_Fold.m
  by_cases hn : C.length ≤ 400
  · obtain ⟨b, hb, hi⟩ := tree_right C l hn hl
    rw [hb, Option.bind_some]
    cases b with
    | false => exact .inl ⟨fun h => (by have := hi.2 h; cases this), rfl, rfl⟩
    | true =>
      have hR := hi.1 rfl
      refine .inr ⟨hR, ?_⟩
      rw [if_pos rfl]
      have hn := hR.n
      obtain ⟨r, e, g1, g2, g3, g4⟩ := grow_r hR 1000 0 [] [] (by omega) (by omega)
      rw [show fold_grow.m C 0 ([] : List (Int × Int)) ([] : List fold_node) = some r from e, Option.bind_some]
      have hG := gd_fold hR
      obtain ⟨q, e2, t, t1, t2, t3⟩ := fold_loop (l := l) (N := C.length) hn.2 (fold (ctree C 1000 0) []).1.size _ r.1 (some 0) 1 (Nat.le_refl _) hG g4 (by decide)
      rw [show loop fold_Fold.l1 ((r.1, (some ([] : List fold_node).length), 1) : (List fold_node) × (Option Nat) × Int) = some q from e2, Option.bind_some]
      have hsz := t1.sz
      have e3 := lay_r (ar := q.1) 1000 t 0 q.1.length q.2 [] 0 t1.ne (by omega) t3 rfl (by omega)
      rw [show fold_node_lay_2.m q.2 ([] : List api_Ins) (([] : List api_Ins).length) q.1 = some ([] ++ layT 0 t) from e3, Option.bind_some]
      exact ⟨t, rfl, t1, t2⟩
  · rw [right_long (by omega), Option.bind_some]
    exact .inl ⟨fun h => hn h.n.2, rfl, rfl⟩

theorem trun_len : ∀ (t : Tr) (T : Arr Int 400) (ans : List Int) (acts : List api_Act), (∀ x ∈ t.ps, isOp x.Op = true) → (trun t T ans acts).2.length ≤ acts.length + t.size
  | .nil, T, ans, acts, _ => by simp [trun]
  | .node x nx sd, T, ans, acts, h => by
    simp only [Tr.ps, List.mem_cons, List.mem_append] at h
    have hok := tstep_ok (h x (.inl rfl)) T ans acts
    simp only [trun, Tr.size]
    generalize tstep x T ans acts = z at hok
    cases z with
    | fin st ac => obtain ⟨_, rfl⟩ := hok; simp only; omega
    | nxt j T' an ac =>
      obtain ⟨_, _, r, rfl, hr⟩ := hok
      cases j with
      | true =>
        have := trun_len sd T' an (acts ++ r) (fun y hy => h y (.inr (.inr hy)))
        rw [List.length_append] at this
        simp only; omega
      | false =>
        have := trun_len nx T' an (acts ++ r) (fun y hy => h y (.inr (.inl hy)))
        rw [List.length_append] at this
        simp only; omega
section
variable {C : List api_Ins} {l : List api_Loc}
theorem run_of (hR : RP C l) (hl : l.length ≤ 16) {ans : List Int} {z : Int × List api_Act} (h : loop (tree_Run.l1 C) ((Arr.r 400 (0 : Int), ans, [], ((0 : Nat) : Int)) : (Arr Int 400) × (List Int) × (List api_Act) × Int) = some z) : tree_Run.m C l ans = some (.inl (z.2, z.1)) := by
  have hn := hR.n
  obtain ⟨b, hb, hi⟩ := tree_right C l hn.2 hl
  have hbt : b = true := hi.2 hR
  subst hbt
  unfold tree_Run.m
  rw [hb, Option.bind_some, if_pos rfl]
  rw [show loop (tree_Run.l1 C) (((Arr.r 400 (0 : Int) : Arr Int 400), ans, ([] : List api_Act), 0) : (Arr Int 400) × (List Int) × (List api_Act) × Int) = some z from h]; rfl
theorem run_code (hR : RP C l) (hl : l.length ≤ 16) (ans : List Int) : tree_Run.m C l ans = some (.inl ((trun (ctree C 1000 0) (Arr.r 400 (0 : Int)) ans []).2, (trun (ctree C 1000 0) (Arr.r 400 (0 : Int)) ans []).1)) := by
  have hn := hR.n
  exact run_of hR hl (run_ctree hR hl 1000 0 (by omega) (by omega) (Arr.r 400 (0 : Int)) ans [] (by simp))
theorem run_out (hl : l.length ≤ 16) {N : Nat} {tc t : Tr} (hG : Gd l N tc t) (hN : N ≤ 400) (ans : List Int) : RP (layT 0 t) l ∧ (layT 0 t).length = t.size ∧ tree_Run.m (layT 0 t) l ans = some (.inl ((trun tc (Arr.r 400 (0 : Int)) ans []).2, (trun tc (Arr.r 400 (0 : Int)) ans []).1)) := by
  have hs := hG.sz
  obtain ⟨h1, h2, h3⟩ := lay_rp hG.w hG.f hG.nd hG.ne (by omega)
  refine ⟨h1, h3, ?_⟩
  have := run_of h1 hl (run_lay h1 hl t 0 hG.ne hG.f h2 (Arr.r 400 (0 : Int)) ans [] (by simp))
  rw [hG.run] at this
  exact this
theorem run_len (hR : RP C l) (ans : List Int) : (trun (ctree C 1000 0) (Arr.r 400 (0 : Int)) ans []).2.length ≤ 1000 := by
  have hn := hR.n
  obtain ⟨h1, h2, h3, h4, h5⟩ := ctree_all hR (n := 1000) (by omega)
  have := trun_len (ctree C 1000 0) (Arr.r 400 (0 : Int)) ans [] (fun x hx => (wt_pq h1 x hx).op)
  simp only [List.length_nil] at this
  omega
theorem ref_rp (hC : C.length ≤ 410) (hl : l.length ≤ 16) : ∃ b, selvageref10_Right.m C l = some b ∧ (b = true ↔ RP C l) := by
  by_cases hn : C.length ≤ 400
  · obtain ⟨b, h1, h2⟩ := tree_right C l hn hl
    obtain ⟨b', k1, k2, k3⟩ := right_same C l hn hl
    rw [h1] at k1; cases k1
    exact ⟨b, k2, h2⟩
  · refine ⟨false, ?_, ⟨fun h => (by cases h), fun h => absurd h.n.2 hn⟩⟩
    unfold selvageref10_Right.m
    simp [show ¬ ((C.length : Int) < 1) by omega, show (C.length : Int) > 400 by omega, letC]
end

theorem pureFoldRight (a : List api_Ins) (l : List api_Loc) {p q : Prop} (w0 : p) (w1 : q) : selvagelaw12_FoldRight.m a l = some true := by
  suffices h : Tot (fun b => b = true) (selvagelaw12_FoldRight.m a l) by
    obtain ⟨b, e, rfl⟩ := h; exact e
  unfold selvagelaw12_FoldRight.m
  refine .bindE selvagelaw12_awake_eq (.tt rfl ?_)
  refine .bind (R := fun b => b = false → a.length ≤ 410 ∧ l.length ≤ 16) (.ite (fun h => .some fun e => by cases e) fun h => .some fun e => ?_) fun b hb => .ite (fun _ => .some rfl) fun hbf => ?_
  · have := of_decide_eq_false e
    exact ⟨by omega, by omega⟩
  obtain ⟨ha, hl⟩ := hb (by simpa using hbf)
  rcases fold_m (C := a) hl with ⟨hR, _, hf⟩ | ⟨hR, t, hf, hG, hS⟩
  · exact .bindE hf (.some rfl)
  · have hn := hR.n
    have hs := hG.sz
    obtain ⟨o1, o2, o3⟩ := run_out hl hG hn.2 []
    obtain ⟨b', hb1, hb2⟩ := ref_rp (C := layT 0 t) (by omega) hl
    have : b' = true := hb2.2 o1
    subst this
    exact .bindE hf (.bindE hb1 (.tt rfl (.some (decide_eq_true (by omega)))))
end Go.Proofs.Ytbdbmklkgjbehaa.W
