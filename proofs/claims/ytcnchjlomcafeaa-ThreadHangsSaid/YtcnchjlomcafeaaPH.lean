/- Chapter 16: what hangs on what, as it goes on. -/
import Derived.Test.YtcnchjlomcafeaaPU
import Derived.Test.YtcnchjlomcafeaaPBits
set_option linter.unusedVariables false
set_option linter.unusedSimpArgs false
namespace Go.Proofs.Ytcnchjlomcafeaa.W
open Go Go.RowKit Go.Proofs.Ytcnchjlomcafeaa.B

/-- A mask of reads of a list of events. -/
structure MK (out : List api_Event) (h : Int) : Prop where
  W : W64 h
  at_ : ∀ k, bt h k = true → k < out.length ∧ (gi out k).Kind = 1
theorem MK.zero (out : List api_Event) : MK out 0 := ⟨W_zero, fun k h => by rw [bt_zero] at h; cases h⟩
theorem MK.uni {out : List api_Event} {a b : Int} (ha : MK out a) (hb : MK out b) : MK out (uni a b) :=
  ⟨or_W ha.W hb.W, fun k h => by
    have h1 := bt_or ha.W hb.W k
    rw [show bits .or .u64 a b = W.uni a b from rfl, h] at h1
    cases h2 : bt a k
    · rw [h2, Bool.false_or] at h1; exact hb.at_ k h1.symm
    · exact ha.at_ k h2⟩
theorem MK.more {out : List api_Event} {h : Int} (m : MK out h) (e : api_Event) : MK (out ++ [e]) h :=
  ⟨m.W, fun k hk => by
    obtain ⟨h1, h2⟩ := m.at_ k hk
    exact ⟨by simp; omega, by rw [gi_append_left (by omega) (by omega)]; exact h2⟩⟩
def nreads (l : List api_Event) : Nat := (l.filter fun e => decide (e.Kind = 1)).length
theorem nreads_app (l : List api_Event) (e : api_Event) : nreads (l ++ [e]) = nreads l + if e.Kind = 1 then 1 else 0 := by
  unfold nreads
  rw [List.filter_append, List.length_append]
  by_cases h : e.Kind = 1 <;> simp [h]
structure EvOk (ans : List Int) (locs : Int) (pre : List api_Event) (e : api_Event) : Prop where
  addr : MK pre e.Addr
  data : MK pre e.Data
  ctrl : MK pre e.Ctrl
  fenced : MK pre e.Fenced
  sub : ∀ k, bt e.Fenced k = true → bt e.Ctrl k = true
  high : e.Kind > 2 → e.Addr = 0 ∧ e.Loc = 0
  loc : e.Kind = 1 ∨ e.Kind = 2 → 0 ≤ e.Loc ∧ e.Loc < locs
  read : e.Kind = 1 → ∃ h : nreads pre < ans.length, ans[nreads pre] = e.Val
  pair : e.Pair ≠ 0 → e.Kind = 2 ∧ 1 ≤ e.Pair ∧ e.Pair ≤ pre.length ∧ (gi pre (e.Pair - 1)).Kind = 1 ∧ (gi pre (e.Pair - 1)).Loc = e.Loc
def Good (ans : List Int) (locs : Int) (out : List api_Event) : Prop := ∀ i (h : i < out.length), EvOk ans locs (out.take i) out[i]
theorem Good.app {ans : List Int} {locs : Int} {out : List api_Event} {e : api_Event} (h : Good ans locs out) (k : EvOk ans locs out e) : Good ans locs (out ++ [e]) := by
  intro i hi
  simp only [List.length_append, List.length_singleton] at hi
  rcases (by omega : i < out.length ∨ i = out.length) with h1 | rfl
  · rw [List.getElem_append_left h1, List.take_append_of_le_length (by omega)]; exact h i h1
  · rw [List.getElem_append_right (by omega)]; simp only [Nat.sub_self, List.getElem_singleton, List.take_left']; exact k
/-- What holds all along. -/
structure Inv (ans : List Int) (locs : Int) (t : Thr) : Prop where
  len : t.out.length ≤ 64
  lo : 0 ≤ t.locs ∧ t.locs ≤ 16
  eqL : t.locs = locs
  regs : ∀ i : Int, 0 ≤ i → i < 32 → MK t.out (vg t.regs i).hang
  stack : ∀ i : Int, 0 ≤ i → i < 400 → MK t.out (vg t.stack i).hang
  held : MK t.out t.held
  ctrl : MK t.out t.ctrl
  fenced : MK t.out t.fenced
  sub : ∀ k, bt t.fenced k = true → bt t.ctrl k = true
  hold : t.hold ≥ 0 → 0 ≤ t.event ∧ t.event < t.out.length ∧ (gi t.out t.event).Kind = 1 ∧ (gi t.out t.event).Loc = t.hold
  left : t.answers = ans.drop (nreads t.out)
  good : Good ans locs t.out
section
variable {ans : List Int} {locs : Int}
abbrev IP (ans : List Int) (locs : Int) : Int → Thr → Prop := fun _ u => Inv ans locs u
theorem Inv.app {t : Thr} {e : api_Event} (v : Inv ans locs t) (hl : t.out.length < 64) (hk : e.Kind ≠ 1) (he : EvOk ans locs t.out (telE t e)) : Inv ans locs { t with out := t.out ++ [telE t e] } where
  len := by simp; omega
  lo := v.lo
  eqL := v.eqL
  regs i h0 h1 := (v.regs i h0 h1).more _
  stack i h0 h1 := (v.stack i h0 h1).more _
  held := v.held.more _
  ctrl := v.ctrl.more _
  fenced := v.fenced.more _
  sub := v.sub
  hold h := by
    obtain ⟨h1, h2, h3, h4⟩ := v.hold h
    refine ⟨h1, by simp; omega, ?_, ?_⟩ <;> rw [gi_append_left h1 h2] <;> assumption
  left := by
    have := nreads_app t.out (telE t e)
    rw [if_neg (show ¬ (telE t e).Kind = 1 from hk)] at this
    simp only [this, Nat.add_zero]; exact v.left
  good := v.good.app he
theorem says_inv {t : Thr} {e : api_Event} {f : Thr → Thr} (v : Inv ans locs t) (hk : e.Kind > 2) (h0 : e.Addr = 0 ∧ e.Data = 0 ∧ e.Loc = 0 ∧ e.Pair = 0) (hf : ∀ u, Inv ans locs u → Inv ans locs (f u)) : Out (IP ans locs) (IP ans locs) (says t e f) := by
  unfold says
  cases ht : tel t e with
  | inl q => rw [tel_stop ht]; exact v
  | inr u =>
    obtain ⟨rfl, hl⟩ := tel_fwd v.len ht
    refine hf _ (v.app hl (by omega) ⟨?_, ?_, v.ctrl, v.fenced, v.sub, fun _ => ⟨h0.1, h0.2.2.1⟩, fun h => ?_, fun h => ?_, fun h => ?_⟩)
    · show MK t.out e.Addr; rw [h0.1]; exact .zero _
    · show MK t.out e.Data; rw [h0.2.1]; exact .zero _
    · have : e.Kind = 1 ∨ e.Kind = 2 := h; omega
    · have : e.Kind = 1 := h; omega
    · exact absurd h0.2.2.2 h
theorem setR_inv {t : Thr} {i : Int} {c : thread_cell} (v : Inv ans locs t) (hi : 0 ≤ i ∧ i < 32) (hc : MK t.out c.hang) : Inv ans locs (setR t i c) := by
  have hr : ∀ j : Int, 0 ≤ j → j < 32 → MK t.out (vg (vp t.regs i c) j).hang := fun j h0 h1 => by
    rw [vg_vp _ _ _ _ hi.1 (by omega) h0]
    split
    · exact hc
    · exact v.regs j h0 h1
  exact { v with regs := hr }
theorem lod_inv {t : Thr} {x : api_Inst} {a : thread_cell} (v : Inv ans locs t) (hT : 0 ≤ x.T ∧ x.T < 32) (ha : MK t.out a.hang) : Out (IP ans locs) (IP ans locs) (lod t x a) := by
  unfold lod
  cases hp : plc t.locs t.base a.n with
  | none => exact v
  | some p =>
    have hb := plc_bound v.lo hp
    simp only []
    refine ifO (fun hneg => ?_) fun hneg => ?_
    · have h1 := setR_inv (c := ⟨(vg t.stack (wrap64 (-1 - p))).n, uni (vg t.stack (wrap64 (-1 - p))).hang a.hang⟩) v hT ((v.stack _ (by omega) (by omega)).uni ha)
      show Inv ans locs _
      refine { h1 with hold := fun h => ?_ }
      by_cases h14 : x.Op = 14
      · simp [h14] at h
      · simp only [h14, if_false] at h ⊢; exact v.hold h
    · have hans := v.left
      cases hh : t.answers with
      | nil => exact v
      | cons n r =>
        simp only []
        cases ht : tel t ⟨1, p, n, 0, a.hang, 0, 0, 0⟩ with
        | inl q => rw [tel_stop ht]; exact v
        | inr u =>
          obtain ⟨rfl, hl⟩ := tel_fwd v.len ht
          show Inv ans locs _
          have hlt : nreads t.out < ans.length := by
            rcases Nat.lt_or_ge (nreads t.out) ans.length with h | h
            · exact h
            · rw [hh, List.drop_eq_nil_of_le h] at hans; cases hans
          rw [hh, List.drop_eq_getElem_cons hlt] at hans
          have hev : EvOk ans locs t.out (telE t ⟨1, p, n, 0, a.hang, 0, 0, 0⟩) :=
            ⟨ha, .zero _, v.ctrl, v.fenced, v.sub, fun h => absurd h (by show ¬ (1 : Int) > 2; decide), fun _ => ⟨by show 0 ≤ p; omega, by show p < locs; rw [← v.eqL]; omega⟩, fun _ => ⟨hlt, by injection hans with h1 h2; exact h1.symm⟩, fun h => absurd rfl h⟩
          have hb1 : MK (t.out ++ [telE t ⟨1, p, n, 0, a.hang, 0, 0, 0⟩]) (b1 (t.out.length : Int)) :=
            ⟨b1_W _, fun k hk => by
              rw [bt_b1 hl] at hk
              have : t.out.length = k := by simpa using hk
              subst this
              exact ⟨by simp, by rw [gi_append_at rfl]; rfl⟩⟩
          unfold b1 at hb1
          have hr : ∀ j : Int, 0 ≤ j → j < 32 → MK (t.out ++ [telE t ⟨1, p, n, 0, a.hang, 0, 0, 0⟩]) (vg (vp t.regs x.T ⟨n, (1 * 2 ^ (min (((t.out.length : Int)) % 18446744073709551616).toNat 64)) % 18446744073709551616⟩) j).hang := fun j h0 h1 => by
            rw [vg_vp _ _ _ _ hT.1 (by omega) h0]
            split
            · exact hb1
            · exact (v.regs j h0 h1).more _
          have h1 := nreads_app t.out (telE t ⟨1, p, n, 0, a.hang, 0, 0, 0⟩)
          rw [if_pos (show (telE t ⟨1, p, n, 0, a.hang, 0, 0, 0⟩).Kind = 1 from rfl)] at h1
          refine ⟨by simp; omega, v.lo, v.eqL, hr, fun i h0 h1 => (v.stack i h0 h1).more _, v.held.more _, v.ctrl.more _, v.fenced.more _, v.sub, fun h => ?_, ?_, v.good.app hev⟩
          · by_cases h14 : x.Op = 14
            · simp only [h14, if_true] at h ⊢
              refine ⟨by omega, by simp; omega, ?_, ?_⟩ <;> rw [gi_append_at rfl] <;> rfl
            · simp only [h14, if_false] at h ⊢
              obtain ⟨h1, h2, h3, h4⟩ := v.hold h
              refine ⟨h1, by simp; omega, ?_, ?_⟩ <;> rw [gi_append_left h1 h2] <;> assumption
          · show r = List.drop (nreads (t.out ++ [telE t ⟨1, p, n, 0, a.hang, 0, 0, 0⟩])) ans
            rw [h1]; injection hans
theorem sto_inv {t : Thr} {x : api_Inst} {a : thread_cell} (v : Inv ans locs t) (hT : 0 ≤ x.T ∧ x.T < 32) (ha : MK t.out a.hang) : Out (IP ans locs) (IP ans locs) (sto t x a) := by
  unfold sto
  cases hp : plc t.locs t.base a.n with
  | none => exact v
  | some p =>
    have hb := plc_bound v.lo hp
    have hv := v.regs x.T hT.1 hT.2
    simp only []
    refine ifO (fun h15 => ?_) fun h15 => ?_
    · refine ifO (fun hh => ?_) fun hh => ?_
      · cases ht : tel t ⟨2, p, (vg t.regs x.T).n, wrap64 (t.event + 1), a.hang, (vg t.regs x.T).hang, 0, 0⟩ with
        | inl q => rw [tel_stop ht]; exact v
        | inr u =>
          obtain ⟨rfl, hl⟩ := tel_fwd v.len ht
          obtain ⟨e1, e2, e3, e4⟩ := v.hold (by omega)
          have hw : wrap64 (t.event + 1) = t.event + 1 := w64 (by omega)
          have hev : EvOk ans locs t.out (telE t ⟨2, p, (vg t.regs x.T).n, wrap64 (t.event + 1), a.hang, (vg t.regs x.T).hang, 0, 0⟩) :=
            ⟨ha, hv, v.ctrl, v.fenced, v.sub, fun h => absurd h (by show ¬ (2 : Int) > 2; decide), fun _ => ⟨by show 0 ≤ p; omega, by show p < locs; rw [← v.eqL]; omega⟩, fun h => absurd h (by show ¬ (2 : Int) = 1; decide), fun _ => by
              show (2 : Int) = 2 ∧ 1 ≤ wrap64 (t.event + 1) ∧ wrap64 (t.event + 1) ≤ t.out.length ∧ (gi t.out (wrap64 (t.event + 1) - 1)).Kind = 1 ∧ (gi t.out (wrap64 (t.event + 1) - 1)).Loc = p
              rw [hw, show t.event + 1 - 1 = t.event by omega]
              exact ⟨rfl, by omega, by omega, e3, by rw [e4]; exact hh.2.symm⟩⟩
          have h1 := v.app hl (by show (2 : Int) ≠ 1; decide) hev
          exact { h1 with held := .zero _, hold := fun h => absurd h (by show ¬ (-1 : Int) ≥ 0; decide) }
      · show Inv ans locs _
        exact { v with held := .zero _, hold := fun h => absurd h (by show ¬ (-1 : Int) ≥ 0; decide) }
    · refine ifO (fun hneg => ?_) fun hneg => ?_
      · show Inv ans locs _
        have hr : ∀ j : Int, 0 ≤ j → j < 400 → MK t.out (vg (vp t.stack (wrap64 (-1 - p)) ⟨(vg t.regs x.T).n, uni (vg t.regs x.T).hang a.hang⟩) j).hang := fun j h0 h1 => by
          rw [vg_vp _ _ _ _ (by omega) (by omega) h0]
          split
          · exact hv.uni ha
          · exact v.stack j h0 h1
        exact { v with stack := hr }
      · cases ht : tel t ⟨2, p, (vg t.regs x.T).n, 0, a.hang, (vg t.regs x.T).hang, 0, 0⟩ with
        | inl q => rw [tel_stop ht]; exact v
        | inr u =>
          obtain ⟨rfl, hl⟩ := tel_fwd v.len ht
          exact v.app hl (by show (2 : Int) ≠ 1; decide) ⟨ha, hv, v.ctrl, v.fenced, v.sub, fun h => absurd h (by show ¬ (2 : Int) > 2; decide), fun _ => ⟨by show 0 ≤ p; omega, by show p < locs; rw [← v.eqL]; omega⟩, fun h => absurd h (by show ¬ (2 : Int) = 1; decide), fun h => absurd rfl h⟩
theorem cal_inv {t : Thr} (v : Inv ans locs t) : Out (IP ans locs) (IP ans locs) (cal t) := by
  unfold cal
  exact ifO (fun _ => v) fun _ => ifO (fun _ => says_inv v (by show (6 : Int) > 2; decide) ⟨rfl, rfl, rfl, rfl⟩ fun u h => h) fun _ => ifO (fun _ => v) fun _ => ifO (fun _ => v) fun _ => v
theorem cstep_inv {t : Thr} {x : api_Inst} (v : Inv ans locs t) (hx : OkI x) : Out (IP ans locs) (IP ans locs) (cstep t x) := by
  have ha := v.regs x.A hx.A.1 hx.A.2
  have hb := v.regs x.B hx.B.1 hx.B.2
  have hz : MK t.out (zof t x).hang := by
    unfold zof
    split
    · exact .zero _
    · exact ha
  unfold cstep
  refine ifO (fun _ => setR_inv v hx.T hz) fun _ => ifO (fun _ => setR_inv v hx.T hz) fun _ => ifO (fun _ => setR_inv v hx.T ha) fun _ => ifO (fun _ => setR_inv v hx.T ha) fun _ => ifO (fun _ => setR_inv v hx.T ha) fun _ => ?_
  refine ifO (fun _ => setR_inv v hx.T (ha.uni hb)) fun _ => ifO (fun _ => setR_inv v hx.T (ha.uni hb)) fun _ => ifO (fun _ => setR_inv v hx.T (ha.uni hb)) fun _ => ifO (fun _ => setR_inv v hx.T (ha.uni hb)) fun _ => ?_
  refine ifO (fun _ => ?_) fun _ => ifO (fun _ => ?_) fun _ => ?_
  · show Inv ans locs _; exact { v with held := ha.uni hb }
  · show Inv ans locs _; exact { v with held := ha }
  refine ifO (fun _ => lod_inv v hx.T hz) fun _ => ifO (fun _ => sto_inv v hx.T hz) fun _ => ifO (fun _ => lod_inv v hx.T (hz.uni hb)) fun _ => ifO (fun _ => sto_inv v hx.T (hz.uni hb)) fun _ => ?_
  refine ifO (fun _ => ?_) fun _ => ifO (fun _ => v) fun _ => ?_
  · show Inv ans locs _
    have hr : ∀ k, bt t.fenced k = true → bt (uni t.ctrl t.held) k = true := fun k h => by
      have := bt_or v.ctrl.W v.held.W k
      rw [v.sub k h, Bool.true_or] at this; exact this
    exact { v with ctrl := v.ctrl.uni v.held, sub := hr }
  refine ifO (fun _ => says_inv v (by show (3 : Int) > 2; decide) ⟨rfl, rfl, rfl, rfl⟩ fun u h => h) fun _ => ifO (fun _ => says_inv v (by show (4 : Int) > 2; decide) ⟨rfl, rfl, rfl, rfl⟩ fun u h => h) fun _ => ifO (fun _ => says_inv v (by show (5 : Int) > 2; decide) ⟨rfl, rfl, rfl, rfl⟩ fun u h => ?_) fun _ => cal_inv v
  have hr : ∀ k, bt (uni u.fenced u.ctrl) k = true → bt u.ctrl k = true := fun k hk => by
    have := bt_or h.fenced.W h.ctrl.W k
    rw [show bits .or .u64 u.fenced u.ctrl = uni u.fenced u.ctrl from rfl, hk] at this
    cases h1 : bt u.fenced k
    · rw [h1, Bool.false_or] at this; exact this.symm
    · exact h.sub k h1
  exact { h with fenced := h.fenced.uni h.ctrl, sub := hr }
end
theorem cgo_good {ans : List Int} {locs : Int} (code : List api_Inst) (hc : code.all enc0 = true) : ∀ (k : Nat) (t : Thr) (i : Int), Inv ans locs t → Good ans locs (cgo code k t i).Events ∧ 0 ≤ (cgo code k t i).Status ∧ (cgo code k t i).Status ≤ 6 := by
  intro k
  induction k with
  | zero => intro t i v; refine ⟨v.good, ?_⟩; unfold cgo; simp only []; split <;> decide
  | succ k ih =>
    intro t i v
    unfold cgo
    split
    · exact ⟨v.good, by simp only []; omega⟩
    · rename_i hi
      have hok := enc0_ok (all_gi.1 hc i (by omega) (by omega))
      have hv := cstep_inv v hok
      have hf := cstep_fwd t (gi code i) v.len hok
      cases hq : cstep t (gi code i) with
      | inl q => rw [hq] at hv hf; exact ⟨Inv.good hv, by have := hf.2; simp only []; omega⟩
      | inr q => rw [hq] at hv; exact ih _ _ hv
theorem vg_rep {n : Nat} {c : thread_cell} {i : Int} (h0 : 0 ≤ i) (h1 : i < n) : vg (Vector.replicate n c) i = c := by
  have : i.toNat < n := by omega
  simp [vg, gi, this]
theorem clDo_good (code : List api_Inst) (locs dom : Int) (ans : List Int) : Good ans locs (clDo code locs dom ans).Events ∧ 0 ≤ (clDo code locs dom ans).Status ∧ (clDo code locs dom ans).Status ≤ 6 := by
  have nil : Good ans locs [] := fun i h => by simp at h
  unfold clDo
  split
  · exact ⟨nil, by decide⟩
  rename_i hd
  split
  · rename_i hc
    refine cgo_good code hc _ _ _ ⟨by simp [ini], by simp only [ini]; omega, rfl, fun i h0 h1 => ?_, fun i h0 h1 => ?_, .zero _, .zero _, .zero _, fun k h => ?_, fun h => absurd h (by show ¬ (-1 : Int) ≥ 0; decide), ?_, nil⟩
    · show MK [] (vg (α := thread_cell) (m := 32) (vp (vp (Vector.replicate 32 ⟨0, 0⟩) 1 ⟨1048576 + dom * 65536, 0⟩) 2 ⟨65536, 0⟩) i).hang
      rw [vg_vp _ _ _ _ (by decide) (by decide) h0, vg_vp _ _ _ _ (by decide) (by decide) h0, vg_rep h0 h1]
      split
      · exact .zero _
      · split <;> exact .zero _
    · show MK [] (vg (α := thread_cell) (Vector.replicate 400 ⟨0, 0⟩) i).hang
      rw [vg_rep h0 h1]; exact .zero _
    · rw [show (ini code locs dom ans).fenced = 0 from rfl, bt_zero] at h; cases h
    · simp [ini, nreads]
  · exact ⟨nil, by decide⟩
end Go.Proofs.Ytcnchjlomcafeaa.W
