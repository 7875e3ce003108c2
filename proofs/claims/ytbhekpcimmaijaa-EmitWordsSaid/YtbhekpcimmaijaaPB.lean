/- PB: several texts in one. -/
import Derived.Test.YtbhekpcimmaijaaPA
import Derived.Test.YtbhekpcimmaijaaQB
import Derived.Test.YtbhekpcimmaijaaQC
import Derived.Test.YtbhekpcimmaijaaQD
set_option linter.unusedVariables false
set_option linter.unusedSimpArgs false
set_option linter.unusedSectionVars false
namespace Go.Proofs.Ytbhekpcimmaijaa.W
open Go Go.RowKit Go.Proofs.Ytbhekpcimmaijaa Go.Proofs.Ytbhekpcimmaijaa.X
open Go.Proofs.Ytbhekpcimmaijaa.B (wr aget aset loop loop_in loop_out loop_tot qf flt i2f feq fls isnan)

theorem rext_eq (x : api_Ins) (out : List api_Home) (hd : 0 ≤ x.D ∧ x.D < 400) : loop (selvageref14_Homes.l3 x) ((out, out.length) : (List api_Home) × Nat) = some (ext out x.D, (ext out x.D).length) := ext_eq x out hd
section
variable {code : List api_Ins} {regs : Int} {i : Nat} {out : List api_Home} {act : List alloc_span} {slots : Int} {tab : List Int}
theorem TB.ext {now d : Int} (h : TB code regs i now tab out act) (ho : OI code regs i out slots) (hg : Good code code.length) (hi : i ≤ code.length) (ha : ∀ a ∈ act, ∃ j : Nat, j < i ∧ mks (gi code j) = true ∧ a = spn code j) : TB code regs i now tab (ext out d) act := by
  have hr : ∀ j : Nat, j < i → mks (gi code j) = true → reg (W.ext out d) (spn code j) = reg out (spn code j) := fun j hj hm => by
    unfold reg
    rw [(spn_t code j).1, gi_ext (hg j (by omega) hm).1, if_pos (ho.o2 j hj hm)]
  refine ⟨h.l, h.h0, fun r hr8 => ?_, fun a haa => ?_⟩
  · rcases h.h1 r hr8 with c | ⟨j, hj, hm, e, c⟩
    · exact .inl c
    · exact .inr ⟨j, hj, hm, e, c.imp (fun c => ⟨c.1, by rw [hr j hj hm]; exact c.2⟩) id⟩
  · obtain ⟨j, hj, hm, e⟩ := ha a haa
    have := h.h2 a haa
    rw [e] at this ⊢
    rw [hr j hj hm]; exact this
theorem TB.stepA (h : Ahd code regs i out act slots) (hT : TB code regs i (-1) tab out act) (hg : Good code code.length) (hf : (act.length : Int) < regs) (hr8 : regs ≤ 8) :
    TB code regs (i + 1) ((i + 1 : Nat) : Int) (tab.set (least act out).toNat (gi code i).D) (out.set (spn code i).temp.toNat ⟨least act out, 0⟩) (act ++ [spn code i]) := by
  obtain ⟨r, er, rl, rh⟩ := least_ok act out
  obtain ⟨d0, d4⟩ := h.d hg
  have hdl := h.dl
  have hl := hT.l
  rw [er]
  have hreg : ∀ {j : Nat}, j < i → mks (gi code j) = true → reg (out.set (spn code i).temp.toNat ⟨(r : Int), 0⟩) (spn code j) = reg out (spn code j) := fun {j} hj hm => by
    unfold reg
    rw [(spn_t code j).1, (spn_t code i).1, gi_setD d0 hdl (hg j (by have := h.hi; omega) hm).1 (h.o.o2 j hj hm), if_neg (h.ne hg hj hm)]
  have hregi : reg (out.set (spn code i).temp.toNat ⟨(r : Int), 0⟩) (spn code i) = r := by
    unfold reg
    rw [show (gi (out.set (spn code i).temp.toNat ⟨(r : Int), 0⟩) (spn code i).temp) = gi (out.set (gi code i).D.toNat ⟨(r : Int), 0⟩) (gi code i).D by rw [(spn_t code i).1], gi_setD d0 hdl d0 hdl, if_pos rfl]
  have hset : ∀ q : Nat, q < 8 → gi (tab.set (r : Int).toNat (gi code i).D) q = if q = r then (gi code i).D else gi tab q := fun q hq => by
    rw [gi_set (by omega) (by omega) (by omega)]
    by_cases e : q = r
    · rw [if_pos e, if_pos (by omega)]
    · rw [if_neg e, if_neg (by omega)]
  refine ⟨by simp [hl], fun q hq hge => by rw [hset q hq, if_neg (by omega)]; exact hT.h0 q hq hge, fun q hq => ?_, fun a ha => ?_⟩
  · rw [hset q hq]
    by_cases e : q = r
    · rw [if_pos e]
      exact .inr ⟨i, by omega, h.mm, rfl, .inl ⟨by simp, by rw [hregi, e]⟩⟩
    · rw [if_neg e]
      rcases hT.h1 q hq with c | ⟨j, hj, hm, e', c⟩
      · exact .inl c
      · refine .inr ⟨j, by omega, hm, e', .inl ?_⟩
        rcases c with ⟨c1, c2⟩ | c
        · exact ⟨by simp [c1], by rw [hreg hj hm]; exact c2⟩
        · have := (spn_t code j).2.2; omega
  · rcases List.mem_append.1 ha with ha | ha
    · obtain ⟨j, hj, hm, e, h0⟩ := h.a.ac a ha
      have hy := h.o.ye j hj hm
      have hrr : reg out a = (gi out (gi code j).D).Reg := by unfold reg; rw [e, (spn_t code j).1]
      rw [← hrr] at hy
      have := hT.h2 a ha
      rw [e, hreg hj hm, ← e]
      obtain ⟨q, hq⟩ : ∃ q : Nat, reg out a = q := ⟨(reg out a).toNat, by omega⟩
      rw [hq] at this ⊢
      rw [hset q (by omega), if_neg ?_]
      · exact this
      · rintro rfl
        have : has act out q = true := List.any_eq_true.2 ⟨a, ha, by simp [hq]⟩
        rw [rh] at this; cases this
    · simp only [List.mem_singleton] at ha
      rw [ha, hregi, hset r (by omega), if_pos rfl, (spn_t code i).1]
theorem TB.stepS (h : Ahd code regs i out act slots) (hT : TB code regs i (-1) tab out act) (hg : Good code code.length) : TB code regs (i + 1) ((i + 1 : Nat) : Int) tab (out.set (gi code i).D.toNat ⟨-1, slots⟩) act := by
  obtain ⟨d0, d4⟩ := h.d hg
  have hdl := h.dl
  have hreg : ∀ {j : Nat}, j < i → mks (gi code j) = true → reg (out.set (gi code i).D.toNat ⟨-1, slots⟩) (spn code j) = reg out (spn code j) := fun {j} hj hm => by
    unfold reg
    rw [(spn_t code j).1, gi_setD d0 hdl (hg j (by have := h.hi; omega) hm).1 (h.o.o2 j hj hm), if_neg (h.ne hg hj hm)]
  refine ⟨hT.l, hT.h0, fun q hq => ?_, fun a ha => ?_⟩
  · rcases hT.h1 q hq with c | ⟨j, hj, hm, e', c⟩
    · exact .inl c
    · refine .inr ⟨j, by omega, hm, e', .inl ?_⟩
      rcases c with ⟨c1, c2⟩ | c
      · exact ⟨c1, by rw [hreg hj hm]; exact c2⟩
      · have := (spn_t code j).2.2; omega
  · obtain ⟨j, hj, hm, e, h0⟩ := h.a.ac a ha
    rw [e, hreg hj hm, ← e]; exact hT.h2 a ha
theorem TB.stepE (h : Ahd code regs i out act slots) (hT : TB code regs i (-1) tab out act) (hg : Good code code.length) (hr8 : regs ≤ 8) {k : Nat} (hk : k < act.length) {r : Int} (hr : reg out (gi act k) = r) :
    TB code regs (i + 1) ((i + 1 : Nat) : Int) (tab.set r.toNat (gi code i).D) ((out.set (gi act k).temp.toNat ⟨-1, slots⟩).set (gi code i).D.toNat ⟨r, 0⟩) ((act ++ [spn code i]).eraseIdx k) := by
  obtain ⟨d0, d4⟩ := h.d hg
  have hdl := h.dl
  have hl := hT.l
  have hmem : gi act (k : Int) ∈ act := gi_mem (by omega) (by omega)
  have hge : gi (act ++ [spn code i]) (k : Int) = gi act k := gi_app (by omega) (by omega)
  have her := fun a => er (h.nodup hg) (k := k) (by simp; omega) a
  rw [hge] at her
  obtain ⟨j0, hj0, hm0, e0, g0⟩ := h.a.ac _ hmem
  have hy0 := h.o.ye j0 hj0 hm0
  have hrr0 : reg out (gi act k) = (gi out (gi code j0).D).Reg := by unfold reg; rw [e0, (spn_t code j0).1]
  rw [← hrr0, hr] at hy0
  rw [hr] at g0
  have et : (gi act (k : Int)).temp = (gi code j0).D := by rw [e0, (spn_t code j0).1]
  have D0 := (hg j0 (by have := h.hi; omega) hm0).1
  have D1 := h.o.o2 j0 hj0 hm0
  rw [et]
  obtain ⟨r, rfl⟩ : ∃ n : Nat, r = n := ⟨r.toNat, by omega⟩
  have hgi : ∀ {t : Int}, 0 ≤ t → t < out.length → gi ((out.set (gi code j0).D.toNat ⟨-1, slots⟩).set (gi code i).D.toNat ⟨(r : Int), 0⟩) t = if t = (gi code i).D then ⟨(r : Int), 0⟩ else if t = (gi code j0).D then ⟨-1, slots⟩ else gi out t := fun t0 t1 => by
    rw [gi_setD d0 (by simpa using hdl) t0 (by simpa using t1), gi_setD D0 D1 t0 t1]
  have hreg : ∀ {j : Nat}, j < i → mks (gi code j) = true → j ≠ j0 → reg ((out.set (gi code j0).D.toNat ⟨-1, slots⟩).set (gi code i).D.toNat ⟨(r : Int), 0⟩) (spn code j) = reg out (spn code j) := fun {j} hj hm hne => by
    unfold reg
    rw [(spn_t code j).1, hgi (hg j (by have := h.hi; omega) hm).1 (h.o.o2 j hj hm), if_neg (h.ne hg hj hm), if_neg (fun e => hne (h.inj hg (by omega) (by omega) hm hm0 e))]
  have hregi : reg ((out.set (gi code j0).D.toNat ⟨-1, slots⟩).set (gi code i).D.toNat ⟨(r : Int), 0⟩) (spn code i) = r := by
    unfold reg
    rw [(spn_t code i).1, hgi d0 hdl, if_pos rfl]
  have hset : ∀ q : Nat, q < 8 → gi (tab.set (r : Int).toNat (gi code i).D) q = if q = r then (gi code i).D else gi tab q := fun q hq => by
    rw [gi_set (by omega) (by omega) (by omega)]
    by_cases e : q = r
    · rw [if_pos e, if_pos (by omega)]
    · rw [if_neg e, if_neg (by omega)]
  have hsi : spn code i ≠ gi act k := fun c => by
    rw [e0] at c
    have h1 := congrArg alloc_span.from_ c
    rw [(spn_t code i).2.1, (spn_t code j0).2.1] at h1
    omega
  have hsj : ∀ j : Nat, spn code j = gi act k → j = j0 := fun j c => by
    rw [e0] at c
    have h1 := congrArg alloc_span.from_ c
    rw [(spn_t code j).2.1, (spn_t code j0).2.1] at h1
    omega
  refine ⟨by simp [hl], fun q hq hge => by rw [hset q hq, if_neg (by omega)]; exact hT.h0 q hq hge, fun q hq => ?_, fun a ha => ?_⟩
  · rw [hset q hq]
    by_cases e : q = r
    · rw [if_pos e]
      exact .inr ⟨i, by omega, h.mm, rfl, .inl ⟨(her _).2 ⟨by simp, hsi⟩, by rw [hregi, e]⟩⟩
    · rw [if_neg e]
      rcases hT.h1 q hq with c | ⟨j, hj, hm, e', c⟩
      · exact .inl c
      · refine .inr ⟨j, by omega, hm, e', .inl ?_⟩
        rcases c with ⟨c1, c2⟩ | c
        · have hne : j ≠ j0 := fun c => by rw [c, ← e0, hr] at c2; omega
          exact ⟨(her _).2 ⟨by simp [c1], fun c => hne (hsj j c)⟩, by rw [hreg hj hm hne]; exact c2⟩
        · have := (spn_t code j).2.2; omega
  · obtain ⟨h1, h2⟩ := (her a).1 ha
    rcases List.mem_append.1 h1 with ha | ha
    · obtain ⟨j, hj, hm, e, h0⟩ := h.a.ac a ha
      have hy := h.o.ye j hj hm
      have hrr : reg out a = (gi out (gi code j).D).Reg := by unfold reg; rw [e, (spn_t code j).1]
      rw [← hrr] at hy
      have hne : j ≠ j0 := fun c => h2 (by rw [e, e0, c])
      have := hT.h2 a ha
      rw [e, hreg hj hm hne, ← e]
      obtain ⟨q, hq⟩ : ∃ q : Nat, reg out a = q := ⟨(reg out a).toNat, by omega⟩
      rw [hq] at this ⊢
      rw [hset q (by omega), if_neg ?_]
      · exact this
      · rintro rfl
        exact h2 (h.a.rg a ha _ hmem (by rw [hq, hr]))
    · simp only [List.mem_singleton] at ha
      rw [ha, hregi, hset r (by omega), if_pos rfl, (spn_t code i).1]
end
def rT (code : List api_Ins) (regs : Int) (i : Nat) (tab : List Int) : (List Int) × (List api_Home) × Nat × Int × Int := (tab, (hs code regs i).out, (hs code regs i).out.length, (hs code regs i).slots, (i : Int))
theorem ref_step {code : List api_Ins} {regs : Int} (hn : code.length ≤ 400) (hg : Good code code.length) (hr : 1 ≤ regs ∧ regs ≤ 8) {i : Nat} (hi : i < code.length) {tab : List Int} (hT : TB code regs i (i : Int) tab (hs code regs i).out (hs code regs i).act) :
    ∃ tab', selvageref14_Homes.l2 code regs (rT code regs i tab) = some (.inl (rT code regs (i + 1) tab')) ∧ TB code regs (i + 1) ((i + 1 : Nat) : Int) tab' (hs code regs (i + 1)).out (hs code regs (i + 1)).act := by
  have h := hs_ok hn hg hr i (by omega)
  have hord := hs_ord hn hg hr i (by omega)
  have hst : hs code regs (i + 1) = hstep code regs i (hs code regs i) := rfl
  have hN := homes_step hn hg hr hi h
  unfold rT
  rw [hst] at hN ⊢
  generalize hs code regs i = st at *
  unfold selvageref14_Homes.l2
  dsimp only
  rw [if_pos (by omega), if_pos (by omega)]
  simp only [letC]
  rw [has_d, Option.bind_some, ← mks_sh]
  by_cases hm : mks (gi code i) = true
  · have hp := pre_of h hg hi hm
    have hd := hp.d hg
    have hact := h.a.al
    rw [if_pos hm, rext_eq _ _ hd, Option.bind_some]
    have hac0 : ∀ a ∈ st.act, ∃ j : Nat, j < i ∧ mks (gi code j) = true ∧ a = spn code j := fun a ha => by
      obtain ⟨j, hj, hmj, e, _⟩ := h.a.ac a ha
      exact ⟨j, hj, hmj, e⟩
    have hT1 := hT.ext (d := (gi code i).D) h.o hg (by omega) hac0
    have hA1 := h.a.ext (d := (gi code i).D) h.o hg (by omega)
    have hac1 : ∀ a ∈ st.act, ∃ j : Nat, j < i ∧ mks (gi code j) = true ∧ a = spn code j ∧ 0 ≤ reg (ext st.out (gi code i).D) a ∧ reg (ext st.out (gi code i).D) a < regs := fun a ha => by
      obtain ⟨j, hj, hmj, e, h0⟩ := hA1.ac a ha
      have hy := (h.o.ext hg (by omega) hd).ye j hj hmj
      have : reg (ext st.out (gi code i).D) a = (gi (ext st.out (gi code i).D) (gi code j).D).Reg := by unfold reg; rw [e, (spn_t code j).1]
      rw [← this] at hy
      exact ⟨j, hj, hmj, e, h0, by omega⟩
    have hfr : (spn code i).from_ = (i : Int) := (spn_t code i).2.1
    rw [hfr] at hp
    obtain ⟨tab1, e1, hT2⟩ := sweep (S := (tab, st.out, st.out.length, st.slots, (i : Int))) hn hr hp hg rfl hT1 hac1
    rw [e1, Option.bind_some]
    unfold hstep
    rw [if_pos hm, hfr]
    dsimp only
    have hord1 : Ord (st.act.filter (live (i : Int))) := hord.sublist List.filter_sublist
    have ht := (spn_t code i).1
    have hdl := hp.dl
    have hsl := h.o.s0
    have htl := hT2.l
    have hal := hp.a.al
    generalize ext st.out (gi code i).D = out at *
    generalize st.act.filter (live (i : Int)) = act at *
    by_cases hf : (act.length : Int) < regs
    · obtain ⟨r, er, rl, rh⟩ := least_ok act out
      rw [if_pos hf, if_pos hf, if_pos (by omega), if_pos (by omega), if_pos (by omega), if_pos (by omega), if_pos (by omega), wr64 (by omega)]
      refine ⟨_, ?_, TB.stepA hp hT2 hg hf hr.2⟩
      rw [ht]
      simp
    · rw [if_neg hf, if_neg hf, if_neg (by omega), worst_eq hn hr hp hg (by omega) rfl hT2 hord1, Option.bind_some]
      have hlen : 0 < act.length := by omega
      have hb := lw_b (act.map wt) act.length
      obtain ⟨q, hq⟩ : ∃ q : Nat, lw (act.map wt) act.length = q := ⟨(lw (act.map wt) act.length).toNat, by omega⟩
      have hq1 : q < act.length := by omega
      have hmemq : gi act (q : Int) ∈ act := gi_mem (by omega) (by omega)
      have hw : wso act out act.length = reg out (gi act q) := by unfold wso; rw [if_neg (by omega), hq]
      obtain ⟨jq, hjq, hmq, eq, g0⟩ := hp.a.ac _ hmemq
      have hyq := hp.o.ye jq hjq hmq
      have hrq : reg out (gi act q) = (gi out (gi code jq).D).Reg := by unfold reg; rw [eq, (spn_t code jq).1]
      rw [← hrq] at hyq
      have htq := hT2.h2 _ hmemq
      have etq : (gi act (q : Int)).temp = (gi code jq).D := by rw [eq, (spn_t code jq).1]
      have hDq := (hg jq (by omega) hmq).1
      have hDq1 := hp.o.o2 jq hjq hmq
      have p1 := spn_wt hn hi
      have p2 := spn_wt hn (by omega : jq < code.length)
      rw [rweight_eq hn hi hg hm, Option.bind_some, rank_eq p1, Option.bind_some, hw, if_pos (by omega), if_pos (by omega), htq, etq, rweight_eq hn (by omega) hg hmq, Option.bind_some, rank_eq p2, Option.bind_some, wr64 (by omega), wr64 (by omega)]
      -- which one it is
      have hall : (act ++ [spn code i]).length = act.length + 1 := by simp
      have hlw : lw ((act ++ [spn code i]).map wt) (act ++ [spn code i]).length = if rk (wt (spn code i)) < rk (wt (spn code jq)) then (act.length : Int) else (q : Int) := by
        rw [hall]
        simp only [lw]
        rw [List.map_append, lw_app _ _ _ (by simp), hq, if_neg (by omega)]
        have g1 : gi (act.map wt ++ [spn code i].map wt) (act.length : Int) = wt (spn code i) := by
          simp [gi]
        have g2 : gi (act.map wt ++ [spn code i].map wt) (q : Int) = wt (spn code jq) := by
          rw [gi_app (by omega) (by simp; omega), gi_map hq1, eq]
        rw [g1, g2, less_rk p1 p2]
        by_cases c : rk (wt (spn code i)) < rk (wt (spn code jq))
        · simp [c]
        · simp [c]
      rw [hlw]
      by_cases hc : rk (wt (spn code i)) < rk (wt (spn code jq))
      · rw [if_pos hc, if_pos hc, if_pos (by omega), if_pos (by omega)]
        have e2 : gi (act ++ [spn code i]) (act.length : Int) = spn code i := by simp [gi]
        have e3 : (act ++ [spn code i]).eraseIdx (act.length : Int).toNat = act := by
          rw [Int.toNat_natCast, List.eraseIdx_eq_take_drop_succ]; simp
        rw [e2, e3, ht, List.set_set]
        refine ⟨tab1, ?_, TB.stepS hp hT2 hg⟩
        simp
      · rw [if_neg hc, if_neg hc, if_pos (by omega), if_pos (by omega), if_pos (by omega), if_pos (by simp; omega)]
        have e2 : gi (act ++ [spn code i]) (q : Int) = gi act q := gi_app (by omega) (by omega)
        have hne : (gi code i).D.toNat ≠ (gi code jq).D.toNat := by have := hp.ne hg hjq hmq; omega
        have e3 : gi out (gi code jq).D = ⟨reg out (gi act q), 0⟩ := by
          rw [hrq] at hyq g0 ⊢
          have h1 : (gi out (gi code jq).D).Slot = 0 := by omega
          cases hx : gi out (gi code jq).D
          rw [hx] at h1
          simp only [] at h1
          rw [h1]
        rw [e2, ht, etq, e3, Int.toNat_natCast, List.set_comm _ _ hne]
        have := TB.stepE hp hT2 hg hr.2 hq1 (r := reg out (gi act q)) rfl
        rw [etq] at this
        refine ⟨_, ?_, this⟩
        simp
  · rw [if_neg hm]
    unfold hstep
    rw [if_neg hm, wr64 (by omega)]
    refine ⟨tab, rfl, hT.l, hT.h0, fun r hr8 => ?_, hT.h2⟩
    rcases hT.h1 r hr8 with c | ⟨j, hj, hmj, e, c⟩
    · exact .inl c
    · exact .inr ⟨j, by omega, hmj, e, c.imp id fun c => by omega⟩
theorem ref_init : loop selvageref14_Homes.l1 (((List.replicate 8 (0 : Int)), 0) : (List Int) × Int) = some (List.replicate 8 (-1)) := B.loop_of_F 20 (by kernel_rfl)
theorem rhomes (code : List api_Ins) (l : List api_Loc) (regs : Int) (hn : code.length ≤ 400) (hl : l.length ≤ 16) : selvageref14_Homes.m code l regs = alloc_Homes.m code l regs := by
  obtain ⟨b, e1, e2, hb⟩ := right_same code l hn hl
  unfold selvageref14_Homes.m alloc_Homes.m
  rw [e1, e2, Option.bind_some, Option.bind_some]
  cases b
  · rfl
  · rw [if_pos rfl, if_pos rfl]
    have hg := (hb rfl).good
    by_cases h1 : regs < 1
    · rw [if_pos h1]; rfl
    · rw [if_neg h1]
      by_cases h2 : regs > 8
      · simp [h2]
      · simp only [h2, decide_false, Option.bind_some, Bool.false_eq_true, if_false]
        have hr : 1 ≤ regs ∧ regs ≤ 8 := by omega
        have hA := loop_st (f := alloc_Homes.l1 code regs) code.length (stT code regs) ((hs code regs code.length).out, (hs code regs code.length).out.length) (fun i hi => (homes_step hn hg hr hi (hs_ok hn hg hr i (by omega))).1) (by
          unfold stT alloc_Homes.l1
          dsimp only
          rw [if_neg (by omega)])
        have hR : Tot (fun o => o = ((hs code regs code.length).out, (hs code regs code.length).out.length)) (loop (selvageref14_Homes.l2 code regs) (rT code regs 0 (List.replicate 8 (-1)))) := by
          refine loop_T code.length (fun i s => ∃ tab, s = rT code regs i tab ∧ TB code regs i (i : Int) tab (hs code regs i).out (hs code regs i).act) (fun i s hi hs' => ?_) (fun s hs' => ?_) ⟨_, rfl, by simp, fun r hr8 _ => gi_replicate (by omega) (by omega), fun r hr8 => .inl (gi_replicate (by omega) (by omega)), fun a ha => by simp [hs] at ha⟩
          · obtain ⟨tab, rfl, hT⟩ := hs'
            obtain ⟨tab', e, hT'⟩ := ref_step hn hg hr hi hT
            exact ⟨_, e, tab', rfl, hT'⟩
          · obtain ⟨tab, rfl, hT⟩ := hs'
            unfold selvageref14_Homes.l2 rT
            dsimp only
            exact .ff (by omega) (.some rfl)
        obtain ⟨o, e, rfl⟩ := hR
        rw [ref_init, Option.bind_some]
        have eR : loop (selvageref14_Homes.l2 code regs) ((List.replicate 8 (-1), ([] : List api_Home), ([] : List api_Home).length, 0, 0) : (List Int) × (List api_Home) × Nat × Int × Int) = some ((hs code regs code.length).out, (hs code regs code.length).out.length) := e
        have eA : loop (alloc_Homes.l1 code regs) ((([] : List api_Home), ([] : List api_Home).length, ([] : List alloc_span), 0, 0) : (List api_Home) × Nat × (List alloc_span) × Int × Int) = some ((hs code regs code.length).out, (hs code regs code.length).out.length) := hA
        rw [eR, eA]
end Go.Proofs.Ytbhekpcimmaijaa.W
namespace Go.Proofs.Ytbhekpcimmaijaa.W
open Go Go.RowKit Go.Proofs.Ytbhekpcimmaijaa Go.Proofs.Ytbhekpcimmaijaa.X
open Go.Proofs.Ytbhekpcimmaijaa.B (wr aget aset loop loop_in loop_out loop_tot wrap16)

def ur (hm : List api_Home) (t sp : Int) : Int := if 0 ≤ (gi hm t).Reg then 14 + (gi hm t).Reg else sp
def ul (hm : List api_Home) (t sp : Int) : List api_Inst := if 0 ≤ (gi hm t).Reg then [] else [⟨10, sp, 1, 0, 8 * (gi hm t).Slot⟩]
def kp (hm : List api_Home) (t : Int) : List api_Inst := if 0 ≤ (gi hm t).Reg then [] else [⟨11, 11, 1, 0, 8 * (gi hm t).Slot⟩]
def mv (hm : List api_Home) (t : Int) : List api_Inst := if 0 ≤ (gi hm t).Reg then [⟨1, 14 + (gi hm t).Reg, 11, 0, 0⟩] else []
def num32 (r n : Int) : List api_Inst := [⟨2, r, 0, 0, wrap16 (n / 65536)⟩, ⟨3, r, r, 0, n % 65536⟩]
def num (r n : Int) : List api_Inst :=
  if -32768 ≤ n ∧ n ≤ 32767 then [⟨1, r, 0, 0, n⟩]
  else if n < -2147483648 ∨ 2147483648 ≤ n then num32 r (n / 4294967296) ++ [⟨5, r, r, 0, 32⟩, ⟨4, r, r, 0, n / 65536 % 65536⟩, ⟨3, r, r, 0, n % 65536⟩]
  else num32 r n
def cal (n : Int) : List api_Inst := [⟨1, 0, 0, 0, n⟩, ⟨23, 0, 0, 0, 0⟩]
def dcd (r : Int) : List api_Inst := [⟨16, 0, r, r, 0⟩, ⟨18, 3, 0, 0, 4⟩]
def bnd (r n : Int) : List api_Inst := [⟨17, 0, r, 0, 0⟩, ⟨18, 1, 0, 0, 12⟩, ⟨1, 0, 0, 0, 3⟩, ⟨23, 0, 0, 0, 0⟩, ⟨17, 0, r, 0, n⟩, ⟨18, 0, 0, 0, 12⟩, ⟨1, 0, 0, 0, 3⟩, ⟨23, 0, 0, 0, 0⟩, ⟨5, 12, r, 0, 3⟩]
def pc (hm : List api_Home) (x : api_Ins) (d : Int) : List api_Inst :=
  if x.Op = 1 then num (ur hm x.D 11) x.K ++ kp hm x.D
  else if x.Op = 2 then ul hm x.A 11 ++ (ul hm x.B 10 ++ (⟨6, ur hm x.D 11, ur hm x.A 11, ur hm x.B 10, 0⟩ :: kp hm x.D))
  else if x.Op = 3 then ul hm x.A 11 ++ (ul hm x.B 10 ++ (⟨7, ur hm x.D 11, ur hm x.B 10, ur hm x.A 11, 0⟩ :: kp hm x.D))
  else if x.Op = 4 then ul hm x.A 11 ++ (ul hm x.B 10 ++ (⟨8, ur hm x.D 11, ur hm x.A 11, ur hm x.B 10, 0⟩ :: kp hm x.D))
  else if x.Op = 5 then ul hm x.A 11 ++ (ul hm x.B 10 ++ (⟨17, 0, ur hm x.B 10, 0, 0⟩ :: ⟨18, 3, 0, 0, 12⟩ :: (cal 2 ++ (⟨9, ur hm x.D 11, ur hm x.A 11, ur hm x.B 10, 0⟩ :: kp hm x.D))))
  else if x.Op = 6 then ⟨10, ur hm x.D 11, 2, 0, 8 * x.Loc⟩ :: (dcd (ur hm x.D 11) ++ kp hm x.D)
  else if x.Op = 7 then ul hm x.A 11 ++ [⟨11, ur hm x.A 11, 2, 0, 8 * x.Loc⟩]
  else if x.Op = 13 then ul hm x.A 11 ++ (bnd (ur hm x.A 11) x.Len ++ (⟨1, 12, 12, 0, 8 * x.Loc⟩ :: ⟨12, ur hm x.D 11, 2, 12, 0⟩ :: (dcd (ur hm x.D 11) ++ kp hm x.D)))
  else if x.Op = 14 then ul hm x.A 11 ++ (bnd (ur hm x.A 11) x.Len ++ (⟨1, 12, 12, 0, 8 * x.Loc⟩ :: (ul hm x.B 10 ++ [⟨13, ur hm x.B 10, 2, 12, 0⟩])))
  else if x.Op = 15 then ul hm x.A 11 ++ (⟨1, 3, ur hm x.A 11, 0, 0⟩ :: cal 1)
  else if x.Op = 16 then ul hm x.A 11 ++ (ul hm x.B 10 ++ [⟨16, 0, ur hm x.A 11, ur hm x.B 10, 0⟩, ⟨18, 1, 0, 0, d⟩])
  else if x.Op = 17 then ul hm x.A 11 ++ (ul hm x.B 10 ++ [⟨16, 0, ur hm x.A 11, ur hm x.B 10, 0⟩, ⟨18, 3, 0, 0, d⟩])
  else if x.Op = 18 then cal 0
  else if x.Op = 8 then ⟨20, 0, 0, 0, 0⟩ :: ⟨10, ur hm x.D 11, 2, 0, 8 * x.Loc⟩ :: ⟨20, 0, 0, 0, 0⟩ :: kp hm x.D
  else if x.Op = 9 then ul hm x.A 10 ++ [⟨20, 0, 0, 0, 0⟩, ⟨11, ur hm x.A 10, 2, 0, 8 * x.Loc⟩, ⟨20, 0, 0, 0, 0⟩]
  else if x.Op = 10 then ul hm x.A 10 ++ (⟨1, 12, 0, 0, 8 * x.Loc⟩ :: ⟨20, 0, 0, 0, 0⟩ :: ⟨14, 11, 2, 12, 0⟩ :: ⟨15, ur hm x.A 10, 2, 12, 0⟩ :: ⟨18, 3, 0, 0, -8⟩ :: ⟨20, 0, 0, 0, 0⟩ :: (mv hm x.D ++ kp hm x.D))
  else if x.Op = 11 then ul hm x.A 10 ++ (⟨1, 12, 0, 0, 8 * x.Loc⟩ :: ⟨20, 0, 0, 0, 0⟩ :: ⟨14, 11, 2, 12, 0⟩ :: ⟨6, 9, 11, ur hm x.A 10, 0⟩ :: ⟨15, 9, 2, 12, 0⟩ :: ⟨18, 3, 0, 0, -12⟩ :: ⟨20, 0, 0, 0, 0⟩ :: (mv hm x.D ++ kp hm x.D))
  else ul hm x.A 10 ++ (ul hm x.B 9 ++ [⟨1, 12, 0, 0, 8 * x.Loc⟩, ⟨20, 0, 0, 0, 0⟩, ⟨14, 11, 2, 12, 0⟩, ⟨16, 0, 11, ur hm x.A 10, 0⟩, ⟨18, 3, 0, 0, 20⟩, ⟨15, ur hm x.B 9, 2, 12, 0⟩, ⟨18, 3, 0, 0, -16⟩, ⟨20, 0, 0, 0, 0⟩, ⟨19, 0, 0, 0, 12⟩, ⟨20, 0, 0, 0, 0⟩, ⟨19, 0, 0, 0, d⟩])
def isJ (x : api_Ins) : Bool := (sh x.Op).to_
def jl (hm : List api_Home) (x : api_Ins) (o : Int) : List emit_jump := if isJ x = true then [⟨o + (pc hm x 0).length - 1, x.To⟩] else []
structure HB (hm : List api_Home) (t : Int) : Prop where
  r : 0 ≤ t ∧ t < hm.length
  h : (0 ≤ (gi hm t).Reg ∧ (gi hm t).Reg < 8) ∨ ((gi hm t).Reg < 0 ∧ 0 ≤ (gi hm t).Slot ∧ (gi hm t).Slot < 400)
structure PB (hm : List api_Home) (x : api_Ins) : Prop where
  op : isOp x.Op = true
  d : (sh x.Op).d = true → HB hm x.D
  a : (sh x.Op).a = true → HB hm x.A
  b : (sh x.Op).b = true → HB hm x.B
  loc : 0 ≤ x.Loc ∧ x.Loc < 16
  len : 0 ≤ x.Len ∧ x.Len ≤ 16
  k : -9223372036854775808 ≤ x.K ∧ x.K < 9223372036854775808
theorem lo16 (n : Int) (h : -9223372036854775808 ≤ n ∧ n < 9223372036854775808) : bits .and .i64 n 65535 = n % 65536 := by
  have e : (BitVec.ofInt 64 n &&& BitVec.ofInt 64 65535).toNat = (n % 18446744073709551616).toNat % 65536 := by
    rw [BitVec.toNat_and, BitVec.toNat_ofInt, show (BitVec.ofInt 64 65535).toNat = 65535 from by decide]
    exact Nat.and_two_pow_sub_one_eq_mod _ 16
  show IntKind.i64.wrap ((BitVec.ofInt 64 n &&& BitVec.ofInt 64 65535).toNat : Int) = _
  rw [e, B.wrap_i64]
  unfold wrap64
  omega
section
variable {hm : List api_Home} {out : List api_Inst} {at_ : List Int} {js : List emit_jump}
theorem addE (op t a b i : Int) (h : out.length ≤ 10000) : emit_writer_add_12.m op t a b i hm hm.length out at_ js = some (out ++ [⟨op, t, a, b, i⟩]) := by
  unfold emit_writer_add_12.m
  rw [if_pos (by simp; omega)]
theorem targetE {t : Int} (h : HB hm t) : emit_writer_target_8.m t hm hm.length out at_ js = some (ur hm t 11) := by
  unfold emit_writer_target_8.m ur
  have := h.r; have := h.h
  rw [if_pos (by omega), if_pos (by omega)]
  by_cases c : 0 ≤ (gi hm t).Reg
  · simp only [letC]; rw [if_pos c, if_pos c, wr64 (by omega)]
  · simp only [letC]; rw [if_neg c, if_neg c]
theorem useE {t sp : Int} (h : HB hm t) (ho : out.length ≤ 10000) : emit_writer_use_8.m t sp hm hm.length out at_ js = some (out ++ ul hm t sp, ur hm t sp) := by
  unfold emit_writer_use_8.m ur ul
  have := h.r; have := h.h
  rw [if_pos (by omega), if_pos (by omega)]
  by_cases c : 0 ≤ (gi hm t).Reg
  · simp only [letC]; rw [if_pos c, if_pos c, if_pos c, wr64 (by omega), List.append_nil]
  · simp only [letC]; rw [if_neg c, if_neg c, if_neg c, wr64 (by omega), addE _ _ _ _ _ ho]; rfl
theorem keepE {t : Int} (h : HB hm t) (ho : out.length ≤ 10000) : emit_writer_keep_4.m t hm hm.length out at_ js = some (out ++ kp hm t) := by
  unfold emit_writer_keep_4.m kp
  have := h.r; have := h.h
  rw [if_pos (by omega), if_pos (by omega)]
  by_cases c : 0 ≤ (gi hm t).Reg
  · simp only [letC]; rw [if_neg (by omega), if_pos c, List.append_nil]
  · simp only [letC]; rw [if_pos (by omega), if_neg c, wr64 (by omega), addE _ _ _ _ _ ho]; rfl
theorem callE {n : Int} (ho : out.length ≤ 9990) : emit_writer_call_8.m n hm hm.length out at_ js = some (out ++ cal n) := by
  unfold emit_writer_call_8.m cal
  rw [addE _ _ _ _ _ (by omega), Option.bind_some, addE _ _ _ _ _ (by simp; omega), Option.bind_some, List.append_assoc]; rfl
theorem dcdE {r : Int} (ho : out.length ≤ 9990) : emit_writer_decided_4.m r hm hm.length out at_ js = some (out ++ dcd r) := by
  unfold emit_writer_decided_4.m dcd
  rw [addE _ _ _ _ _ (by omega), Option.bind_some, addE _ _ _ _ _ (by simp; omega), Option.bind_some, List.append_assoc]; rfl
theorem syncE (ho : out.length ≤ 9990) : emit_writer_sync_5.m hm hm.length out at_ js = some (out ++ [⟨20, 0, 0, 0, 0⟩]) := by
  unfold emit_writer_sync_5.m
  rw [addE _ _ _ _ _ (by omega), Option.bind_some]
theorem bndE {r n : Int} (ho : out.length ≤ 9980) : emit_writer_bounds_5.m r n hm hm.length out at_ js = some (out ++ bnd r n) := by
  unfold emit_writer_bounds_5.m bnd
  rw [addE _ _ _ _ _ (by omega), Option.bind_some, addE _ _ _ _ _ (by simp; omega), Option.bind_some, callE (by simp; omega), Option.bind_some, addE _ _ _ _ _ (by simp [cal]; omega), Option.bind_some,
    addE _ _ _ _ _ (by simp [cal]; omega), Option.bind_some, callE (by simp [cal]; omega), Option.bind_some, addE _ _ _ _ _ (by simp [cal]; omega), Option.bind_some]
  simp [cal]
theorem num32E {r n : Int} (h : -9223372036854775808 ≤ n ∧ n < 9223372036854775808) (ho : out.length ≤ 9990) : emit_writer_number32_4.m r n hm hm.length out at_ js = some (out ++ num32 r n) := by
  unfold emit_writer_number32_4.m num32
  simp only [letC]
  rw [addE _ _ _ _ _ (by omega), Option.bind_some, addE _ _ _ _ _ (by simp; omega), Option.bind_some, lo16 n h, List.append_assoc]
  have e1 : wr .i64 (wr .i16 (n / 2 ^ (min (16 : Int).toNat 64))) = wrap16 (n / 65536) := by
    show wrap64 (wrap16 (n / 65536)) = wrap16 (n / 65536)
    unfold wrap64 wrap16; omega
  rw [e1]; rfl
theorem numE {r n : Int} (h : -9223372036854775808 ≤ n ∧ n < 9223372036854775808) (ho : out.length ≤ 9980) : emit_writer_number_4.m r n hm hm.length out at_ js = some (out ++ num r n) := by
  unfold emit_writer_number_4.m num
  have e1 : (if n ≥ (-32768 : Int) then (some ((decide (n ≤ (32767 : Int))) : Bool)) else (some (false : Bool)) : Option Bool) = some (decide (-32768 ≤ n ∧ n ≤ 32767)) := by
    by_cases c : -32768 ≤ n <;> simp [c]
  have e2 : (if n < (-2147483648 : Int) then (some (true : Bool)) else (some ((decide (n ≥ (2147483648 : Int))) : Bool)) : Option Bool) = some (decide (n < -2147483648 ∨ 2147483648 ≤ n)) := by
    by_cases c : n < -2147483648 <;> simp [c]
  rw [e1, Option.bind_some]
  by_cases c1 : -32768 ≤ n ∧ n ≤ 32767
  · rw [if_pos (by simpa using c1), if_pos c1, addE _ _ _ _ _ (by omega), Option.bind_some]
  · rw [if_neg (by simpa using c1), if_neg c1, e2, Option.bind_some]
    by_cases c2 : n < -2147483648 ∨ 2147483648 ≤ n
    · rw [if_pos (by simpa using c2), if_pos c2]
      have e3 : n / 2 ^ (min (32 : Int).toNat 64) = n / 4294967296 := rfl
      have e4 : n / 2 ^ (min (16 : Int).toNat 64) = n / 65536 := rfl
      simp only [letC]
      rw [e3, e4, num32E (by omega) (by omega), Option.bind_some, addE _ _ _ _ _ (by simp [num32]; omega), Option.bind_some, addE _ _ _ _ _ (by simp [num32]; omega), Option.bind_some, addE _ _ _ _ _ (by simp [num32]; omega), Option.bind_some, lo16 _ (by omega), lo16 _ h]
      simp [num32]
    · rw [if_neg (by simpa using c2), if_neg c2, num32E h (by omega), Option.bind_some]
end

theorem ul_len (hm : List api_Home) (t sp : Int) : (ul hm t sp).length ≤ 1 := by unfold ul; split <;> simp
theorem kp_len (hm : List api_Home) (t : Int) : (kp hm t).length ≤ 1 := by unfold kp; split <;> simp
theorem mv_len (hm : List api_Home) (t : Int) : (mv hm t).length ≤ 1 := by unfold mv; split <;> simp
theorem num_len (r n : Int) : (num r n).length ≤ 5 := by unfold num num32; split <;> (try split) <;> simp
theorem sh_1 : sh 1 = ⟨true, false, false, true, false, false, false, false⟩ := rfl
theorem sh_2 : sh 2 = ⟨true, true, true, false, false, false, false, false⟩ := rfl
theorem sh_3 : sh 3 = ⟨true, true, true, false, false, false, false, false⟩ := rfl
theorem sh_4 : sh 4 = ⟨true, true, true, false, false, false, false, false⟩ := rfl
theorem sh_5 : sh 5 = ⟨true, true, true, false, false, false, false, false⟩ := rfl
theorem sh_6 : sh 6 = ⟨true, false, false, false, false, true, false, false⟩ := rfl
theorem sh_7 : sh 7 = ⟨false, true, false, false, false, true, false, false⟩ := rfl
theorem sh_8 : sh 8 = ⟨true, false, false, false, false, true, false, true⟩ := rfl
theorem sh_9 : sh 9 = ⟨false, true, false, false, false, true, false, true⟩ := rfl
theorem sh_10 : sh 10 = ⟨true, true, false, false, false, true, false, true⟩ := rfl
theorem sh_11 : sh 11 = ⟨true, true, false, false, false, true, false, true⟩ := rfl
theorem sh_12 : sh 12 = ⟨false, true, true, false, true, true, false, true⟩ := rfl
theorem sh_13 : sh 13 = ⟨true, true, false, false, false, true, true, false⟩ := rfl
theorem sh_14 : sh 14 = ⟨false, true, true, false, false, true, true, false⟩ := rfl
theorem sh_15 : sh 15 = ⟨false, true, false, false, false, false, false, false⟩ := rfl
theorem sh_16 : sh 16 = ⟨false, true, true, false, true, false, false, false⟩ := rfl
theorem sh_17 : sh 17 = ⟨false, true, true, false, true, false, false, false⟩ := rfl
theorem sh_18 : sh 18 = ⟨false, false, false, false, false, false, false, false⟩ := rfl
theorem isOp_c {op : Int} (h : isOp op = true) : op = 1 ∨ op = 2 ∨ op = 3 ∨ op = 4 ∨ op = 5 ∨ op = 6 ∨ op = 7 ∨ op = 8 ∨ op = 9 ∨ op = 10 ∨ op = 11 ∨ op = 12 ∨ op = 13 ∨ op = 14 ∨ op = 15 ∨ op = 16 ∨ op = 17 ∨ op = 18 := by
  rcases ops_c op with c | c
  · exact c
  · unfold isOp tree_shape.m letC at h
    simp [c] at h
theorem loc8 {n : Int} (h : 0 ≤ n ∧ n < 16) : wr .i64 (8 * n) = 8 * n := wr64 (by omega)
section
variable {hm : List api_Home} {out : List api_Inst} {at_ : List Int} {js : List emit_jump} {x : api_Ins}
theorem pieceE (hx : PB hm x) (ho : out.length ≤ 9900) (hj : js.length ≤ 1000) :
    emit_writer_piece_7.m x hm hm.length out at_ js = some (out ++ pc hm x 0, js ++ jl hm x out.length) := by
  have l1 := ul_len hm x.A 11; have l2 := ul_len hm x.B 10; have l3 := ul_len hm x.A 10; have l4 := ul_len hm x.B 9
  have l5 := kp_len hm x.D; have l6 := mv_len hm x.D; have l7 := num_len (ur hm x.D 11) x.K
  have hd := hx.d; have ha := hx.a; have hb := hx.b; have hk := hx.k; have hl := loc8 hx.loc
  rcases isOp_c hx.op with c | c | c | c | c | c | c | c | c | c | c | c | c | c | c | c | c | c
  all_goals
    rw [c] at hd ha hb
    simp only [sh_1, sh_2, sh_3, sh_4, sh_5, sh_6, sh_7, sh_8, sh_9, sh_10, sh_11, sh_12, sh_13, sh_14, sh_15, sh_16, sh_17, sh_18, forall_const, Bool.false_eq_true, false_implies] at hd ha hb
    unfold emit_writer_piece_7.m jl isJ pc
    simp only [c, sh_1, sh_2, sh_3, sh_4, sh_5, sh_6, sh_7, sh_8, sh_9, sh_10, sh_11, sh_12, sh_13, sh_14, sh_15, sh_16, sh_17, sh_18, Int.reduceEq, if_true, if_false, ↓reduceIte, Option.bind_some, decide_true, decide_false, Bool.false_eq_true]
    try unfold emit_writer_atomic_7.m
    try unfold emit_writer_reckon_7.m
    try unfold emit_writer_leave_4.m
    try simp only [c, Int.reduceEq, if_true, if_false, ↓reduceIte, Option.bind_some, decide_true, decide_false, Bool.false_eq_true]
    simp (disch := first | assumption | omega | (simp only [List.length_append, List.length_cons, List.length_nil, bnd, cal, dcd]; omega)) only [letC, hl, targetE, useE, keepE, callE, dcdE, syncE, bndE, numE, addE, Option.bind_some]
    first
    | done
    | (rw [if_pos hd.r, if_pos hd.r]; have hh := hd.h; unfold mv
       by_cases c2 : 0 ≤ (gi hm x.D).Reg
       · have w : wr .i64 (14 + (gi hm x.D).Reg) = 14 + (gi hm x.D).Reg := wr64 (by omega)
         simp (disch := first | assumption | omega | (simp only [List.length_append, List.length_cons, List.length_nil, bnd, cal, dcd]; omega)) only [ge_iff_le, if_pos c2, w, keepE, addE, Option.bind_some]
         simp
       · simp (disch := first | assumption | omega | (simp only [List.length_append, List.length_cons, List.length_nil, bnd, cal, dcd]; omega)) only [ge_iff_le, if_neg c2, keepE, addE, Option.bind_some]
         simp)
    | (simp [cal, bnd, dcd]; done)
    | (simp [cal, bnd, dcd]; omega)
    | (rw [if_pos (by simp; omega)]
       simp (disch := first | assumption | omega | (simp only [List.length_append, List.length_cons, List.length_nil, bnd, cal, dcd]; omega)) only [addE, Option.bind_some]
       simp; try omega)
    | (simp only [List.length_cons, List.length_nil]; rw [if_pos (by omega)]
       simp (disch := first | assumption | omega | (simp only [List.length_append, List.length_cons, List.length_nil, bnd, cal, dcd]; omega)) only [addE, Option.bind_some]
       simp; try omega)
end

theorem gi_apl {α : Type} [Inhabited α] {l m : List α} {i : Int} (h0 : 0 ≤ i) (h : i < l.length) : gi (l ++ m) i = gi l i := by
  unfold gi
  rw [List.getD_eq_getElem?_getD, List.getD_eq_getElem?_getD, List.getElem?_append_left (by omega)]
theorem gi_apr {α : Type} [Inhabited α] {l m : List α} {i : Int} (h : l.length ≤ i) : gi (l ++ m) i = gi m (i - l.length) := by
  unfold gi
  rw [List.getD_eq_getElem?_getD, List.getD_eq_getElem?_getD, List.getElem?_append_right (by omega), show (i - (l.length : Int)).toNat = i.toNat - l.length by omega]
theorem gi_apa {α : Type} [Inhabited α] {l : List α} {x : α} {i : Int} (h : i = l.length) : gi (l ++ [x]) i = x := by
  rw [gi_apr (by omega), h, Int.sub_self]; rfl
theorem pc_d {hm : List api_Home} {x : api_Ins} (hx : isOp x.Op = true) (h : isJ x = false) (d : Int) : pc hm x d = pc hm x 0 := by
  rcases isOp_c hx with c | c | c | c | c | c | c | c | c | c | c | c | c | c | c | c | c | c
  all_goals
    simp only [isJ, c, sh_12, sh_16, sh_17, Bool.true_eq_false] at h
    try simp only [pc, c, Int.reduceEq, if_true, if_false, ↓reduceIte]
theorem pc_j {hm : List api_Home} {x : api_Ins} (hx : isOp x.Op = true) (h : isJ x = true) : ∃ ini op t, ∀ d, pc hm x d = ini ++ [⟨op, t, 0, 0, d⟩] := by
  rcases isOp_c hx with c | c | c | c | c | c | c | c | c | c | c | c | c | c | c | c | c | c
  all_goals
    first
    | (simp only [isJ, c, sh_1, sh_2, sh_3, sh_4, sh_5, sh_6, sh_7, sh_8, sh_9, sh_10, sh_11, sh_13, sh_14, sh_15, sh_18, Bool.false_eq_true] at h; done)
    | (simp only [pc, c, Int.reduceEq, if_true, if_false, ↓reduceIte]
       first
       | exact ⟨ul hm x.A 11 ++ (ul hm x.B 10 ++ [⟨16, 0, ur hm x.A 11, ur hm x.B 10, 0⟩]), 18, _, fun d => by rw [List.append_assoc, List.append_assoc]; rfl⟩
       | exact ⟨ul hm x.A 10 ++ (ul hm x.B 9 ++ [⟨1, 12, 0, 0, 8 * x.Loc⟩, ⟨20, 0, 0, 0, 0⟩, ⟨14, 11, 2, 12, 0⟩, ⟨16, 0, 11, ur hm x.A 10, 0⟩, ⟨18, 3, 0, 0, 20⟩, ⟨15, ur hm x.B 9, 2, 12, 0⟩, ⟨18, 3, 0, 0, -16⟩, ⟨20, 0, 0, 0, 0⟩, ⟨19, 0, 0, 0, 12⟩, ⟨20, 0, 0, 0, 0⟩]), 19, _, fun d => by rw [List.append_assoc, List.append_assoc]; rfl⟩)
theorem pc_len {hm : List api_Home} {x : api_Ins} (hx : isOp x.Op = true) (d : Int) : (pc hm x d).length = (pc hm x 0).length := by
  cases h : isJ x
  · rw [pc_d hx h]
  · obtain ⟨ini, op, t, e⟩ := pc_j (hm := hm) hx h
    rw [e, e]; simp
theorem pc_20 {hm : List api_Home} {x : api_Ins} (hx : isOp x.Op = true) : 1 ≤ (pc hm x 0).length ∧ (pc hm x 0).length ≤ 20 := by
  have l1 := ul_len hm x.A 11; have l2 := ul_len hm x.B 10; have l3 := ul_len hm x.A 10; have l4 := ul_len hm x.B 9
  have l5 := kp_len hm x.D; have l6 := mv_len hm x.D; have l7 := num_len (ur hm x.D 11) x.K
  have l8 : 1 ≤ (num (ur hm x.D 11) x.K).length := by unfold num num32; split <;> (try split) <;> simp
  rcases isOp_c hx with c | c | c | c | c | c | c | c | c | c | c | c | c | c | c | c | c | c
  all_goals
    simp only [pc, c, Int.reduceEq, if_true, if_false, ↓reduceIte, List.length_append, List.length_cons, List.length_nil, bnd, cal, dcd]
    omega
def emL (hm : List api_Home) (code : List api_Ins) : Nat → List api_Inst
  | 0 => []
  | i + 1 => emL hm code i ++ pc hm (gi code i) 0
def atN (hm : List api_Home) (code : List api_Ins) (i : Nat) : Nat := (emL hm code i).length
def atL (hm : List api_Home) (code : List api_Ins) : Nat → List Int
  | 0 => []
  | i + 1 => atL hm code i ++ [(atN hm code i : Int)]
def jsN (hm : List api_Home) (code : List api_Ins) : Nat → List emit_jump
  | 0 => []
  | i + 1 => jsN hm code i ++ jl hm (gi code i) (atN hm code i)
def dsp (hm : List api_Home) (code : List api_Ins) (i : Nat) : Int := 4 * ((atN hm code (gi code i).To.toNat : Int) - ((atN hm code i : Int) + (pc hm (gi code i) 0).length - 1))
def finN (hm : List api_Home) (code : List api_Ins) : Nat → List api_Inst
  | 0 => []
  | i + 1 => finN hm code i ++ pc hm (gi code i) (dsp hm code i)
def pt (ps : List Int) (out : List api_Inst) (g : emit_jump) : List api_Inst := out.set g.from_.toNat ⟨(gi out g.from_).Op, (gi out g.from_).T, (gi out g.from_).A, (gi out g.from_).B, 4 * (gi ps g.to_ - g.from_)⟩
section
variable {hm : List api_Home} {code : List api_Ins}
theorem atN_succ (i : Nat) : atN hm code (i + 1) = atN hm code i + (pc hm (gi code i) 0).length := by unfold atN; rw [emL, List.length_append]
theorem atL_len : ∀ n, (atL hm code n).length = n
  | 0 => rfl
  | n + 1 => by rw [atL, List.length_append, atL_len n]; rfl
theorem atL_gi : ∀ {n k : Nat}, k < n → gi (atL hm code n) (k : Int) = atN hm code k
  | n + 1, k, h => by
    rw [atL]
    by_cases c : k < n
    · rw [gi_apl (by omega) (by rw [atL_len]; omega), atL_gi c]
    · have : k = n := by omega
      subst this
      exact gi_apa (by rw [atL_len])
theorem atN_le (ho : ∀ i : Nat, i < code.length → isOp (gi code i).Op = true) : ∀ i, i ≤ code.length → atN hm code i ≤ 20 * i
  | 0, _ => Nat.le_refl _
  | i + 1, h => by
    have := atN_le ho i (by omega)
    have := (pc_20 (hm := hm) (ho i (by omega))).2
    rw [atN_succ]; omega
theorem atN_mono (i : Nat) : ∀ {k}, i ≤ k → atN hm code i ≤ atN hm code k
  | 0, h => by
    have : i = 0 := by omega
    subst this; exact Nat.le_refl _
  | k + 1, h => by
    by_cases c : i ≤ k
    · have := atN_mono i c; rw [atN_succ]; omega
    · have : i = k + 1 := by omega
      subst this; exact Nat.le_refl _
theorem finN_len (ho : ∀ i : Nat, i < code.length → isOp (gi code i).Op = true) : ∀ i, i ≤ code.length → (finN hm code i).length = atN hm code i
  | 0, _ => rfl
  | i + 1, h => by rw [finN, List.length_append, finN_len ho i (by omega), pc_len (ho i (by omega)), atN_succ]
theorem jsN_of : ∀ {i : Nat} {g : emit_jump}, g ∈ jsN hm code i → ∃ k : Nat, k < i ∧ isJ (gi code k) = true ∧ g = ⟨(atN hm code k : Int) + (pc hm (gi code k) 0).length - 1, (gi code k).To⟩
  | i + 1, g, h => by
    rw [jsN, List.mem_append] at h
    rcases h with h | h
    · obtain ⟨k, hk, r⟩ := jsN_of h
      exact ⟨k, by omega, r⟩
    · unfold jl at h
      split at h
      · rename_i c
        exact ⟨i, by omega, c, by simpa using h⟩
      · cases h
theorem jsN_len : ∀ i, (jsN hm code i).length ≤ i
  | 0 => Nat.le_refl _
  | i + 1 => by
    have := jsN_len i
    rw [jsN, List.length_append]
    unfold jl; split <;> simp <;> omega
theorem pt_app (ps : List Int) (out r : List api_Inst) (g : emit_jump) (h : 0 ≤ g.from_ ∧ g.from_ < out.length) : pt ps (out ++ r) g = pt ps out g ++ r := by
  unfold pt
  rw [gi_apl h.1 h.2, List.set_append_left _ _ (by omega)]
theorem pt_len (ps : List Int) (out : List api_Inst) (g : emit_jump) : (pt ps out g).length = out.length := by unfold pt; simp
theorem ptf_len (ps : List Int) : ∀ (J : List emit_jump) (out : List api_Inst), (J.foldl (pt ps) out).length = out.length
  | [], out => rfl
  | g :: J, out => by rw [List.foldl_cons, ptf_len ps J, pt_len]
theorem ptf_app (ps : List Int) : ∀ (J : List emit_jump) (out r : List api_Inst), (∀ g ∈ J, 0 ≤ g.from_ ∧ g.from_ < out.length) → J.foldl (pt ps) (out ++ r) = J.foldl (pt ps) out ++ r
  | [], out, r, h => rfl
  | g :: J, out, r, h => by
    rw [List.foldl_cons, List.foldl_cons, pt_app ps out r g (h g (by simp))]
    exact ptf_app ps J _ r fun g' hg' => by rw [pt_len]; exact h g' (by simp [hg'])
theorem js_from (ho : ∀ i : Nat, i < code.length → isOp (gi code i).Op = true) {i : Nat} (hi : i ≤ code.length) {g : emit_jump} (h : g ∈ jsN hm code i) : 0 ≤ g.from_ ∧ g.from_ < atN hm code i := by
  obtain ⟨k, hk, _, rfl⟩ := jsN_of h
  have := (pc_20 (hm := hm) (ho k (by omega))).1
  have h2 := atN_mono (hm := hm) (code := code) (k + 1) (k := i) (by omega)
  rw [atN_succ] at h2
  dsimp only
  omega
theorem fin_eq (ho : ∀ i : Nat, i < code.length → isOp (gi code i).Op = true) (ht : ∀ i : Nat, i < code.length → isJ (gi code i) = true → 0 ≤ (gi code i).To ∧ (gi code i).To < code.length) :
    ∀ i, i ≤ code.length → (jsN hm code i).foldl (pt (atL hm code code.length)) (emL hm code i) = finN hm code i
  | 0, _ => rfl
  | i + 1, h => by
    have hx := ho i (by omega)
    rw [jsN, List.foldl_append, emL, ptf_app _ _ _ _ (fun g hg => js_from ho (by omega) hg), fin_eq ho ht i (by omega), finN]
    unfold jl
    cases c : isJ (gi code i)
    · rw [if_neg (by simp), pc_d hx c (dsp hm code i)]; rfl
    · rw [if_pos rfl, List.foldl_cons, List.foldl_nil]
      have ⟨t0, t1⟩ := ht i (by omega) c
      obtain ⟨ini, op, t, e⟩ := pc_j (hm := hm) hx c
      have e1 : gi (atL hm code code.length) (gi code i).To = atN hm code (gi code i).To.toNat := by
        have := atL_gi (hm := hm) (code := code) (n := code.length) (k := (gi code i).To.toNat) (by omega)
        rwa [Int.toNat_of_nonneg t0] at this
      have hl := finN_len (hm := hm) ho i (by omega)
      have hp : (pc hm (gi code i) 0).length = ini.length + 1 := by rw [e]; simp
      unfold pt dsp
      dsimp only
      rw [e1, hp, e 0, e, ← List.append_assoc]
      have hq : ((atN hm code i : Int) + ((ini.length + 1 : Nat) : Int) - 1) = ((finN hm code i ++ ini).length : Int) := by rw [List.length_append, hl]; omega
      rw [hq, gi_apa rfl, Int.toNat_natCast, List.set_append_right _ _ (Nat.le_refl _), Nat.sub_self, List.append_assoc]
      rfl
end

def hmo (code : List api_Ins) (regs : Int) : List api_Home := (hs code regs code.length).out
def emo (code : List api_Ins) (regs : Int) : List api_Inst := finN (hmo code regs) code code.length
section
variable {code : List api_Ins} {l : List api_Loc} {regs : Int}
theorem made_HB (hr : 1 ≤ regs ∧ regs ≤ 8) (hn : code.length ≤ 400) (hg : Good code code.length) (h : HI code regs code.length (hs code regs code.length)) {j : Nat} (hj : j < code.length) (hm : mks (gi code j) = true) : HB (hmo code regs) (gi code j).D := by
  have h2 := h.o.o2 j hj hm
  have h3 := h.o.ye j hj hm
  have h4 := h.o.s0
  refine ⟨⟨(hg j hj hm).1, h2⟩, ?_⟩
  unfold hmo
  omega
theorem ua_HB (hr : 1 ≤ regs ∧ regs ≤ 8) (hn : code.length ≤ 400) (hg : Good code code.length) (h : HI code regs code.length (hs code regs code.length)) {i : Nat} (hi : i < code.length) {t : Int} (hu : UA code i t) : HB (hmo code regs) t := by
  obtain ⟨k, hk, hm, rfl⟩ := hu
  exact made_HB hr hn hg h (by have := hk.lt; omega) hm
theorem all_PB (hr : 1 ≤ regs ∧ regs ≤ 8) (hR : RP code l) (hl : l.length ≤ 16) (hk : ∀ x ∈ code, -9223372036854775808 ≤ x.K ∧ x.K < 9223372036854775808) (h : HI code regs code.length (hs code regs code.length)) {i : Nat} (hi : i < code.length) : PB (hmo code regs) (gi code i) := by
  have hp := (hR.p i hi).1
  have hw := hR.w i hi
  have hn := hR.n.2
  have hq : (0 ≤ (gi code i).Loc ∧ (gi code i).Loc < 16) ∧ (0 ≤ (gi code i).Len ∧ (gi code i).Len ≤ 16) := by
    have hpl := hp.pl
    unfold PlP at hpl
    cases c : (sh (gi code i).Op).place
    · have := hpl.2 c; omega
    · have ⟨h1, h2, h3, h4, _⟩ := hpl.1 c
      unfold wid at h2 h4
      cases c2 : (sh (gi code i).Op).row
      · have := h1 c2
        rw [c2] at h2 h4
        simp at h2 h4
        omega
      · rw [c2] at h2 h4
        simp at h2 h4
        omega
  exact ⟨hp.op, fun c => made_HB hr hn hR.good h hi (by rw [mks_sh]; exact c), fun c => ua_HB hr hn hR.good h hi (hw.2.1 c), fun c => ua_HB hr hn hR.good h hi (hw.2.2 c), hq.1, hq.2, hk _ (gi_mem (by omega) (by omega))⟩
theorem homes_R (hn : code.length ≤ 400) (hl : l.length ≤ 16) :
    (∃ e : Int, (e = 1 ∨ e = 3) ∧ alloc_Homes.m code l regs = some (.inl e)) ∨
    (RP code l ∧ (1 ≤ regs ∧ regs ≤ 8) ∧ HI code regs code.length (hs code regs code.length) ∧ alloc_Homes.m code l regs = some (.inr (hmo code regs, (hmo code regs).length))) := by
  obtain ⟨r, e, h⟩ := homes_T code l regs hn hl
  obtain ⟨b, hb, hb2⟩ := tree_right code l hn hl
  cases r with
  | inl z => exact .inl ⟨z, h, e⟩
  | inr z =>
    obtain ⟨hg, r1, r2, rfl, hi⟩ := h
    refine .inr ⟨?_, ⟨r1, r2⟩, hi, e⟩
    cases b with
    | true => exact hb2.1 rfl
    | false =>
      unfold alloc_Homes.m at e
      rw [hb, Option.bind_some, if_neg (by simp)] at e
      cases e
theorem l3_loop (hn : code.length ≤ 400) (hp : ∀ i : Nat, i < code.length → PB (hmo code regs) (gi code i)) :
    loop (emit_Emit.l3 code (hmo code regs, (hmo code regs).length)) ((([] : List api_Inst), ([] : List Int), ([] : List emit_jump), 0) : (List api_Inst) × (List Int) × (List emit_jump) × Int) =
      some (emL (hmo code regs) code code.length, atL (hmo code regs) code code.length, jsN (hmo code regs) code code.length) := by
  refine loop_st (f := emit_Emit.l3 code (hmo code regs, (hmo code regs).length)) code.length (fun i => (emL (hmo code regs) code i, atL (hmo code regs) code i, jsN (hmo code regs) code i, (i : Int))) _ (fun i hi => ?_) ?_
  · unfold emit_Emit.l3
    dsimp only
    have ho : ∀ i : Nat, i < code.length → isOp (gi code i).Op = true := fun i hi => (hp i hi).op
    have h1 := atN_le (hm := hmo code regs) ho i (by omega)
    have h2 := jsN_len (hm := hmo code regs) (code := code) i
    have h3 := atL_len (hm := hmo code regs) (code := code) i
    rw [if_pos (by omega), if_pos (by omega)]
    simp only [letC]
    rw [if_pos (by simp only [List.length_cons, List.length_nil]; omega), pieceE (hp i hi) (by unfold atN at h1; omega) (by omega), Option.bind_some, wr64 (by omega)]
    rfl
  · unfold emit_Emit.l3
    dsimp only
    rw [if_neg (by omega)]
theorem l4_loop (hn : code.length ≤ 400) (hp : ∀ i : Nat, i < code.length → PB (hmo code regs) (gi code i)) (ht : ∀ i : Nat, i < code.length → isJ (gi code i) = true → 0 ≤ (gi code i).To ∧ (gi code i).To < code.length) :
    loop (emit_Emit.l4 (emL (hmo code regs) code code.length, atL (hmo code regs) code code.length, jsN (hmo code regs) code code.length)) ((emL (hmo code regs) code code.length, 0) : (List api_Inst) × Int) = some (emo code regs) := by
  have ho : ∀ i : Nat, i < code.length → isOp (gi code i).Op = true := fun i hi => (hp i hi).op
  have hf := fin_eq (hm := hmo code regs) ho ht code.length (Nat.le_refl _)
  have hjl := jsN_len (hm := hmo code regs) (code := code) code.length
  generalize hhm : hmo code regs = hm at *
  generalize hJ : jsN hm code code.length = J at *
  refine loop_st (f := emit_Emit.l4 (emL hm code code.length, atL hm code code.length, J)) J.length (fun j => ((J.take j).foldl (pt (atL hm code code.length)) (emL hm code code.length), (j : Int))) _ (fun j hj => ?_) ?_
  · unfold emit_Emit.l4
    dsimp only
    have hmem : gi J (j : Int) ∈ jsN hm code code.length := by rw [hJ]; exact gi_mem (by omega) (by omega)
    obtain ⟨k, hk, hkj, hg⟩ := jsN_of hmem
    have hfr := js_from ho (Nat.le_refl _) hmem
    have ⟨t0, t1⟩ := ht k hk hkj
    have h3 := atL_len (hm := hm) (code := code) code.length
    have hto : (gi J (j : Int)).to_ = (gi code k).To := by rw [hg]
    have hlen : ((J.take j).foldl (pt (atL hm code code.length)) (emL hm code code.length)).length = atN hm code code.length := by rw [ptf_len]; rfl
    have hal := atN_le (hm := hm) ho code.length (Nat.le_refl _)
    have e1 : gi (atL hm code code.length) (gi J (j : Int)).to_ = atN hm code (gi code k).To.toNat := by
      have := atL_gi (hm := hm) (code := code) (n := code.length) (k := (gi code k).To.toNat) (by omega)
      rw [Int.toNat_of_nonneg t0] at this; rw [hto]; exact this
    have hml := atN_mono (hm := hm) (code := code) (gi code k).To.toNat (k := code.length) (by omega)
    have hel : (emL hm code code.length).length = atN hm code code.length := rfl
    have g1 : (j : Int) < (J.length : Int) := by omega
    have g2 : 0 ≤ (j : Int) ∧ (j : Int) < (J.length : Int) := by omega
    have w1 : wr .i64 ((atN hm code (gi code k).To.toNat : Int) - (gi J (j : Int)).from_) = (atN hm code (gi code k).To.toNat : Int) - (gi J (j : Int)).from_ := wr64 (by omega)
    have w2 : wr .i64 (4 * ((atN hm code (gi code k).To.toNat : Int) - (gi J (j : Int)).from_)) = 4 * ((atN hm code (gi code k).To.toNat : Int) - (gi J (j : Int)).from_) := wr64 (by omega)
    have w3 : wr .i64 ((j : Int) + 1) = ((j + 1 : Nat) : Int) := wr64 (by omega)
    rw [if_pos g1, if_pos g2]
    simp only [letC]
    rw [if_pos (by rw [hto, h3]; exact ⟨t0, t1⟩), if_pos (by rw [hel]; exact hfr), if_pos (by rw [hlen]; exact hfr), e1, w1, w2, w3, take_succ' hj, List.foldl_append]
    simp only [List.foldl_cons, List.foldl_nil, pt, e1]
  · unfold emit_Emit.l4
    dsimp only
    rw [if_neg (by omega), List.take_length, hf]
    unfold emo
    rw [hhm]
theorem emit_R (hn : code.length ≤ 400) (hl : l.length ≤ 16) (hk : ∀ x ∈ code, -9223372036854775808 ≤ x.K ∧ x.K < 9223372036854775808) (c : Nat) :
    (∃ e : Int, (e = 1 ∨ e = 3) ∧ alloc_Homes.m code l regs = some (.inl e) ∧ emit_Emit.m l regs code c = some (.inr (.inl e))) ∨
    (RP code l ∧ (1 ≤ regs ∧ regs ≤ 8) ∧ HI code regs code.length (hs code regs code.length) ∧ (∀ i : Nat, i < code.length → PB (hmo code regs) (gi code i)) ∧ alloc_Homes.m code l regs = some (.inr (hmo code regs, (hmo code regs).length)) ∧
      emit_Emit.m l regs code c = some (.inr (.inr (emo code regs, (emo code regs).length)))) := by
  unfold emit_Emit.m
  rcases homes_R (code := code) (l := l) (regs := regs) hn hl with ⟨e, he, h⟩ | ⟨hR, hr, hi, h⟩
  · refine .inl ⟨e, he, h, ?_⟩
    rw [h, Option.bind_some]
    dsimp only
    rw [if_neg (by omega)]
  · have hp : ∀ i : Nat, i < code.length → PB (hmo code regs) (gi code i) := fun i h' => all_PB hr hR hl hk hi h'
    refine .inr ⟨hR, hr, hi, hp, h, ?_⟩
    rw [h, Option.bind_some]
    dsimp only
    have ho : ∀ i : Nat, i < code.length → isOp (gi code i).Op = true := fun i hi => (hp i hi).op
    rw [l3_loop hn hp, Option.bind_some, l4_loop hn hp (fun i hi hj => by have := (hR.p i hi).1.to1 hj; omega), Option.bind_some]
    have := finN_len (hm := hmo code regs) ho code.length (Nat.le_refl _)
    unfold emo
    rw [this]; rfl
end

def EncI (y : api_Inst) : Prop := Tot (fun r => r.2 = 0) (isa_Encode.m y)
def OkI (y : api_Inst) : Prop := (0 ≤ y.T ∧ y.T < 32) ∧ (0 ≤ y.A ∧ y.A < 32) ∧ (0 ≤ y.B ∧ y.B < 32) ∧
  (((y.Op = 1 ∨ y.Op = 2) ∧ y.B = 0 ∧ -32768 ≤ y.Imm ∧ y.Imm ≤ 32767) ∨ ((y.Op = 3 ∨ y.Op = 4) ∧ y.B = 0 ∧ 0 ≤ y.Imm ∧ y.Imm ≤ 65535) ∨ (y.Op = 5 ∧ y.B = 0 ∧ 0 ≤ y.Imm ∧ y.Imm ≤ 63) ∨
   ((y.Op = 6 ∨ y.Op = 7 ∨ y.Op = 8 ∨ y.Op = 9 ∨ y.Op = 12 ∨ y.Op = 13 ∨ y.Op = 14 ∨ y.Op = 15) ∧ y.Imm = 0) ∨
   ((y.Op = 10 ∨ y.Op = 11) ∧ y.B = 0 ∧ -32768 ≤ y.Imm ∧ y.Imm ≤ 32764 ∧ y.Imm % 4 = 0) ∨ (y.Op = 16 ∧ y.T = 0 ∧ y.Imm = 0) ∨ (y.Op = 17 ∧ y.T = 0 ∧ y.B = 0 ∧ -32768 ≤ y.Imm ∧ y.Imm ≤ 32767) ∨
   (y.Op = 18 ∧ y.T ≤ 3 ∧ y.A = 0 ∧ y.B = 0 ∧ -32768 ≤ y.Imm ∧ y.Imm ≤ 32764 ∧ y.Imm % 4 = 0) ∨ (y.Op = 19 ∧ y.T = 0 ∧ y.A = 0 ∧ y.B = 0 ∧ -33554432 ≤ y.Imm ∧ y.Imm ≤ 33554428 ∧ y.Imm % 4 = 0) ∨
   ((y.Op = 20 ∨ y.Op = 21 ∨ y.Op = 22 ∨ y.Op = 23) ∧ y.T = 0 ∧ y.A = 0 ∧ y.B = 0 ∧ y.Imm = 0))
theorem enc_of {y : api_Inst} {f : Int} (hf : (isa_formOf.m y.Op).1 = f) (hc : isa_check.m f y = some 0) : EncI y := by
  unfold EncI isa_Encode.m
  refine .let fun r hr => ?_
  rw [← hr] at hf
  rw [hf]
  refine .bindE hc (.tt rfl ?_)
  simp only [letC]
  refine .bind (R := fun _ => True) ?_ fun o _ => .some rfl
  repeat' first | exact .some trivial | refine .ite (fun _ => ?_) fun _ => ?_
theorem reg_ok {n : Int} (h : 0 ≤ n ∧ n < 32) : isa_reg.m n = true := by
  unfold isa_reg.m
  rw [if_pos (by omega)]; exact decide_eq_true h.2
theorem tmod4 {n : Int} (h : n % 4 = 0) : Int.tmod n 4 = 0 := Int.tmod_eq_zero_of_dvd (Int.dvd_of_emod_eq_zero h)
theorem enc_ok {y : api_Inst} (h : OkI y) : EncI y := by
  obtain ⟨hT, hA, hB, h⟩ := h
  have r0 : isa_reg.m 0 = true := rfl
  have rT := reg_ok hT; have rA := reg_ok hA; have rB := reg_ok hB
  rcases h with ⟨ho, h⟩ | ⟨ho, h⟩ | ⟨ho, h⟩ | ⟨ho, h⟩ | ⟨ho, h⟩ | ⟨ho, h⟩ | ⟨ho, h⟩ | ⟨ho, h⟩ | ⟨ho, h⟩ | ⟨ho, h⟩
  · refine enc_of (f := 1) (by rcases ho with c | c <;> rw [c] <;> rfl) ?_
    unfold isa_check.m; simp only [isa_used.m, letC]
    have n1 : ¬ y.Imm < -32768 := by omega
    have n2 : ¬ 32767 < y.Imm := by omega
    simp [r0, n1, n2, rT, rA, rB, h]
  · refine enc_of (f := 2) (by rcases ho with c | c <;> rw [c] <;> rfl) ?_
    unfold isa_check.m; simp only [isa_used.m, letC]
    have n1 : ¬ y.Imm < 0 := by omega
    have n2 : ¬ 65535 < y.Imm := by omega
    simp [r0, n1, n2, rT, rA, rB, h]
  · refine enc_of (f := 3) (by rw [ho]; rfl) ?_
    unfold isa_check.m; simp only [isa_used.m, letC]
    have n1 : ¬ y.Imm < 0 := by omega
    have n2 : ¬ 63 < y.Imm := by omega
    simp [r0, n1, n2, rT, rA, rB, h]
  · refine enc_of (f := 4) (by rcases ho with c | c | c | c | c | c | c | c <;> rw [c] <;> rfl) ?_
    unfold isa_check.m; simp only [isa_used.m, letC]
    simp [rT, rA, rB, h]
  · have := tmod4 h.2.2.2
    refine enc_of (f := 5) (by rcases ho with c | c <;> rw [c] <;> rfl) ?_
    unfold isa_check.m; simp only [isa_used.m, letC]
    have n1 : ¬ y.Imm < -32768 := by omega
    have n2 : ¬ 32764 < y.Imm := by omega
    simp [r0, n1, n2, rT, rA, rB, h, this]
  · refine enc_of (f := 6) (by rw [ho]; rfl) ?_
    unfold isa_check.m; simp only [isa_used.m, letC]
    rw [h.1] at rT
    simp [rT, rA, rB, h]
  · refine enc_of (f := 7) (by rw [ho]; rfl) ?_
    unfold isa_check.m; simp only [isa_used.m, letC]
    rw [h.1] at rT
    have n1 : ¬ y.Imm < -32768 := by omega
    have n2 : ¬ 32767 < y.Imm := by omega
    simp [r0, n1, n2, rT, rA, rB, h]
  · have := tmod4 h.2.2.2.2.2
    refine enc_of (f := 8) (by rw [ho]; rfl) ?_
    unfold isa_check.m; simp only [isa_used.m, letC]
    rw [h.2.1] at rA
    have n1 : ¬ y.Imm < -32768 := by omega
    have n2 : ¬ 32764 < y.Imm := by omega
    have n3 : ¬ y.T < 0 := by omega
    have n4 : ¬ 3 < y.T := by omega
    simp [r0, n1, n2, n3, n4, rT, rA, rB, h, this]
  · have := tmod4 h.2.2.2.2.2
    refine enc_of (f := 9) (by rw [ho]; rfl) ?_
    unfold isa_check.m; simp only [isa_used.m, letC]
    rw [h.1] at rT
    have n1 : ¬ y.Imm < -33554432 := by omega
    have n2 : ¬ 33554428 < y.Imm := by omega
    simp [r0, n1, n2, rT, rA, rB, h, this]
  · refine enc_of (f := 10) (by rcases ho with c | c | c | c <;> rw [c] <;> rfl) ?_
    unfold isa_check.m; simp only [isa_used.m, letC]
    rw [h.1] at rT
    simp [rT, rA, rB, h]
theorem z32 : 0 ≤ (0 : Int) ∧ (0 : Int) < 32 := by decide
section
variable {op t a b i : Int}
theorem kS (ho : op = 1 ∨ op = 2) (ht : 0 ≤ t ∧ t < 32) (ha : 0 ≤ a ∧ a < 32) (hi : -32768 ≤ i ∧ i ≤ 32767) : OkI ⟨op, t, a, 0, i⟩ := ⟨ht, ha, z32, .inl ⟨ho, rfl, hi⟩⟩
theorem kL (ho : op = 3 ∨ op = 4) (ht : 0 ≤ t ∧ t < 32) (ha : 0 ≤ a ∧ a < 32) (hi : 0 ≤ i ∧ i ≤ 65535) : OkI ⟨op, t, a, 0, i⟩ := ⟨ht, ha, z32, .inr (.inl ⟨ho, rfl, hi⟩)⟩
theorem kF (ho : op = 5) (ht : 0 ≤ t ∧ t < 32) (ha : 0 ≤ a ∧ a < 32) (hi : 0 ≤ i ∧ i ≤ 63) : OkI ⟨op, t, a, 0, i⟩ := ⟨ht, ha, z32, .inr (.inr (.inl ⟨ho, rfl, hi⟩))⟩
theorem kT (ho : op = 6 ∨ op = 7 ∨ op = 8 ∨ op = 9 ∨ op = 12 ∨ op = 13 ∨ op = 14 ∨ op = 15) (ht : 0 ≤ t ∧ t < 32) (ha : 0 ≤ a ∧ a < 32) (hb : 0 ≤ b ∧ b < 32) : OkI ⟨op, t, a, b, 0⟩ := ⟨ht, ha, hb, .inr (.inr (.inr (.inl ⟨ho, rfl⟩)))⟩
theorem kD (ho : op = 10 ∨ op = 11) (ht : 0 ≤ t ∧ t < 32) (ha : 0 ≤ a ∧ a < 32) (hi : -32768 ≤ i ∧ i ≤ 32764 ∧ i % 4 = 0) : OkI ⟨op, t, a, 0, i⟩ := ⟨ht, ha, z32, .inr (.inr (.inr (.inr (.inl ⟨ho, rfl, hi⟩))))⟩
theorem kH (ho : op = 16) (ha : 0 ≤ a ∧ a < 32) (hb : 0 ≤ b ∧ b < 32) : OkI ⟨op, 0, a, b, 0⟩ := ⟨z32, ha, hb, .inr (.inr (.inr (.inr (.inr (.inl ⟨ho, rfl, rfl⟩)))))⟩
theorem kI (ho : op = 17) (ha : 0 ≤ a ∧ a < 32) (hi : -32768 ≤ i ∧ i ≤ 32767) : OkI ⟨op, 0, a, 0, i⟩ := ⟨z32, ha, z32, .inr (.inr (.inr (.inr (.inr (.inr (.inl ⟨ho, rfl, rfl, hi⟩))))))⟩
theorem kB (ho : op = 18) (ht : 0 ≤ t ∧ t ≤ 3) (hi : -32768 ≤ i ∧ i ≤ 32764 ∧ i % 4 = 0) : OkI ⟨op, t, 0, 0, i⟩ := ⟨⟨ht.1, by have := ht.2; dsimp only; omega⟩, z32, z32, .inr (.inr (.inr (.inr (.inr (.inr (.inr (.inl ⟨ho, ht.2, rfl, rfl, hi⟩)))))))⟩
theorem kJ (ho : op = 19) (hi : -33554432 ≤ i ∧ i ≤ 33554428 ∧ i % 4 = 0) : OkI ⟨op, 0, 0, 0, i⟩ := ⟨z32, z32, z32, .inr (.inr (.inr (.inr (.inr (.inr (.inr (.inr (.inl ⟨ho, rfl, rfl, rfl, hi⟩))))))))⟩
theorem kO (ho : op = 20 ∨ op = 21 ∨ op = 22 ∨ op = 23) : OkI ⟨op, 0, 0, 0, 0⟩ := ⟨z32, z32, z32, .inr (.inr (.inr (.inr (.inr (.inr (.inr (.inr (.inr ⟨ho, rfl, rfl, rfl, rfl⟩))))))))⟩
end
def AllE (ys : List api_Inst) : Prop := ∀ y ∈ ys, OkI y
theorem AllE.nil : AllE [] := fun y h => by cases h
theorem AllE.cons {y : api_Inst} {ys : List api_Inst} (h : OkI y) (k : AllE ys) : AllE (y :: ys) := fun z hz => by
  rcases List.mem_cons.1 hz with rfl | c
  · exact h
  · exact k z c
theorem AllE.app {xs ys : List api_Inst} (h : AllE xs) (k : AllE ys) : AllE (xs ++ ys) := fun z hz => by
  rcases List.mem_append.1 hz with c | c
  · exact h z c
  · exact k z c
section
variable {hm : List api_Home} {x : api_Ins}
theorem ur_b {t sp : Int} (h : HB hm t) (hs : 0 ≤ sp ∧ sp < 32) : 0 ≤ ur hm t sp ∧ ur hm t sp < 32 := by
  have := h.h
  unfold ur; split <;> omega
theorem ul_all {t sp : Int} (h : HB hm t) (hs : 0 ≤ sp ∧ sp < 32) : AllE (ul hm t sp) := by
  have := h.h
  unfold ul; split
  · exact .nil
  · exact .cons (by first | exact kS (by decide) (by omega) (by omega) (by omega) | exact kL (by decide) (by omega) (by omega) (by omega) | exact kF (by decide) (by omega) (by omega) (by omega) | exact kT (by decide) (by omega) (by omega) (by omega) | exact kD (by decide) (by omega) (by omega) (by omega) | exact kH (by decide) (by omega) (by omega) | exact kI (by decide) (by omega) (by omega) | exact kB (by decide) (by omega) (by omega) | exact kJ (by decide) (by omega) | exact kO (by decide)) .nil
theorem kp_all {t : Int} (h : HB hm t) : AllE (kp hm t) := by
  have := h.h
  unfold kp; split
  · exact .nil
  · exact .cons (by first | exact kS (by decide) (by omega) (by omega) (by omega) | exact kL (by decide) (by omega) (by omega) (by omega) | exact kF (by decide) (by omega) (by omega) (by omega) | exact kT (by decide) (by omega) (by omega) (by omega) | exact kD (by decide) (by omega) (by omega) (by omega) | exact kH (by decide) (by omega) (by omega) | exact kI (by decide) (by omega) (by omega) | exact kB (by decide) (by omega) (by omega) | exact kJ (by decide) (by omega) | exact kO (by decide)) .nil
theorem mv_all {t : Int} (h : HB hm t) : AllE (mv hm t) := by
  have := h.h
  unfold mv; split
  · exact .cons (by first | exact kS (by decide) (by omega) (by omega) (by omega) | exact kL (by decide) (by omega) (by omega) (by omega) | exact kF (by decide) (by omega) (by omega) (by omega) | exact kT (by decide) (by omega) (by omega) (by omega) | exact kD (by decide) (by omega) (by omega) (by omega) | exact kH (by decide) (by omega) (by omega) | exact kI (by decide) (by omega) (by omega) | exact kB (by decide) (by omega) (by omega) | exact kJ (by decide) (by omega) | exact kO (by decide)) .nil
  · exact .nil
theorem num_all {r n : Int} (hr : 0 ≤ r ∧ r < 32) : AllE (num r n) := by
  have h32 : ∀ n : Int, AllE (num32 r n) := fun n => by
    unfold num32
    exact .cons (kS (by decide) (by omega) (by omega) (by unfold wrap16; omega)) (.cons (by first | exact kS (by decide) (by omega) (by omega) (by omega) | exact kL (by decide) (by omega) (by omega) (by omega) | exact kF (by decide) (by omega) (by omega) (by omega) | exact kT (by decide) (by omega) (by omega) (by omega) | exact kD (by decide) (by omega) (by omega) (by omega) | exact kH (by decide) (by omega) (by omega) | exact kI (by decide) (by omega) (by omega) | exact kB (by decide) (by omega) (by omega) | exact kJ (by decide) (by omega) | exact kO (by decide)) .nil)
  unfold num
  split
  · exact .cons (by first | exact kS (by decide) (by omega) (by omega) (by omega) | exact kL (by decide) (by omega) (by omega) (by omega) | exact kF (by decide) (by omega) (by omega) (by omega) | exact kT (by decide) (by omega) (by omega) (by omega) | exact kD (by decide) (by omega) (by omega) (by omega) | exact kH (by decide) (by omega) (by omega) | exact kI (by decide) (by omega) (by omega) | exact kB (by decide) (by omega) (by omega) | exact kJ (by decide) (by omega) | exact kO (by decide)) .nil
  · split
    · exact .app (h32 _) (.cons (by first | exact kS (by decide) (by omega) (by omega) (by omega) | exact kL (by decide) (by omega) (by omega) (by omega) | exact kF (by decide) (by omega) (by omega) (by omega) | exact kT (by decide) (by omega) (by omega) (by omega) | exact kD (by decide) (by omega) (by omega) (by omega) | exact kH (by decide) (by omega) (by omega) | exact kI (by decide) (by omega) (by omega) | exact kB (by decide) (by omega) (by omega) | exact kJ (by decide) (by omega) | exact kO (by decide)) (.cons (by first | exact kS (by decide) (by omega) (by omega) (by omega) | exact kL (by decide) (by omega) (by omega) (by omega) | exact kF (by decide) (by omega) (by omega) (by omega) | exact kT (by decide) (by omega) (by omega) (by omega) | exact kD (by decide) (by omega) (by omega) (by omega) | exact kH (by decide) (by omega) (by omega) | exact kI (by decide) (by omega) (by omega) | exact kB (by decide) (by omega) (by omega) | exact kJ (by decide) (by omega) | exact kO (by decide)) (.cons (by first | exact kS (by decide) (by omega) (by omega) (by omega) | exact kL (by decide) (by omega) (by omega) (by omega) | exact kF (by decide) (by omega) (by omega) (by omega) | exact kT (by decide) (by omega) (by omega) (by omega) | exact kD (by decide) (by omega) (by omega) (by omega) | exact kH (by decide) (by omega) (by omega) | exact kI (by decide) (by omega) (by omega) | exact kB (by decide) (by omega) (by omega) | exact kJ (by decide) (by omega) | exact kO (by decide)) .nil)))
    · exact h32 _
theorem pc_all (hx : PB hm x) {d : Int} (hd0 : -32768 ≤ d ∧ d ≤ 32764) (hd4 : d % 4 = 0) : AllE (pc hm x d) := by
  have hd := hx.d; have ha := hx.a; have hb := hx.b; have hk := hx.k; have hl := hx.loc; have hn := hx.len
  rcases isOp_c hx.op with c | c | c | c | c | c | c | c | c | c | c | c | c | c | c | c | c | c
  all_goals
    rw [c] at hd ha hb
    simp only [sh_1, sh_2, sh_3, sh_4, sh_5, sh_6, sh_7, sh_8, sh_9, sh_10, sh_11, sh_12, sh_13, sh_14, sh_15, sh_16, sh_17, sh_18, forall_const, Bool.false_eq_true, false_implies] at hd ha hb
    simp only [pc, c, Int.reduceEq, if_true, if_false, ↓reduceIte, bnd, cal, dcd]
    try have q1 := ur_b (sp := 11) ha (by omega)
    try have q2 := ur_b (sp := 10) ha (by omega)
    try have q3 := ur_b (sp := 10) hb (by omega)
    try have q4 := ur_b (sp := 9) hb (by omega)
    try have q5 := ur_b (sp := 11) hd (by omega)
    repeat' with_reducible first | exact AllE.nil | exact ul_all (by assumption) (by omega) | exact kp_all (by assumption) | exact mv_all (by assumption) | exact num_all (by assumption) | refine AllE.cons (by first | exact kS (by decide) (by omega) (by omega) (by omega) | exact kL (by decide) (by omega) (by omega) (by omega) | exact kF (by decide) (by omega) (by omega) (by omega) | exact kT (by decide) (by omega) (by omega) (by omega) | exact kD (by decide) (by omega) (by omega) (by omega) | exact kH (by decide) (by omega) (by omega) | exact kI (by decide) (by omega) (by omega) | exact kB (by decide) (by omega) (by omega) | exact kJ (by decide) (by omega) | exact kO (by decide)) ?_ | refine AllE.app ?_ ?_
end
end Go.Proofs.Ytbhekpcimmaijaa.W
set_option maxRecDepth 100000
namespace Go.Proofs.Ytbhekpcimmaijaa.W
open Go Go.RowKit Go.Proofs.Ytbhekpcimmaijaa Go.Proofs.Ytbhekpcimmaijaa.X
open Go.Proofs.Ytbhekpcimmaijaa.B (wr aget aset loop loop_in loop_out loop_tot)

theorem emit2 (code : List api_Ins) (l : List api_Loc) (regs : Int) (n : Nat) : emit_Emit_2.m code l regs = emit_Emit.m l regs code n := rfl
end Go.Proofs.Ytbhekpcimmaijaa.W
namespace Go.Proofs.Ytbhekpcimmaijaa.W
open Go Go.RowKit Go.Proofs.Ytbhekpcimmaijaa Go.Proofs.Ytbhekpcimmaijaa.X
open Go.Proofs.Ytbhekpcimmaijaa.B (wr aget aset loop loop_in loop_out loop_tot wrap16)

def InsW (x : api_Ins) : Prop := (Lit.int .i64 x.Op).wf = true ∧ (Lit.int .i64 x.D).wf = true ∧ (Lit.int .i64 x.A).wf = true ∧ (Lit.int .i64 x.B).wf = true ∧ (Lit.int .i64 x.Loc).wf = true ∧ (Lit.int .i64 x.Len).wf = true ∧ (Lit.int .i64 x.K).wf = true ∧ (Lit.int .i64 x.To).wf = true
theorem wf_in {n : Int} (h : (Lit.int .i64 n).wf = true) : -9223372036854775808 ≤ n ∧ n < 9223372036854775808 := by
  simp [Lit.wf, IntKind.max, IntKind.min, IntKind.bits, IntKind.signed] at h
  omega
theorem InsW.ks {code : List api_Ins} (h : ∀ x ∈ code, InsW x) : ∀ x ∈ code, -9223372036854775808 ≤ x.K ∧ x.K < 9223372036854775808 := fun x hx => wf_in (h x hx).2.2.2.2.2.2.1
section
variable {code : List api_Ins} {hm : List api_Home}
theorem dsp_b (hn : code.length ≤ 400) (hp : ∀ i : Nat, i < code.length → PB hm (gi code i)) {i : Nat} (hi : i < code.length) (hj : isJ (gi code i) = true) (ht : (i : Int) + 1 < (gi code i).To ∧ (gi code i).To < code.length) : 0 ≤ dsp hm code i ∧ dsp hm code i ≤ 32764 ∧ dsp hm code i % 4 = 0 := by
  have ho : ∀ i : Nat, i < code.length → isOp (gi code i).Op = true := fun i hi => (hp i hi).op
  have h1 := atN_le (hm := hm) ho code.length (Nat.le_refl _)
  have h2 := atN_mono (hm := hm) (code := code) (i + 1) (k := (gi code i).To.toNat) (by omega)
  have h3 := atN_mono (hm := hm) (code := code) (gi code i).To.toNat (k := code.length) (by omega)
  have h4 := (pc_20 (hm := hm) (ho i hi)).1
  have h5 := atN_succ (hm := hm) (code := code) i
  unfold dsp
  omega
theorem finN_all (hn : code.length ≤ 400) (hp : ∀ i : Nat, i < code.length → PB hm (gi code i)) (ht : ∀ i : Nat, i < code.length → isJ (gi code i) = true → (i : Int) + 1 < (gi code i).To ∧ (gi code i).To < code.length) : ∀ i, i ≤ code.length → AllE (finN hm code i)
  | 0, _ => AllE.nil
  | i + 1, h => by
    rw [finN]
    refine (finN_all hn hp ht i (by omega)).app ?_
    cases c : isJ (gi code i)
    · rw [pc_d (hp i (by omega)).op c]
      exact pc_all (hp i (by omega)) (by omega) (by omega)
    · have := dsp_b hn hp (by omega) c (ht i (by omega) c)
      exact pc_all (hp i (by omega)) (by omega) this.2.2
end
theorem copy_eq (code : List api_Ins) (hn : code.length ≤ 410) : selvageref10_Copy.m code = some code := by
  unfold selvageref10_Copy.m
  rw [if_pos (by simp; omega)]
  rfl
theorem same_eq (code : List api_Ins) (hn : code.length ≤ 410) : selvageref10_Same.m code code = some true := by
  unfold selvageref10_Same.m
  rw [if_pos rfl]
  have := loop_st (f := selvageref10_Same.l1 code code) code.length (fun i => (i : Int)) (.inr ()) (fun i hi => ?_) (by unfold selvageref10_Same.l1; rw [if_neg (by omega)])
  · rw [show (0 : Int) = ((0 : Nat) : Int) from rfl, this]; rfl
  · unfold selvageref10_Same.l1
    rw [if_pos (by omega), if_pos (by omega)]
    simp only [letC]
    rw [if_pos (by omega), if_pos (by simp), wr64 (by omega)]
    rfl
theorem pureEmitWords (a : List api_Ins) (l : List api_Loc) (regs : Int) {p q r : Prop} (w0 : p ∧ ∀ x ∈ a, InsW x) (w1 : q) (w2 : r) : selvagelaw17_EmitWords.m a l regs = some true := by
  suffices h : Tot (fun b => b = true) (selvagelaw17_EmitWords.m a l regs) by
    obtain ⟨b, e, rfl⟩ := h; exact e
  unfold selvagelaw17_EmitWords.m
  refine .bindE selvagelaw17_awake_eq (.tt rfl ?_)
  refine .bind (R := fun b => b = false → a.length ≤ 150 ∧ l.length ≤ 16) (.let fun v hv => .ite (fun h => .some fun e => ?_) fun _ => .some fun e => by cases e) fun b hb => .ite (fun _ => .some rfl) fun hbf => ?_
  · have := of_decide_eq_false e
    rw [hv] at h
    unfold selvagelaw17_small.m at h
    refine ⟨by omega, ?_⟩
    split at h
    · split at h
      · omega
      · cases h
    · cases h
  obtain ⟨ha, hl⟩ := hb (by simpa using hbf)
  refine .bindE (copy_eq a (by omega)) ?_
  rw [emit2 a l regs 0]
  have hh := rhomes a l regs (by omega) hl
  rcases emit_R (code := a) (l := l) (regs := regs) (by omega) hl (InsW.ks w0.2) 0 with ⟨e, he, h1, h2⟩ | ⟨hR, hr, hi, hp, h1, h2⟩
  · rw [h1] at hh
    refine .bindE h2 (.bindE hh ?_)
    refine .bindE (y := false) (by rw [if_pos rfl, same_eq a (by omega)]; rfl) (.ff (by decide) ?_)
    refine .bindE (loop_out (o := ()) (by unfold selvagelaw17_EmitWords.l3; rfl)) (.tt (by simp; omega) ?_)
    refine .let fun v hv => .some (decide_eq_true ?_)
    rw [hv, wr64 (by omega)]; omega
  · rw [h1] at hh
    have ho : ∀ i : Nat, i < a.length → isOp (gi a i).Op = true := fun i hi => (hp i hi).op
    have hlen : (emo a regs).length = atN (hmo a regs) a a.length := finN_len ho _ (Nat.le_refl _)
    have hle := atN_le (hm := hmo a regs) ho a.length (Nat.le_refl _)
    have hal : AllE (emo a regs) := finN_all (by omega) hp (fun i hi hj => by have := (hR.p i hi).1.to1 hj; omega) _ (Nat.le_refl _)
    have h0 : 1 ≤ (emo a regs).length := by
      have hn := hR.n.1
      have h3 := atN_mono (hm := hmo a regs) (code := a) 1 (k := a.length) hn
      have h4 : atN (hmo a regs) a 1 = atN (hmo a regs) a 0 + (pc (hmo a regs) (gi a ((0 : Nat) : Int)) 0).length := atN_succ (hm := hmo a regs) (code := a) 0
      have h5 : 1 ≤ (pc (hmo a regs) (gi a ((0 : Nat) : Int)) 0).length := (pc_20 (hm := hmo a regs) (ho 0 (by omega))).1
      omega
    generalize emo a regs = out at *
    refine .bindE h2 (.bindE hh (.bindE (same_eq a (by omega)) (.tt rfl ?_)))
    have h6 := loop_st (f := selvagelaw17_EmitWords.l6 (out, out.length)) out.length (fun i => (i : Int)) (.inr ()) (fun i hi => ?_) (by unfold selvagelaw17_EmitWords.l6; rw [if_neg (by dsimp only; omega)])
    · refine .bindE h6 (.tt (by simp; omega) (.let fun v hv => .some (decide_eq_true ?_)))
      rw [hv, wr64 (by omega)]
      dsimp only
      omega
    · unfold selvagelaw17_EmitWords.l6
      dsimp only
      rw [if_pos (by omega), if_pos (by omega), if_pos (by omega)]
      obtain ⟨w, hw, hw2⟩ := enc_ok (hal (gi out (i : Int)) (gi_mem (by omega) (by omega)))
      simp only [letC]
      rw [hw, Option.bind_some, if_pos hw2, wr64 (by omega)]
      rfl
end Go.Proofs.Ytbhekpcimmaijaa.W
