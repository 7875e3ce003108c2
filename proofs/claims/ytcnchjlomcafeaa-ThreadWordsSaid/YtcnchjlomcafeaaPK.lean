/- Chapter 16: the document's state and the thread's. -/
import Derived.Test.YtcnchjlomcafeaaPJ
import Derived.Test.YtcnchjlomcafeaaF42
import Derived.Test.YtcnchjlomcafeaaG4
import Derived.Test.YtcnchjlomcafeaaF45
set_option linter.unusedVariables false
set_option linter.unusedSimpArgs false
namespace Go.Proofs.Ytcnchjlomcafeaa.W
open Go Go.RowKit Go.Proofs.Ytcnchjlomcafeaa.B
abbrev St := selvageref16_state
structure CR (c : thread_cell) (d : selvageref16_Cell) : Prop where
  n : d.N = c.n
  hl : HL c.hang d.Hang
  rg : -9223372036854775808 ≤ c.n ∧ c.n < 9223372036854775808
structure Rel (t : Thr) (s : St) : Prop where
  locs : s.locs = t.locs
  base : s.base = t.base
  ans : s.answers = t.answers
  ev : s.events = t.out
  regs : ∀ i : Int, 0 ≤ i → i < 32 → CR (vg t.regs i) (vg s.regs i)
  stack : ∀ i : Int, 0 ≤ i → i < 400 → CR (vg t.stack i) (vg s.stack i)
  less : t.less = decide (s.cmp.N < 0)
  same : t.same = decide (s.cmp.N = 0)
  held : HL t.held s.cmp.Hang
  ctrl : HL t.ctrl s.ctrl
  fenced : HL t.fenced s.fenced
  hold : s.hold = t.hold
  event : t.hold ≥ 0 → s.held = t.event + 1 ∧ 0 ≤ t.event ∧ t.event < 64
  lo : 0 ≤ t.locs ∧ t.locs ≤ 16
  len : t.out.length ≤ 64
  bs : 1048576 ≤ t.base ∧ t.base ≤ 1310720
  wide : ∀ n ∈ t.answers, -9223372036854775808 ≤ n ∧ n < 9223372036854775808
/-- What an instruction's end is, on both sides. -/
def Got (r : Option (Int × St)) : Eff → Prop
  | .inl q => ∃ s', r = some (q.1, s') ∧ q.1 ≠ 0 ∧ s'.events = q.2.out
  | .inr q => ∃ s', r = some (0, s') ∧ q.1 = 1 ∧ Rel q.2 s'
theorem w_in (x : Int) : -9223372036854775808 ≤ wrap64 x ∧ wrap64 x < 9223372036854775808 := by unfold wrap64; omega
/-! ### where an address is -/
theorem where_l0 (s : St) (a : Int) (hl : 0 ≤ s.locs ∧ s.locs ≤ 16) : loop (selvageref16_state_where.l0 s a) 0 =
    some (if 0 ≤ a - 65536 ∧ a - 65536 < 8 * s.locs ∧ (a - 65536) % 8 = 0 then .inr (1, (a - 65536) / 8) else .inl ()) := by
  refine loop_to _ (fun i : Int => 0 ≤ i ∧ i ≤ s.locs ∧ (0 ≤ a - 65536 ∧ a - 65536 < 8 * s.locs ∧ (a - 65536) % 8 = 0 → i ≤ (a - 65536) / 8)) (fun i : Int => (s.locs - i).toNat) ?_ 0 ⟨by omega, by omega, by omega⟩
  rintro i ⟨h0, h1, h2⟩
  unfold selvageref16_state_where.l0
  by_cases hi : i < s.locs
  · have e1 : wrap64 (8 * i) = 8 * i := w64 (by omega)
    have e2 : wrap64 (65536 + 8 * i) = 65536 + 8 * i := w64 (by omega)
    rw [if_pos (by simpa using hi), e1, e2]
    by_cases he : a = 65536 + 8 * i
    · right
      rw [if_pos (by simpa using he), if_pos (by omega), show (a - 65536) / 8 = i by omega]; rfl
    · left
      rw [if_neg (by simpa using he)]
      exact ⟨i + 1, by rw [w64 (show _ ∧ _ by omega)], ⟨by omega, by omega, by omega⟩, by omega⟩
  · right
    rw [if_neg (by simpa using hi), if_neg (by omega)]; rfl
theorem where_l1 (s : St) (a : Int) (hb : 1048576 ≤ s.base ∧ s.base ≤ 1310720) : loop (selvageref16_state_where.l1 s a) 0 =
    some (if 0 ≤ a - s.base ∧ a - s.base < 3200 ∧ (a - s.base) % 8 = 0 then .inr (2, (a - s.base) / 8) else .inl ()) := by
  refine loop_to _ (fun i : Int => 0 ≤ i ∧ i ≤ 400 ∧ (0 ≤ a - s.base ∧ a - s.base < 3200 ∧ (a - s.base) % 8 = 0 → i ≤ (a - s.base) / 8)) (fun i : Int => (400 - i).toNat) ?_ 0 ⟨by omega, by omega, by omega⟩
  rintro i ⟨h0, h1, h2⟩
  unfold selvageref16_state_where.l1
  by_cases hi : i < 400
  · have e1 : wrap64 (8 * i) = 8 * i := w64 (by omega)
    have e2 : wrap64 (s.base + 8 * i) = s.base + 8 * i := w64 (by omega)
    rw [if_pos (by simpa using hi), e1, e2]
    by_cases he : a = s.base + 8 * i
    · right
      rw [if_pos (by simpa using he), if_pos (by omega), show (a - s.base) / 8 = i by omega]; rfl
    · left
      rw [if_neg (by simpa using he)]
      exact ⟨i + 1, by rw [w64 (show _ ∧ _ by omega)], ⟨by omega, by omega, by omega⟩, by omega⟩
  · right
    rw [if_neg (by simpa using hi), if_neg (by omega)]; rfl
def plW : Option Int → Int × Int
  | none => (0, 0)
  | some p => if p < 0 then (2, wrap64 (-1 - p)) else (1, p)
theorem where_eq {t : Thr} {s : St} (v : Rel t s) {a : Int} (ha : -9223372036854775808 ≤ a ∧ a < 9223372036854775808) :
    selvageref16_state_where.m s a = some (plW (plc t.locs t.base a)) := by
  have hl := v.lo
  have hb := v.bs
  unfold selvageref16_state_where.m
  rw [where_l0 s a (by rw [v.locs]; exact hl), v.locs, Option.bind_some]
  have w1 : wrap64 (8 * t.locs) = 8 * t.locs := w64 (by omega)
  unfold plc
  rw [w1]
  by_cases h1 : 0 ≤ a - 65536 ∧ a - 65536 < 8 * t.locs ∧ (a - 65536) % 8 = 0
  · have w2 : wrap64 (a - 65536) = a - 65536 := w64 (by omega)
    rw [if_pos h1, w2, tdiv8 (by omega), Int.tmod_eq_emod_of_nonneg (by omega), if_pos ⟨⟨h1.1, h1.2.1⟩, h1.2.2⟩, w64 (show _ ∧ _ by omega)]
    simp only [plW]
    rw [if_neg (by omega)]
  · have n1 : ¬ ((wrap64 (a - 65536) ≥ 0 ∧ wrap64 (a - 65536) < 8 * t.locs) ∧ Int.tmod (wrap64 (a - 65536)) 8 = 0) := by
      rintro ⟨⟨g1, g2⟩, g3⟩
      rw [Int.tmod_eq_emod_of_nonneg g1] at g3
      have : wrap64 (a - 65536) = a - 65536 := by unfold wrap64 at g1 g2 ⊢; omega
      rw [this] at g1 g2 g3
      exact h1 ⟨g1, g2, g3⟩
    rw [if_neg h1, if_neg n1]
    simp only []
    rw [where_l1 s a (by rw [v.base]; exact hb), v.base, Option.bind_some]
    by_cases h2 : 0 ≤ a - t.base ∧ a - t.base < 3200 ∧ (a - t.base) % 8 = 0
    · have w2 : wrap64 (a - t.base) = a - t.base := w64 (by omega)
      rw [if_pos h2, w2, tdiv8 (by omega), Int.tmod_eq_emod_of_nonneg (by omega), if_pos ⟨⟨h2.1, h2.2.1⟩, h2.2.2⟩, w64 (show -9223372036854775808 ≤ (a - t.base) / 8 ∧ _ by omega), w64 (show _ ∧ _ by omega)]
      simp only [plW]
      rw [if_pos (by omega), w64 (show _ ∧ _ by omega)]
      congr 2; omega
    · have n2 : ¬ ((wrap64 (a - t.base) ≥ 0 ∧ wrap64 (a - t.base) < 3200) ∧ Int.tmod (wrap64 (a - t.base)) 8 = 0) := by
        rintro ⟨⟨g1, g2⟩, g3⟩
        rw [Int.tmod_eq_emod_of_nonneg g1] at g3
        have : wrap64 (a - t.base) = a - t.base := by unfold wrap64 at g1 g2 ⊢; omega
        rw [this] at g1 g2 g3
        exact h2 ⟨g1, g2, g3⟩
      rw [if_neg h2, if_neg n2]
      rfl
/-! ### events -/
theorem event_eq (s : St) (e : api_Event) {c f : Int} (hc : HL c s.ctrl) (hf : HL f s.fenced) (hl : s.events.length ≤ 64) : selvageref16_state_event.m s e =
    some (if s.events.length = 64 then (false, s) else (true, { s with events := s.events ++ [{ e with Ctrl := c, Fenced := f }] })) := by
  unfold selvageref16_state_event.m
  by_cases h : s.events.length = 64
  · rw [if_pos (by simp; omega), if_pos h]
  · rw [if_neg (by simp; omega), if_neg h, mask_eq hc, Option.bind_some, mask_eq hf, Option.bind_some, if_pos (by simp; omega)]
/-! ### an address -/
theorem addr_eq {t : Thr} {s : St} {x : api_Inst} (v : Rel t s) (hx : OkI x) : ∃ d, selvageref16_state_address.m s x = some d ∧
    CR (if x.Op = 10 ∨ x.Op = 11 then ⟨wrap64 ((zof t x).n + x.Imm), (zof t x).hang⟩ else ⟨wrap64 ((zof t x).n + (vg t.regs x.B).n), uni (zof t x).hang (vg t.regs x.B).hang⟩) d := by
  unfold selvageref16_state_address.m
  have hz : ∃ z : selvageref16_Cell, CR (zof t x) z ∧ (if (!decide (x.A = 0)) = true then (if 0 ≤ x.A ∧ x.A < (32 : Int) then (some ((vg s.regs x.A).N, (vg s.regs x.A).Hang)) else none) else (some (0, ([] : List Int))) : Option (Int × (List Int))) = some (z.N, z.Hang) := by
    by_cases h : x.A = 0
    · refine ⟨⟨0, []⟩, ?_, by rw [if_neg (by simp [h])]⟩
      unfold zof; rw [if_pos h]; exact ⟨rfl, .nil, by decide⟩
    · refine ⟨vg s.regs x.A, ?_, by rw [if_pos (by simp [h]), if_pos hx.A]⟩
      unfold zof; rw [if_neg h]; exact v.regs _ hx.A.1 hx.A.2
  obtain ⟨z, cz, ez⟩ := hz
  have hb := v.regs _ hx.B.1 hx.B.2
  rw [ez, Option.bind_some]
  by_cases h : x.Op = 10 ∨ x.Op = 11
  · rw [if_pos (by simpa using h), if_pos h]
    exact ⟨_, rfl, by simp only [cz.n], cz.hl, w_in _⟩
  · rw [if_neg (by simpa using h), if_neg h, if_pos hx.B]
    obtain ⟨r, hr, hh⟩ := join_eq cz.hl hb.hl
    simp only []
    rw [hr]
    exact ⟨_, rfl, by simp only [cz.n, hb.n], hh, w_in _⟩
theorem cr_regs {t : Thr} {s : St} (v : Rel t s) {i : Int} (hi : 0 ≤ i ∧ i < 32) {c : thread_cell} {d : selvageref16_Cell} (hc : CR c d) : ∀ j : Int, 0 ≤ j → j < 32 → CR (vg (vp t.regs i c) j) (vg (vp s.regs i d) j) := fun j h0 h1 => by
  rw [vg_vp _ _ _ _ hi.1 (by omega) h0, vg_vp _ _ _ _ hi.1 (by omega) h0]
  split
  · exact hc
  · exact v.regs j h0 h1
theorem cr_stack {t : Thr} {s : St} (v : Rel t s) {i : Int} (hi : 0 ≤ i ∧ i < 400) {c : thread_cell} {d : selvageref16_Cell} (hc : CR c d) : ∀ j : Int, 0 ≤ j → j < 400 → CR (vg (vp t.stack i c) j) (vg (vp s.stack i d) j) := fun j h0 h1 => by
  rw [vg_vp _ _ _ _ hi.1 (by omega) h0, vg_vp _ _ _ _ hi.1 (by omega) h0]
  split
  · exact hc
  · exact v.stack j h0 h1
/-! ### loads and stores -/
theorem mem_load {t : Thr} {s : St} {x : api_Inst} {a : thread_cell} {d : selvageref16_Cell} (v : Rel t s) (hx : OkI x) (ho : x.Op = 10 ∨ x.Op = 12 ∨ x.Op = 14)
    (hd : selvageref16_state_address.m s x = some d) (hc : CR a d) (ha : -9223372036854775808 ≤ a.n ∧ a.n < 9223372036854775808) : Got (selvageref16_state_memory.m s x) (lod t x a) := by
  have hw := where_eq v ha
  unfold selvageref16_state_memory.m
  rw [hd, Option.bind_some, hc.n]
  have e1 : (if (decide (x.Op = 10)) = true then (some (decide (x.Op = 10))) else (if (decide (x.Op = 12)) = true then (some (decide (x.Op = 12))) else (some (decide (x.Op = 14)))) : Option Bool) = some true := by
    rcases ho with h | h | h <;> simp [h]
  have e2 : (if (decide (x.Op = 14)) = true then (some (-1)) else (some s.hold) : Option Int) = some (if x.Op = 14 then -1 else t.hold) := by
    by_cases h : x.Op = 14 <;> simp [h, v.hold]
  unfold lod
  cases hp : plc t.locs t.base a.n with
  | none =>
    rw [hp] at hw
    rw [hw]
    exact ⟨s, rfl, by simp, v.ev⟩
  | some p =>
    have hb := plc_bound v.lo hp
    rw [hp] at hw
    simp only [plW] at hw ⊢
    by_cases hneg : p < 0
    · have hk : 0 ≤ wrap64 (-1 - p) ∧ wrap64 (-1 - p) < 400 := by omega
      obtain ⟨r, hr, hh⟩ := join_eq (v.stack _ hk.1 hk.2).hl hc.hl
      rw [if_pos hneg] at hw
      rw [hw, if_pos hneg, Option.bind_some, if_neg (by simp), if_pos hx.T, e1, Option.bind_some, if_pos rfl, e2, Option.bind_some, if_pos (by simp), if_pos hk]
      simp only []
      rw [hr]
      refine ⟨_, rfl, rfl, ?_⟩
      exact { v with
        regs := cr_regs v hx.T ⟨(v.stack _ hk.1 hk.2).n, hh, (v.stack _ hk.1 hk.2).rg⟩
        hold := rfl
        event := fun h => by
          by_cases h14 : x.Op = 14
          · simp [h14] at h
          · simp only [h14, if_false] at h ⊢; exact v.event h }
    · rw [if_neg hneg] at hw
      rw [hw, if_neg hneg, Option.bind_some, if_neg (by simp), if_pos hx.T, e1, Option.bind_some, if_pos rfl, e2, Option.bind_some, if_neg (by simp)]
      have hans := v.ans
      cases hh : t.answers with
      | nil =>
        rw [hh] at hans
        rw [if_pos (by simp [hans])]
        exact ⟨_, rfl, by simp, v.ev⟩
      | cons n r =>
        rw [hh] at hans
        have hn := v.wide
        rw [hh] at hn
        have g0 : 0 ≤ (0 : Int) ∧ (0 : Int) < (s.answers.length : Int) := by rw [hans]; simp
        rw [if_neg (by simp [hans]; omega), if_pos g0, mask_eq hc.hl, Option.bind_some, event_eq { s with hold := if x.Op = 14 then -1 else t.hold } _ v.ctrl v.fenced (by simp only [v.ev]; exact v.len), Option.bind_some]
        have hg : gi s.answers 0 = n := by rw [hans]; rfl
        simp only [v.ev, tel]
        by_cases h64 : t.out.length = 64
        · simp only [if_pos h64]
          rw [if_pos (by simp)]
          exact ⟨_, rfl, by simp, rfl⟩
        · have hl := v.len
          simp only [if_neg h64]
          rw [if_neg (by simp), if_pos g0, if_pos (by omega)]
          have hb1 : HL (b1 (t.out.length : Int)) [(t.out.length : Int)] := .one (by omega)
          have hlen : wrap64 (((t.out ++ [({ Kind := 1, Loc := p, Val := gi s.answers 0, Pair := 0, Addr := a.hang, Data := 0, Ctrl := t.ctrl, Fenced := t.fenced } : api_Event)]).length : Int) - 1) = t.out.length := by
            rw [List.length_append]; simp only [List.length_singleton]; rw [w64 (by omega)]; omega
          rw [hlen]
          by_cases h14 : x.Op = 14
          · rw [if_pos (by simpa using h14)]
            refine ⟨_, rfl, rfl, ?_⟩
            exact { v with
              ans := by simp [hans]
              wide := fun m hm => hn m (List.mem_cons_of_mem _ hm)
              ev := by simp [telE, hg]
              regs := cr_regs v hx.T ⟨hg, hb1, hn n (by simp)⟩
              hold := by simp [h14]
              event := fun _ => by simp [h14]; omega
              len := by simp; omega }
          · rw [if_neg (by simpa using h14)]
            refine ⟨_, rfl, rfl, ?_⟩
            exact { v with
              ans := by simp [hans]
              wide := fun m hm => hn m (List.mem_cons_of_mem _ hm)
              ev := by simp [telE, hg]
              regs := cr_regs v hx.T ⟨hg, hb1, hn n (by simp)⟩
              hold := by simp [h14]
              event := fun h => by
                simp only [h14, if_false] at h ⊢; exact v.event h
              len := by simp; omega }
theorem mem_store {t : Thr} {s : St} {x : api_Inst} {a : thread_cell} {d : selvageref16_Cell} (v : Rel t s) (hx : OkI x) (ho : x.Op = 11 ∨ x.Op = 13)
    (hd : selvageref16_state_address.m s x = some d) (hc : CR a d) (ha : -9223372036854775808 ≤ a.n ∧ a.n < 9223372036854775808) : Got (selvageref16_state_memory.m s x) (sto t x a) := by
  have hw := where_eq v ha
  unfold selvageref16_state_memory.m
  rw [hd, Option.bind_some, hc.n]
  have e1 : (if (decide (x.Op = 10)) = true then (some (decide (x.Op = 10))) else (if (decide (x.Op = 12)) = true then (some (decide (x.Op = 12))) else (some (decide (x.Op = 14)))) : Option Bool) = some false := by
    rcases ho with h | h <;> simp [h]
  have e2 : (if (decide (x.Op = 11)) = true then (some (decide (x.Op = 11))) else (some (decide (x.Op = 13))) : Option Bool) = some true := by
    rcases ho with h | h <;> simp [h]
  have n15 : ¬ x.Op = 15 := by omega
  have hv := v.regs x.T hx.T.1 hx.T.2
  unfold sto
  cases hp : plc t.locs t.base a.n with
  | none =>
    rw [hp] at hw
    rw [hw]
    exact ⟨s, rfl, by simp, v.ev⟩
  | some p =>
    have hb := plc_bound v.lo hp
    rw [hp] at hw
    simp only [plW] at hw ⊢
    rw [if_neg n15]
    by_cases hneg : p < 0
    · have hk : 0 ≤ wrap64 (-1 - p) ∧ wrap64 (-1 - p) < 400 := by omega
      obtain ⟨r, hr, hh⟩ := join_eq hv.hl hc.hl
      rw [if_pos hneg] at hw
      rw [hw, if_pos hneg, Option.bind_some, if_neg (by simp), if_pos hx.T, e1, Option.bind_some, if_neg (by simp), e2, Option.bind_some, if_pos rfl, if_pos (by simp), hr, Option.bind_some, if_pos hk]
      refine ⟨_, rfl, rfl, ?_⟩
      exact { v with stack := cr_stack v hk ⟨hv.n, hh, hv.rg⟩ }
    · rw [if_neg hneg] at hw
      rw [hw, if_neg hneg, Option.bind_some, if_neg (by simp), if_pos hx.T, e1, Option.bind_some, if_neg (by simp), e2, Option.bind_some, if_pos rfl, if_neg (by simp), mask_eq hc.hl, Option.bind_some, mask_eq hv.hl, Option.bind_some, event_eq s _ v.ctrl v.fenced (by rw [v.ev]; exact v.len), Option.bind_some]
      simp only [v.ev, tel]
      by_cases h64 : t.out.length = 64
      · simp only [if_pos h64]
        rw [if_pos (by simp)]
        exact ⟨_, rfl, by simp, v.ev⟩
      · have hl := v.len
        simp only [if_neg h64]
        rw [if_neg (by simp)]
        refine ⟨_, rfl, rfl, ?_⟩
        exact { v with
          ev := by simp [telE, hv.n]
          len := by simp; omega }
theorem mem_stdcx {t : Thr} {s : St} {x : api_Inst} {a : thread_cell} {d : selvageref16_Cell} (v : Rel t s) (hx : OkI x) (ho : x.Op = 15)
    (hd : selvageref16_state_address.m s x = some d) (hc : CR a d) (ha : -9223372036854775808 ≤ a.n ∧ a.n < 9223372036854775808) : Got (selvageref16_state_memory.m s x) (sto t x a) := by
  have hw := where_eq v ha
  unfold selvageref16_state_memory.m
  rw [hd, Option.bind_some, hc.n]
  have e1 : (if (decide (x.Op = 10)) = true then (some (decide (x.Op = 10))) else (if (decide (x.Op = 12)) = true then (some (decide (x.Op = 12))) else (some (decide (x.Op = 14)))) : Option Bool) = some false := by
    simp [ho]
  have e2 : (if (decide (x.Op = 11)) = true then (some (decide (x.Op = 11))) else (some (decide (x.Op = 13))) : Option Bool) = some false := by
    simp [ho]
  have hv := v.regs x.T hx.T.1 hx.T.2
  unfold sto
  cases hp : plc t.locs t.base a.n with
  | none =>
    rw [hp] at hw
    rw [hw]
    exact ⟨s, rfl, by simp, v.ev⟩
  | some p =>
    have hb := plc_bound v.lo hp
    rw [hp] at hw
    simp only [plW] at hw ⊢
    rw [if_pos ho]
    by_cases hh : p ≥ 0 ∧ p = t.hold
    · have hneg : ¬ p < 0 := by omega
      rw [if_neg hneg] at hw
      obtain ⟨h1, h2, h3⟩ := v.event (by omega)
      have hw1 : wrap64 (t.event + 1) = t.event + 1 := w64 (by omega)
      rw [hw, if_pos hh, Option.bind_some, if_neg (by simp), if_pos hx.T, e1, Option.bind_some, if_neg (by simp), e2, Option.bind_some, if_neg (by simp), if_pos (by simpa using ho), if_pos (by simp [v.hold, hh.2]),
        mask_eq hc.hl, Option.bind_some, mask_eq hv.hl, Option.bind_some, event_eq { s with cmp := ⟨1, []⟩ } _ v.ctrl v.fenced (by simp only [v.ev]; exact v.len), Option.bind_some]
      simp only [v.ev, tel, hw1]
      by_cases h64 : t.out.length = 64
      · simp only [if_pos h64]
        rw [if_pos (by simp)]
        exact ⟨_, rfl, by simp, rfl⟩
      · have hl := v.len
        simp only [if_neg h64]
        rw [if_neg (by simp)]
        refine ⟨_, rfl, rfl, ?_⟩
        exact { v with
          ev := by simp [telE, hv.n, h1]
          less := rfl
          same := rfl
          held := .nil
          hold := rfl
          event := fun h => absurd h (by show ¬ (-1 : Int) ≥ 0; decide)
          len := by simp; omega }
    · rw [if_neg hh]
      have hk : ∃ k i, selvageref16_state_where.m s a.n = some (k, i) ∧ k ≠ 0 ∧ ¬ (k = 1 ∧ s.hold = i) := by
        by_cases hneg : p < 0
        · rw [if_pos hneg] at hw; exact ⟨_, _, hw, by decide, fun h => absurd h.1 (by decide)⟩
        · rw [if_neg hneg] at hw; exact ⟨_, _, hw, by decide, fun h => hh ⟨by omega, by rw [← v.hold, h.2]⟩⟩
      obtain ⟨k, i, hk, hk0, hk1⟩ := hk
      rw [hk, Option.bind_some, if_neg (by simpa using hk0), if_pos hx.T, e1, Option.bind_some, if_neg (by simp), e2, Option.bind_some, if_neg (by simp), if_pos (by simpa using ho), if_neg (by simpa using hk1)]
      refine ⟨_, rfl, rfl, ?_⟩
      exact { v with
        less := rfl
        same := rfl
        held := .nil
        hold := rfl
        event := fun h => absurd h (by show ¬ (-1 : Int) ≥ 0; decide) }
end Go.Proofs.Ytcnchjlomcafeaa.W
