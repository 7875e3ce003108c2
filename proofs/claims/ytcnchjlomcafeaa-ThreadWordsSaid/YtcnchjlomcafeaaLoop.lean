/- Loops as plain functions; calls; what a part tells. -/
import Derived.Test.YtcnchjlomcafeaaArr
import Derived.Recover
set_option linter.unusedVariables false
set_option linter.unusedSimpArgs false
set_option linter.unusedSectionVars false
namespace Go.Proofs.Ytcnchjlomcafeaa.B
open Go Go.RowKit

/-- Again and again, until it tells something. -/
def loop {S O : Type} (f : S → Option (S ⊕ O)) (s : S) : Option O := (f s) >>= fun z => match z with
  | .inl s' => loop f s'
  | .inr o => some o partial_fixpoint
theorem loop_eq {S O : Type} (f : S → Option (S ⊕ O)) (s : S) : loop f s = (f s).bind fun z => match z with
  | .inl s' => loop f s'
  | .inr o => some o := by
  rw [loop]; rfl
theorem loop_in {S O : Type} {f : S → Option (S ⊕ O)} {s s' : S} (h : f s = some (.inl s')) : loop f s = loop f s' := by rw [loop_eq, h]; rfl
theorem loop_out {S O : Type} {f : S → Option (S ⊕ O)} {s : S} {o : O} (h : f s = some (.inr o)) : loop f s = some o := by rw [loop_eq, h]; rfl
theorem loop_ind {S O : Type} {f : S → Option (S ⊕ O)} (motive : S → O → Prop) (h1 : ∀ s o, f s = some (.inr o) → motive s o) (h2 : ∀ s s' o, f s = some (.inl s') → loop f s' = some o → motive s' o → motive s o)
    (s : S) (o : O) (h : loop f s = some o) : motive s o := by
  have := loop.partial_correctness f (fun s o => loop f s = some o ∧ motive s o) (fun lp ih s o hs => by
    cases hf : f s with
    | none => rw [hf] at hs; cases hs
    | some z =>
      rw [hf] at hs
      cases z with
      | inl s' =>
        have h3 := ih s' o hs
        exact ⟨(loop_in hf).trans h3.1, h2 s s' o hf h3.1 h3.2⟩
      | inr o' =>
        have : o' = o := Option.some.inj hs
        subst this
        exact ⟨loop_out hf, h1 s o' hf⟩) s o h
  exact this.2

section
variable {P : Program} {Q : Exit → Act → World → Prop} {N : Act → World → Prop} {a : Act} {w : World}
theorem k_lp {X O : Type} {f : X → Option (X ⊕ O)} {x0 : X} {o : O} {c : Code} (I : X → Act → World → Prop) (H : loop f x0 = some o) (h0 : I x0 a w)
    (step : ∀ x a w z, I x a w → f x = some z → (∀ o', z = .inr o' → o' = o) → wk P c (fun a' w' => ∃ x', z = .inl x' ∧ I x' a' w') Q a w) : wk P (.loop c) N Q a w := by
  have key := loop_ind (f := f) (fun x r => r = o → ∀ a w, I x a w → ∀ (b : Frame) (k : List Item) (cs : List Frame),
      ∃ e a' w', (Exit.then N Q) e a' w' ∧ Arrives P (lone (b.at a (.code c :: .inLoop c :: k)) cs w) b k cs e a' w') ?_ ?_ x0 o H rfl a w h0
  · intro b k cs
    obtain ⟨e, a', w', hq, harr⟩ := key b k cs
    exact ⟨e, a', w', hq, .of_steps (.one step_loop) harr⟩
  · intro x r hx hr a w hI b k cs
    obtain ⟨e, a₁, w₁, hq, harr⟩ := step x a w _ hI hx (fun o' ho => by cases ho; exact hr) b (.inLoop c :: k) cs
    cases e with
    | normal => obtain ⟨x', h1, _⟩ := hq; cases h1
    | exit id => exact ⟨.exit id, a₁, w₁, hq, .pass (x := .inLoop c) rfl (fun _ _ => .inl (by simp)) harr⟩
    | goto l => exact ⟨.goto l, a₁, w₁, hq, .pass (x := .inLoop c) rfl (fun _ _ => .inl (by simp)) harr⟩
    | ret => exact ⟨.ret, a₁, w₁, hq, .pass (x := .inLoop c) rfl (fun _ _ => .inl (by simp)) harr⟩
    | panic ch => exact ⟨.panic ch, a₁, w₁, hq, .pass (x := .inLoop c) rfl (fun _ _ => .inl (by simp)) harr⟩
    | outgrown => exact ⟨.outgrown, a₁, w₁, hq, .pass (x := .inLoop c) rfl (fun _ _ => .inl (by simp)) harr⟩
  · intro x x' r hx hl ih hr a w hI b k cs
    obtain ⟨e, a₁, w₁, hq, harr⟩ := step x a w _ hI hx (fun o' ho => by cases ho) b (.inLoop c :: k) cs
    cases e with
    | normal =>
      obtain ⟨x'', h1, hI'⟩ := hq
      cases h1
      obtain ⟨e₂, a₂, w₂, hq₂, harr₂⟩ := ih hr a₁ w₁ hI' b k cs
      exact ⟨e₂, a₂, w₂, hq₂, .of_steps (Steps.trans harr (.one step_inLoop)) harr₂⟩
    | exit id => exact ⟨.exit id, a₁, w₁, hq, .pass (x := .inLoop c) rfl (fun _ _ => .inl (by simp)) harr⟩
    | goto l => exact ⟨.goto l, a₁, w₁, hq, .pass (x := .inLoop c) rfl (fun _ _ => .inl (by simp)) harr⟩
    | ret => exact ⟨.ret, a₁, w₁, hq, .pass (x := .inLoop c) rfl (fun _ _ => .inl (by simp)) harr⟩
    | panic ch => exact ⟨.panic ch, a₁, w₁, hq, .pass (x := .inLoop c) rfl (fun _ _ => .inl (by simp)) harr⟩
    | outgrown => exact ⟨.outgrown, a₁, w₁, hq, .pass (x := .inLoop c) rfl (fun _ _ => .inl (by simp)) harr⟩
end
/-! ### what holds from some time on -/
/-- From the beginning w on, to a time at which I may be read and stays: what is new in it was handed over, or made. -/
structure Ep (F : Nat → Prop) (R0 : List Rsc) (w : World) (I : Nat → Prop) (wr : World) : Prop where
  up : Up F w I wr
  new : ∀ k, I k → F k ∨ On R0 k ∨ w.heap.size ≤ k
theorem Ep.refl (F : Nat → Prop) (R0 : List Rsc) (w : World) : Ep F R0 w F w := ⟨Up.refl _ _, fun _ h => .inl h⟩
section
variable {F I : Nat → Prop} {R0 R : List Rsc} {w wr w1 w2 : World} {α : Type} {E : Enc α}
theorem Ep.freeze {X : Rsc} (ep : Ep F R0 w I wr) (h : Hp (On R0) I w wr w1 (X :: R)) : Ep F R0 w (fun k => I k ∨ On [X] k) w1 :=
  ⟨ep.up.trans h.frozenUp, fun k hk => by
    rcases hk with hk | ⟨p, hp, e⟩
    · exact ep.new k hk
    · rw [← e]; exact .inr (h.fresh p (by simp only [List.flatten_cons, List.mem_append]; exact .inl (by simpa using hp))).1⟩
/-- What a call has made that does not change. -/
structure Frz (F : Nat → Prop) (Rin : List Rsc) (w : World) (I' : Nat → Prop) (w' : World) (Rout : List Rsc) : Prop where
  up : Up F w I' w'
  new : ∀ k, I' k → F k ∨ On Rin k ∨ w.heap.size ≤ k
  off : ∀ k, I' k → Off w' Rout k
theorem Ep.frz (ep : Ep F R0 w I wr) (h : Hp (On R0) I w wr w1 R) : Frz F R0 w I w1 R :=
  ⟨ep.up.trans h.up, ep.new, fun k hk => ⟨h.ilt k hk, fun ⟨p, hp, e⟩ => (h.fresh p hp).2 (e ▸ hk)⟩⟩
theorem Frz.drop {I' : Nat → Prop} {R' R'' : List Rsc} (z : Frz F R0 w I' w1 R') (hs : ∀ k, On R'' k → On R' k) : Frz F R0 w I' w1 R'' := ⟨z.up, z.new, fun k hk => ⟨(z.off k hk).1, fun h => (z.off k hk).2 (hs k h)⟩⟩
theorem Ep.call {I' : Nat → Prop} {Rin Rest Rout : List Rsc} (ep : Ep F R0 w I wr) (h : Hp (On R0) I w wr w1 (Rin ++ Rest)) (z : Frz I Rin w1 I' w2 Rout) : Ep F R0 w I' w2 :=
  ⟨ep.up.trans (h.up.trans z.up), fun k hk => by
    rcases z.new k hk with hk | ⟨p, hp, e⟩ | hk
    · exact ep.new k hk
    · rw [← e]; exact .inr (h.fresh p (by simp only [List.flatten_append, List.mem_append]; exact .inl hp)).1
    · exact .inr (.inr (Nat.le_trans h.le hk))⟩
theorem Hp.callZ {M I' : Nat → Prop} {w0 : World} {Rin Rest Rout : List Rsc} (h : Hp M I w0 wr w1 (Rin ++ Rest)) (a : Aft w1 w2 Rin Rout) (z : Frz I Rin w1 I' w2 Rout) : Hp M I' w0 w2 w2 (Rout ++ Rest) := h.callF a z.up z.new z.off
theorem Hp.callA {M : Nat → Prop} {w0 : World} {Rin Rest Rout : List Rsc} (a : Aft w1 w2 Rin Rout) (h : Hp M I w0 wr w1 (Rin ++ Rest)) : Hp M I w0 wr w2 (Rout ++ Rest) := h.call a
theorem Hp.callZA {M I' : Nat → Prop} {w0 : World} {Rin Rest Rout : List Rsc} (a : Aft w1 w2 Rin Rout) (z : Frz I Rin w1 I' w2 Rout) (h : Hp M I w0 wr w1 (Rin ++ Rest)) : Hp M I' w0 w2 w2 (Rout ++ Rest) := h.callZ a z
theorem Ep.callA {I' : Nat → Prop} {Rin Rest Rout : List Rsc} (z : Frz I Rin w1 I' w2 Rout) (ep : Ep F R0 w I wr) (h : Hp (On R0) I w wr w1 (Rin ++ Rest)) : Ep F R0 w I' w2 := ep.call h z
theorem Hp.upZ {M I' : Nat → Prop} {w0 : World} {Rin Rout : List Rsc} (h : Hp M I w0 wr w1 R) (z : Frz I Rin w1 I' w2 Rout) : Up I wr I' w2 := h.up.trans z.up
/-- Back to the time of which one speaks. -/
theorem Hp.down {M : Nat → Prop} {w0 : World} (h : Hp M I w0 wr w1 R) : Up I w1 I wr := fun k hk => ⟨hk, (h.imm k hk).symm⟩
end
section
variable {P : Program} {ops : Array Oper} {Q : Exit → Act → World → Prop} {n : Nat} {L : Env} {σ : Nat → Value} {ds : List Deferred} {w : World} {rest : List Oper}
variable {d : Nat} {ty : TypeId} {pos : String} {af : Array Edge} {v : Value} {x y : Operand} {gd : Option (Nat × Bool)} {dst : Option Tmp} {a : Act} {α : Type}
/-- The place of an element. -/
def Pl (A : Option Addr) (sz : Nat) (i : Int) (p : Addr) : Prop := ∃ a0, A = some a0 ∧ p = a0.add (i.toNat * sz)
theorem e_idx {t e : TypeId} {A : Option Addr} {m c sz : Nat} {i : Int} {k' : IntKind} {p : Addr} (hx : a.eval x = .slice A m c) (hy : a.eval y = .int k' i) (hu : UT P t (.slice e)) (hs : SZ P e sz) (hp : Pl A sz i p) (hi : 0 ≤ i ∧ i < (m : Int)) :
    (execOp a.eval ⟨dst, .indexAddr t x y, ty, pos, af, gd⟩).run P w = .ok (.value (.pointer (some p))) w := by
  obtain ⟨a0, rfl, rfl⟩ := hp
  simp only [execOp, hx, hy]
  rw [Sem.run_bind, run_indexAddr hu hs hi.1 hi.2]
  rfl
variable {I F : Nat → Prop} {wr wf : World} {E : Enc α}
theorem rd_idx [Inhabited α] {A : Option Addr} {c : Nat} {xs : List α} {i : Int} (hr : RdS E I wr A c xs) (hi : 0 ≤ i ∧ i < (xs.length : Int)) : ∃ p cs, Pl A E.sz i p ∧ EP I wr p cs ∧ E.rep I wr (gi xs i) cs := by
  obtain ⟨a, cs, rfl, hf, hc, hd⟩ := hr.elem (i := i.toNat) (by omega)
  exact ⟨a.add (i.toNat * E.sz), cs, ⟨a, rfl, rfl⟩, ⟨by unfold Addr.add; split <;> exact hf, hc⟩, hd⟩
theorem ow_idx [Inhabited α] {e' : TypeId} {A : Option Addr} {c : Nat} {xs : List α} {X : Rsc} {i : Int} (ho : Own E F wf e' A c xs X) (hi : 0 ≤ i ∧ i < (xs.length : Int)) :
    ∃ g cs, A = some ⟨g, 0, none⟩ ∧ OA X ⟨g, i.toNat * E.sz, none⟩ cs ∧ E.rep F wf (gi xs i) cs := by
  rcases ho with ⟨rfl, rfl, rfl, rfl⟩ | ⟨g, cur, cs, rfl, rfl, h1, h2, hb, h3, h4, h5⟩
  · simp at hi; omega
  · have hil : i.toNat < xs.length := by omega
    obtain ⟨dd, hd, he⟩ := h5.get (List.getElem?_eq_getElem hil)
    have hg : gi xs i = xs[i.toNat] := by simp [gi, hil]
    refine ⟨g, dd, rfl, fun w hX => ?_, hg ▸ hd⟩
    have hh := hX _ (List.mem_singleton.2 rfl)
    intro j u hu
    rw [add_none]
    refine cell_at hh ?_
    rw [← he, ← h4, List.getElem?_take] at hu
    split at hu
    · rw [List.getElem?_drop, List.getElem?_take] at hu
      split at hu
      · rw [← Array.getElem?_toList]; exact hu
      · cases hu
    · cases hu
theorem ow_pl {A : Option Addr} {g sz : Nat} {i : Int} (h : A = some ⟨g, 0, none⟩) : Pl A sz i ⟨g, i.toNat * sz, none⟩ := ⟨_, h, by rw [add_none, Nat.zero_add]⟩
end
end Go.Proofs.Ytcnchjlomcafeaa.B
