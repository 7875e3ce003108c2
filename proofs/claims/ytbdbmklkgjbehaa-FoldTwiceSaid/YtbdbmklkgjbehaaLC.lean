/- LC: several texts in one. -/
import Derived.Test.YtbdbmklkgjbehaaLB
set_option linter.unusedVariables false
set_option linter.unusedSimpArgs false
set_option linter.unusedSectionVars false
namespace Go.Proofs.Ytbdbmklkgjbehaa.X
open Go Go.RowKit Go.Proofs.Ytbdbmklkgjbehaa.B

inductive AV where
  | v (x : Value)
  | flt (b : Nat)
  | ro (c : Bool) (k n : Nat) (xs : List (List AV))
  | ptr (cs : List AV)
  | ref (h off : Nat)
  | el (h n j r : Nat)
  | sl (c h n off len : Nat)
  | mp (h : Nat)
  | nd (o : Option Nat) (off : Nat)
  | agg (cs : List AV)
  | tup (cs : List AV)
  | fn (f : Nat) (fi ca : List AV)
  | ifc (t : Nat) (x : AV)
  deriving Inhabited
inductive Sg where
  | c (x : AV)
  | a (k n : Nat) (xs : List (List AV))
  deriving Inhabited
inductive AO where
  | dead
  | box (cs : List AV)
  | arr (z : Bool) (e k n : Nat) (xs : List (List AV))
  | mp (kk : IntKind) (kvs : List (Int × AV))
  | seg (ss : List Sg)
  deriving Inhabited
def isBx : AO → Bool
  | .box _ => true
  | .seg _ => true
  | _ => false
inductive RS where
  | unborn
  | dead
  | nl
  | at (b sz : Nat)
abbrev Imm := Nat → Option (List Value)

inductive VI (J : Imm) : AV → Value → Prop
  | v (x : Value) : VI J (.v x) x
  | flt {b : Nat} : VI J (.flt (flt b)) (.float .f64 b)
  | nil {c : Bool} {k cap : Nat} {A : Option Addr} (hc : c = true → cap = 0) : VI J (.ro c k 0 []) (.slice A 0 cap)
  | ro {c : Bool} {n : Nat} {xs : List (List AV)} {b off k cap : Nat} {gs : List Value} (hn : xs.length = n) (hj : J b = some gs) (hb : n ≠ 0 → off + n * k ≤ gs.length) (hc : c = true → cap = n) (hl : n ≤ cap)
      (hk : ∀ (i : Nat) (x : List AV), xs[i]? = some x → x.length = k) (ho : ∀ (j : Nat) (g : Value), j < n * k → gs[off + j]? = some g → one g = true) (h : ∀ (i : Nat) (x : List AV) (j : Nat) (y : AV) (g : Value), xs[i]? = some x → x[j]? = some y → gs[off + i * k + j]? = some g → VI J y g) :
      VI J (.ro c k n xs) (.slice (some ⟨b, off, none⟩) n cap)
  | ptr {cs : List AV} {b off : Nat} {gs : List Value} (hj : J b = some gs) (hb : off + cs.length ≤ gs.length) (h : ∀ (j : Nat) (y : AV) (g : Value), cs[j]? = some y → gs[off + j]? = some g → VI J y g) :
      VI J (.ptr cs) (.pointer (some ⟨b, off, none⟩))
  | agg {cs : List AV} {gs : List Value} (hl : cs.length = gs.length) (h : ∀ (j : Nat) (y : AV) (g : Value), cs[j]? = some y → gs[j]? = some g → VI J y g) : VI J (.agg cs) (.agg gs.toArray)
  | tup {cs : List AV} {gs : List Value} (hl : cs.length = gs.length) (h : ∀ (j : Nat) (y : AV) (g : Value), cs[j]? = some y → gs[j]? = some g → VI J y g) : VI J (.tup cs) (.tuple gs.toArray)
  | fn {f : Nat} {fi ca : List AV} {gf gc : List Value} (hf : fi.length = gf.length) (hc : ca.length = gc.length) (h1 : ∀ (j : Nat) (y : AV) (g : Value), fi[j]? = some y → gf[j]? = some g → VI J y g)
      (h2 : ∀ (j : Nat) (y : AV) (g : Value), ca[j]? = some y → gc[j]? = some g → VI J y g) : VI J (.fn f fi ca) (.func (.func f) gf.toArray gc.toArray)
  | ifc {t : Nat} {x : AV} {g : Value} (h : VI J x g) : VI J (.ifc t x) (.iface t g)

theorem VI.nil0 {J : Imm} {c : Bool} {k : Nat} : VI J (.ro c k 0 []) (.slice none 0 0) := .nil fun _ => rfl
theorem VI.mono {J J' : Imm} (hJ : ∀ b gs, J b = some gs → J' b = some gs) {x : AV} {g : Value} (h : VI J x g) : VI J' x g := by
  induction h with
  | v x => exact .v x
  | flt => exact .flt
  | nil hc => exact .nil hc
  | ro hn hj hb hc hl hk ho _ ih => exact .ro hn (hJ _ _ hj) hb hc hl hk ho ih
  | ptr hj hb _ ih => exact .ptr (hJ _ _ hj) hb ih
  | agg hl _ ih => exact .agg hl ih
  | tup hl _ ih => exact .tup hl ih
  | fn hf hc _ _ ih1 ih2 => exact .fn hf hc ih1 ih2
  | ifc _ ih => exact .ifc ih

def clnA : AV → Bool
  | .v _ => true
  | .nd _ _ => true
  | _ => false
structure Ms where
  ρ : Nat → RS
  C : Nat → AO
  J : Imm
  bs : List Nat
  A : List (List AV)

inductive V (s : Ms) : AV → Value → Prop
  | im {x : AV} {g : Value} (h : VI s.J x g) : V s x g
  | ref {h off b sz : Nat} (hr : s.ρ h = .at b sz) (hC : isBx (s.C h) = true) : V s (.ref h off) (.pointer (some ⟨b, off, none⟩))
  | refd {h off b : Nat} (hr : s.ρ h ≠ .unborn) (hC : s.C h = .dead) : V s (.ref h off) (.pointer (some ⟨b, off, none⟩))
  | sl {c h n off len b sz e k cap o : Nat} {z : Bool} {xs : List (List AV)} (hr : s.ρ h = .at b sz) (hC : s.C h = .arr z e k n xs) (hl : off + len ≤ n) (hc : len ≤ cap)
      (hz : c = 0 → (off + cap) * k = sz) (hz' : c = 1 → cap = len) (ho : o = off * k ∨ (c = 2 ∧ len = 0)) : V s (.sl c h n off len) (.slice (some ⟨b, o, none⟩) len cap)
  | sl0 {c h e k : Nat} {xs : List (List AV)} (hr : s.ρ h = .nl) (hC : s.C h = .arr true e k 0 xs) : V s (.sl c h 0 0 0) (.slice none 0 0)
  | sls {c h n off len : Nat} {g : Value} (ho : one g = true) (hr : s.ρ h ≠ .unborn) (hC : ∀ z e k m xs, s.C h = .arr z e k m xs → n < m) : V s (.sl c h n off len) g
  | el {h n j r b sz : Nat} {z : Bool} {e k : Nat} {xs : List (List AV)} (hr : s.ρ h = .at b sz) (hC : s.C h = .arr z e k n xs) : V s (.el h n j r) (.pointer (some ⟨b, j * k + r, none⟩))
  | els {h n j r : Nat} {g : Value} (ho : one g = true) (hr : s.ρ h ≠ .unborn) (hC : ∀ z e k m xs, s.C h = .arr z e k m xs → n < m) : V s (.el h n j r) g
  | mp {h b sz : Nat} {kk : IntKind} {m : List (Int × AV)} (hr : s.ρ h = .at b sz) (hC : s.C h = .mp kk m) : V s (.mp h) (.map (some b))
  | mpd {h : Nat} {g : Value} (ho : one g = true) (hr : s.ρ h ≠ .unborn) (hC : s.C h = .dead) : V s (.mp h) g
  | nd {i off b : Nat} (hb : s.bs[i]? = some b) : V s (.nd (some i) off) (.pointer (some ⟨b, off, none⟩))
  | nd0 : V s (.nd none 0) (.pointer none)
  | agg {cs : List AV} {gs : List Value} (hl : cs.length = gs.length) (h : ∀ (j : Nat) (y : AV) (g : Value), cs[j]? = some y → gs[j]? = some g → V s y g) : V s (.agg cs) (.agg gs.toArray)
  | tup {cs : List AV} {gs : List Value} (hl : cs.length = gs.length) (h : ∀ (j : Nat) (y : AV) (g : Value), cs[j]? = some y → gs[j]? = some g → V s y g) : V s (.tup cs) (.tuple gs.toArray)
  | fn {f : Nat} {fi ca : List AV} {gf gc : List Value} (hf : fi.length = gf.length) (hc : ca.length = gc.length) (h1 : ∀ (j : Nat) (y : AV) (g : Value), fi[j]? = some y → gf[j]? = some g → V s y g)
      (h2 : ∀ (j : Nat) (y : AV) (g : Value), ca[j]? = some y → gc[j]? = some g → V s y g) : V s (.fn f fi ca) (.func (.func f) gf.toArray gc.toArray)
  | ifc {t : Nat} {x : AV} {g : Value} (h : V s x g) : V s (.ifc t x) (.iface t g)

def L2 (R : AV → Value → Prop) (cs : List AV) (gs : List Value) : Prop := cs.length = gs.length ∧ ∀ (j : Nat) (y : AV) (g : Value), cs[j]? = some y → gs[j]? = some g → R y g
theorem L2.nil {R : AV → Value → Prop} : L2 R [] [] := ⟨rfl, fun j y g h => by simp at h⟩
theorem L2.cons {R : AV → Value → Prop} {x : AV} {g : Value} {cs : List AV} {gs : List Value} (h : R x g) (k : L2 R cs gs) : L2 R (x :: cs) (g :: gs) := by
  refine ⟨by simp [k.1], fun j y u h1 h2 => ?_⟩
  cases j with
  | zero => simp at h1 h2; subst h1 h2; exact h
  | succ j => simp at h1 h2; exact k.2 j y u h1 h2
theorem L2.uncons {R : AV → Value → Prop} {x : AV} {cs : List AV} {gs : List Value} (h : L2 R (x :: cs) gs) : ∃ g r, gs = g :: r ∧ R x g ∧ L2 R cs r := by
  cases gs with
  | nil => have := h.1; simp at this
  | cons g r => exact ⟨g, r, rfl, h.2 0 x g rfl rfl, by have := h.1; simpa using this, fun j y u h1 h2 => h.2 (j + 1) y u (by simpa using h1) (by simpa using h2)⟩
theorem L2.get {R : AV → Value → Prop} {cs : List AV} {gs : List Value} (h : L2 R cs gs) {i : Nat} {x : AV} (hx : cs[i]? = some x) : ∃ g, gs[i]? = some g ∧ R x g := by
  have hi : i < cs.length := (List.getElem?_eq_some_iff.1 hx).1
  have hg : i < gs.length := by rw [← h.1]; exact hi
  exact ⟨gs[i], by simp [hg], h.2 i x _ hx (by simp [hg])⟩
theorem L2.mono {R R' : AV → Value → Prop} {cs : List AV} {gs : List Value} (h : L2 R cs gs) (k : ∀ x g, R x g → R' x g) : L2 R' cs gs := ⟨h.1, fun j y g h1 h2 => k _ _ (h.2 j y g h1 h2)⟩
theorem L2.app {R : AV → Value → Prop} {cs ds : List AV} {gs us : List Value} (h : L2 R cs gs) (k : L2 R ds us) : L2 R (cs ++ ds) (gs ++ us) := by
  refine ⟨by simp [h.1, k.1], fun j y g h1 h2 => ?_⟩
  rw [List.getElem?_append] at h1 h2
  rw [← h.1] at h2
  by_cases hj : j < cs.length
  · rw [if_pos hj] at h1 h2; exact h.2 j y g h1 h2
  · rw [if_neg hj] at h1 h2; exact k.2 _ y g h1 h2
theorem L2.drop {R : AV → Value → Prop} {cs : List AV} {gs : List Value} (h : L2 R cs gs) (n : Nat) : L2 R (cs.drop n) (gs.drop n) := by
  refine ⟨by simp [h.1], fun j y g h1 h2 => ?_⟩
  rw [List.getElem?_drop] at h1 h2
  exact h.2 _ y g h1 h2
theorem L2.take {R : AV → Value → Prop} {cs : List AV} {gs : List Value} (h : L2 R cs gs) (n : Nat) : L2 R (cs.take n) (gs.take n) := by
  refine ⟨by simp [h.1], fun j y g h1 h2 => ?_⟩
  rw [List.getElem?_take] at h1 h2
  by_cases hj : j < n
  · rw [if_pos hj] at h1 h2; exact h.2 _ y g h1 h2
  · rw [if_neg hj] at h1; simp at h1
theorem L2.set {R : AV → Value → Prop} {cs : List AV} {gs : List Value} (h : L2 R cs gs) {i : Nat} {x : AV} {g : Value} (k : R x g) : L2 R (cs.set i x) (gs.set i g) := by
  refine ⟨by simp [h.1], fun j y u h1 h2 => ?_⟩
  rw [List.getElem?_set] at h1 h2
  by_cases hj : i = j
  · rw [if_pos hj] at h1 h2
    subst hj
    by_cases hi : i < cs.length
    · rw [if_pos hi] at h1; rw [if_pos (by rw [← h.1]; exact hi)] at h2
      simp at h1 h2; subst h1 h2; exact k
    · rw [if_neg hi] at h1; simp at h1
  · rw [if_neg hj] at h1 h2; exact h.2 _ y u h1 h2

section
variable {s : Ms} {g : Value}
theorem V.vE {x : Value} (h : V s (.v x) g) : g = x := by cases h with | im h => cases h; rfl
theorem V.fltE {b : Nat} (h : V s (.flt b) g) : ∃ c, g = .float .f64 c ∧ flt c = b := by cases h with | im h => cases h; exact ⟨_, rfl, rfl⟩
theorem V.aggE {cs : List AV} (h : V s (.agg cs) g) : ∃ gs, g = .agg gs.toArray ∧ L2 (V s) cs gs := by
  cases h with
  | im h => cases h with | agg hl h => exact ⟨_, rfl, hl, fun j y g h1 h2 => .im (h j y g h1 h2)⟩
  | agg hl h => exact ⟨_, rfl, hl, h⟩
theorem V.tupE {cs : List AV} (h : V s (.tup cs) g) : ∃ gs, g = .tuple gs.toArray ∧ L2 (V s) cs gs := by
  cases h with
  | im h => cases h with | tup hl h => exact ⟨_, rfl, hl, fun j y g h1 h2 => .im (h j y g h1 h2)⟩
  | tup hl h => exact ⟨_, rfl, hl, h⟩
theorem V.fnE {f : Nat} {fi ca : List AV} (h : V s (.fn f fi ca) g) : ∃ gf gc, g = .func (.func f) gf.toArray gc.toArray ∧ L2 (V s) fi gf ∧ L2 (V s) ca gc := by
  cases h with
  | im h => cases h with | fn hf hc h1 h2 => exact ⟨_, _, rfl, ⟨hf, fun j y g a b => .im (h1 j y g a b)⟩, ⟨hc, fun j y g a b => .im (h2 j y g a b)⟩⟩
  | fn hf hc h1 h2 => exact ⟨_, _, rfl, ⟨hf, h1⟩, ⟨hc, h2⟩⟩
theorem V.ifcE {t : Nat} {x : AV} (h : V s (.ifc t x) g) : ∃ u, g = .iface t u ∧ V s x u := by
  cases h with
  | im h => cases h with | ifc h => exact ⟨_, rfl, .im h⟩
  | ifc h => exact ⟨_, rfl, h⟩
theorem V.roE {c : Bool} {k n : Nat} {xs : List (List AV)} (h : V s (.ro c k n xs) g) : VI s.J (.ro c k n xs) g := by cases h with | im h => exact h
theorem V.ptrE {cs : List AV} (h : V s (.ptr cs) g) : VI s.J (.ptr cs) g := by cases h with | im h => exact h
theorem VI.aggE {J : Imm} {cs : List AV} (h : VI J (.agg cs) g) : ∃ gs, g = .agg gs.toArray ∧ L2 (VI J) cs gs := by cases h with | agg hl h => exact ⟨_, rfl, hl, h⟩
theorem V.ndE {i off : Nat} (h : V s (.nd (some i) off) g) : ∃ b, s.bs[i]? = some b ∧ g = .pointer (some ⟨b, off, none⟩) := by
  cases h with
  | im h => cases h
  | nd hb => exact ⟨_, hb, rfl⟩
theorem V.refB {h off : Nat} (H : V s (.ref h off) g) (hC : isBx (s.C h) = true) : ∃ b sz, s.ρ h = .at b sz ∧ g = .pointer (some ⟨b, off, none⟩) := by
  cases H with
  | im h => cases h
  | ref hr => exact ⟨_, _, hr, rfl⟩
  | refd hr hd => rw [hd] at hC; cases hC
theorem V.refP {h off : Nat} (H : V s (.ref h off) g) : ∃ b, g = .pointer (some ⟨b, off, none⟩) ∧ ∀ off', V s (.ref h off') (.pointer (some ⟨b, off', none⟩)) := by
  cases H with
  | im h => cases h
  | ref hr hC => exact ⟨_, rfl, fun _ => .ref hr hC⟩
  | refd hr hd => exact ⟨_, rfl, fun _ => .refd hr hd⟩
theorem V.refE {h off : Nat} {cs : List AV} (H : V s (.ref h off) g) (hC : s.C h = .box cs) : ∃ b sz, s.ρ h = .at b sz ∧ g = .pointer (some ⟨b, off, none⟩) := H.refB (by rw [hC]; rfl)
theorem V.mpE {h : Nat} {kk : IntKind} {m : List (Int × AV)} (H : V s (.mp h) g) (hC : s.C h = .mp kk m) : ∃ b sz, s.ρ h = .at b sz ∧ g = .map (some b) := by
  cases H with
  | im h => cases h
  | mp hr => exact ⟨_, _, hr, rfl⟩
  | mpd _ hr hd => rw [hC] at hd; cases hd
theorem V.slE' {c h n off len e k : Nat} {z : Bool} {xs : List (List AV)} (H : V s (.sl c h n off len) g) (hC : s.C h = .arr z e k n xs) :
    (∃ b sz cap o, s.ρ h = .at b sz ∧ off + len ≤ n ∧ len ≤ cap ∧ (c = 0 → (off + cap) * k = sz) ∧ (c = 1 → cap = len) ∧ (o = off * k ∨ (c = 2 ∧ len = 0)) ∧ g = .slice (some ⟨b, o, none⟩) len cap) ∨
    (z = true ∧ s.ρ h = .nl ∧ n = 0 ∧ off = 0 ∧ len = 0 ∧ g = .slice none 0 0) := by
  cases H with
  | im h => cases h
  | sl hr hC' hl hc hz hz' ho =>
    rw [hC] at hC'; injection hC' with e0 e1 e2 e3; subst e1 e2
    exact .inl ⟨_, _, _, _, hr, hl, hc, hz, hz', ho, rfl⟩
  | sl0 hr hC' => rw [hC] at hC'; injection hC' with e0 e1 e2 e3; exact .inr ⟨e0, hr, rfl, rfl, rfl, rfl⟩
  | sls _ hr hC' => exact absurd (hC' _ _ _ _ _ hC) (by omega)
theorem V.slE {c h n off len e k : Nat} {xs : List (List AV)} (H : V s (.sl c h n off len) g) (hC : s.C h = .arr false e k n xs) :
    ∃ b sz cap o, s.ρ h = .at b sz ∧ off + len ≤ n ∧ len ≤ cap ∧ (c = 0 → (off + cap) * k = sz) ∧ (c = 1 → cap = len) ∧ (o = off * k ∨ (c = 2 ∧ len = 0)) ∧ g = .slice (some ⟨b, o, none⟩) len cap := by
  rcases H.slE' hC with h | h
  · exact h
  · cases h.1
theorem V.elE {h n j r e k : Nat} {z : Bool} {xs : List (List AV)} (H : V s (.el h n j r) g) (hC : s.C h = .arr z e k n xs) : ∃ b sz, s.ρ h = .at b sz ∧ g = .pointer (some ⟨b, j * k + r, none⟩) := by
  cases H with
  | im h => cases h
  | el hr hC' => rw [hC] at hC'; injection hC' with e0 e1 e2 e3; subst e2; exact ⟨_, _, hr, rfl⟩
  | els _ hr hC' => exact absurd (hC' _ _ _ _ _ hC) (by omega)
def oneA : AV → Bool
  | .v x => one x
  | .agg _ => false
  | .tup _ => false
  | _ => true
theorem VI.one {J : Imm} {x : AV} (h : VI J x g) (k : oneA x = true) : one g = true := by cases h <;> first | exact k | rfl | (cases k; done)
theorem V.one {x : AV} (h : V s x g) (k : oneA x = true) : one g = true := by
  cases h <;> first | assumption | rfl | (cases k; done) | skip
  rename_i h; exact h.one k
def pureA : AV → Bool
  | .v _ => true
  | .flt _ => true
  | .ro _ _ _ _ => true
  | .ptr _ => true
  | .agg cs => pureL cs
  | .tup cs => pureL cs
  | .fn _ fi ca => pureL fi && pureL ca
  | .ifc _ x => pureA x
  | _ => false
where
  pureL : List AV → Bool
  | [] => true
  | x :: r => pureA x && pureL r
theorem pureL_at : ∀ {cs : List AV} {j : Nat} {y : AV}, pureA.pureL cs = true → cs[j]? = some y → pureA y = true
  | [], j, y, _, h => by simp at h
  | x :: r, 0, y, h, e => by simp at e; subst e; simp [pureA.pureL] at h; exact h.1
  | x :: r, j + 1, y, h, e => by simp [pureA.pureL] at h; exact pureL_at h.2 (by simpa using e)
theorem V.pure {x : AV} (h : V s x g) : pureA x = true → VI s.J x g := by
  induction h with
  | im h => exact fun _ => h
  | agg hl _ ih => exact fun k => .agg hl fun j y g a b => ih j y g a b (pureL_at (by simpa [pureA] using k) a)
  | tup hl _ ih => exact fun k => .tup hl fun j y g a b => ih j y g a b (pureL_at (by simpa [pureA] using k) a)
  | fn hf hc _ _ ih1 ih2 =>
    intro k
    simp only [pureA, Bool.and_eq_true] at k
    exact .fn hf hc (fun j y g a b => ih1 j y g a b (pureL_at k.1 a)) (fun j y g a b => ih2 j y g a b (pureL_at k.2 a))
  | ifc _ ih => exact fun k => .ifc (ih (by simpa [pureA] using k))
  | _ => intro k; cases k
end

def Kin : AO → AO → Prop
  | .dead, .dead => True
  | .box _, .box _ => True
  | .arr z e k n _, .arr z' e' k' n' _ => (z = true → z' = true) ∧ e = e' ∧ k = k' ∧ n = n'
  | .mp kk _, .mp kk' _ => kk = kk'
  | .seg _, .seg _ => True
  | _, _ => False
theorem Kin.rfl' : ∀ {o : AO}, Kin o o
  | .dead => trivial
  | .box _ => trivial
  | .arr .. => ⟨id, rfl, rfl, rfl⟩
  | .mp _ _ => rfl
  | .seg _ => trivial
theorem Kin.trans : ∀ {a b c : AO}, Kin a b → Kin b c → Kin a c
  | .dead, .dead, .dead, _, _ => trivial
  | .box _, .box _, .box _, _, _ => trivial
  | .arr .., .arr .., .arr .., h, k => ⟨fun e => k.1 (h.1 e), h.2.1.trans k.2.1, h.2.2.1.trans k.2.2.1, h.2.2.2.trans k.2.2.2⟩
  | .mp _ _, .mp _ _, .mp _ _, h, k => Eq.trans h k
  | .seg _, .seg _, .seg _, _, _ => trivial
inductive Fate (s s' : Ms) (h : Nat) : Prop
  | same (h1 : s'.ρ h = s.ρ h) (h2 : Kin (s.C h) (s'.C h))
  | died (h1 : s'.ρ h = .dead) (h2 : s'.C h = .dead)
  | grew {z e k n xs z' e' k' n' xs'} (h1 : s.C h = .arr z e k n xs) (h2 : s'.C h = .arr z' e' k' n' xs') (h3 : n < n') (h4 : s'.ρ h ≠ .unborn) (h5 : s'.ρ h ≠ .dead)
structure Le (s s' : Ms) : Prop where
  J : ∀ b gs, s.J b = some gs → s'.J b = some gs
  bs : ∀ (i b : Nat), s.bs[i]? = some b → s'.bs[i]? = some b
  f : ∀ h, s.ρ h ≠ .unborn → Fate s s' h
theorem Le.refl (s : Ms) : Le s s := ⟨fun _ _ h => h, fun _ _ h => h, fun h _ => .same rfl Kin.rfl'⟩
theorem Fate.born {s s' : Ms} {h : Nat} (hb : s.ρ h ≠ .unborn) (f : Fate s s' h) : s'.ρ h ≠ .unborn := by
  cases f with
  | same h1 h2 => rw [h1]; exact hb
  | died h1 h2 => rw [h1]; simp
  | grew h1 h2 h3 h4 h5 => exact h4
theorem Kin.arr {z e k n xs} {o : AO} (h : Kin (.arr z e k n xs) o) : ∃ z' xs', o = .arr z' e k n xs' ∧ (z = true → z' = true) := by
  cases o with
  | arr z' e' k' n' xs' => obtain ⟨h1, rfl, rfl, rfl⟩ := h; exact ⟨z', xs', rfl, h1⟩
  | _ => exact h.elim
theorem Kin.arr' {z e k n xs} {o : AO} (h : Kin o (.arr z e k n xs)) : ∃ z' xs', o = .arr z' e k n xs' := by
  cases o with
  | arr z' e' k' n' xs' => obtain ⟨h1, rfl, rfl, rfl⟩ := h; exact ⟨z', xs', rfl⟩
  | _ => exact h.elim
theorem Kin.dead {o : AO} (h : Kin .dead o) : o = .dead := by cases o <;> first | rfl | exact h.elim
theorem Fate.trans {s s' s'' : Ms} {h : Nat} (f : Fate s s' h) (f' : Fate s' s'' h) : Fate s s'' h := by
  cases f with
  | same h1 h2 =>
    cases f' with
    | same k1 k2 => exact .same (k1.trans h1) (h2.trans k2)
    | died k1 k2 => exact .died k1 k2
    | grew k1 k2 k3 k4 k5 =>
      rw [k1] at h2
      obtain ⟨z0, xs0, e⟩ := h2.arr'
      exact .grew e k2 k3 k4 k5
  | died h1 h2 =>
    cases f' with
    | same k1 k2 => rw [h2] at k2; exact .died (k1.trans h1) k2.dead
    | died k1 k2 => exact .died k1 k2
    | grew k1 k2 k3 k4 k5 => rw [h2] at k1; cases k1
  | grew h1 h2 h3 h4 h5 =>
    cases f' with
    | same k1 k2 =>
      rw [h2] at k2
      obtain ⟨z0, xs0, e, l⟩ := k2.arr
      exact .grew h1 e h3 (by rw [k1]; exact h4) (by rw [k1]; exact h5)
    | died k1 k2 => exact .died k1 k2
    | grew k1 k2 k3 k4 k5 =>
      rw [h2] at k1; injection k1 with e0 e1 e2 e3 e4; subst e3
      exact .grew h1 k2 (by omega) k4 k5
theorem Le.trans {s s' s'' : Ms} (h : Le s s') (k : Le s' s'') : Le s s'' :=
  ⟨fun b gs e => k.J b gs (h.J b gs e), fun i b e => k.bs i b (h.bs i b e), fun x hx => (h.f x hx).trans (k.f x ((h.f x hx).born hx))⟩
theorem Kin.box {cs} {o : AO} (h : Kin (.box cs) o) : ∃ cs', o = .box cs' := by cases o <;> first | exact ⟨_, rfl⟩ | exact h.elim
theorem Kin.bx {a b : AO} (h : Kin a b) (k : isBx a = true) : isBx b = true := by cases a <;> cases b <;> first | rfl | exact h.elim | exact k
theorem Kin.mp {kk cs} {o : AO} (h : Kin (.mp kk cs) o) : ∃ cs', o = .mp kk cs' := by
  cases o with
  | mp kk' cs' => have h : kk = kk' := h; subst h; exact ⟨_, rfl⟩
  | _ => exact h.elim
theorem Fate.short {s s' : Ms} {h n : Nat} (f : Fate s s' h) (hC : ∀ z e k m xs, s.C h = .arr z e k m xs → n < m) : ∀ z e k m xs, s'.C h = .arr z e k m xs → n < m := by
  intro z te k m xs e
  cases f with
  | same h1 h2 =>
    rw [e] at h2
    obtain ⟨z0, xs0, e0⟩ := h2.arr'
    exact hC _ _ _ _ _ e0
  | died h1 h2 => rw [h2] at e; cases e
  | grew h1 h2 h3 h4 h5 =>
    rw [h2] at e; injection e with e0 e1 e2 e3 e4; subst e3
    have := hC _ _ _ _ _ h1
    omega
theorem V.mono {s s' : Ms} (h : Le s s') {x : AV} {g : Value} (H : V s x g) : V s' x g := by
  induction H with
  | im hi => exact .im (hi.mono h.J)
  | @ref hh off b sz hr hC =>
    cases h.f hh (by rw [hr]; simp) with
    | same h1 h2 => exact .ref (h1.trans hr) (h2.bx hC)
    | died h1 h2 => exact .refd (by rw [h1]; simp) h2
    | grew h1 h2 h3 h4 h5 => rw [h1] at hC; cases hC
  | @refd hh off b hr hC =>
    have hb := (h.f hh hr).born hr
    cases h.f hh hr with
    | same h1 h2 => rw [hC] at h2; exact .refd hb h2.dead
    | died h1 h2 => exact .refd hb h2
    | grew h1 h2 h3 h4 h5 => rw [hC] at h1; cases h1
  | @sl c hh n off len b sz e k cap o z xs hr hC hl hc hz hz' ho =>
    have hr' : s.ρ hh ≠ .unborn := by rw [hr]; simp
    have hb := (h.f hh hr').born hr'
    cases h.f hh hr' with
    | same h1 h2 => rw [hC] at h2; obtain ⟨z0, xs', e, l⟩ := h2.arr; exact .sl (h1.trans hr) e hl hc hz hz' ho
    | died h1 h2 => exact .sls rfl hb (fun z e k m xs e' => by rw [h2] at e'; cases e')
    | grew h1 h2 h3 h4 h5 => exact .sls rfl hb (fun z' te k' m xs'' e => by rw [h2] at e; injection e with e0 e1 e2 e3; subst e3; rw [hC] at h1; injection h1 with e0 e1 e2 e3; subst e3; exact h3)
  | @sl0 c hh e k xs hr hC =>
    have hr' : s.ρ hh ≠ .unborn := by rw [hr]; simp
    have hb := (h.f hh hr').born hr'
    cases h.f hh hr' with
    | same h1 h2 => rw [hC] at h2; obtain ⟨z0, xs', e, l⟩ := h2.arr; rw [l rfl] at e; exact .sl0 (h1.trans hr) e
    | died h1 h2 => exact .sls rfl hb (fun z e k m xs e' => by rw [h2] at e'; cases e')
    | grew h1 h2 h3 h4 h5 => exact .sls rfl hb (fun z' te k' m xs'' e => by rw [h2] at e; injection e with e0 e1 e2 e3; subst e3; rw [hC] at h1; injection h1 with e0 e1 e2 e3; subst e3; exact h3)
  | @sls c hh n off len g ho hr hC => exact .sls ho ((h.f hh hr).born hr) ((h.f hh hr).short hC)
  | @el hh n j r b sz z e k xs hr hC =>
    have hr' : s.ρ hh ≠ .unborn := by rw [hr]; simp
    have hb := (h.f hh hr').born hr'
    cases h.f hh hr' with
    | same h1 h2 => rw [hC] at h2; obtain ⟨z0, xs', e, l⟩ := h2.arr; exact .el (h1.trans hr) e
    | died h1 h2 => exact .els rfl hb (fun z e k m xs e' => by rw [h2] at e'; cases e')
    | grew h1 h2 h3 h4 h5 => exact .els rfl hb (fun z' te k' m xs'' e => by rw [h2] at e; injection e with e0 e1 e2 e3; subst e3; rw [hC] at h1; injection h1 with e0 e1 e2 e3; subst e3; exact h3)
  | @els hh n j r g ho hr hC => exact .els ho ((h.f hh hr).born hr) ((h.f hh hr).short hC)
  | @mp hh b sz kk m hr hC =>
    cases h.f hh (by rw [hr]; simp) with
    | same h1 h2 => rw [hC] at h2; obtain ⟨cs', e⟩ := h2.mp; exact .mp (h1.trans hr) e
    | died h1 h2 => exact .mpd rfl (by rw [h1]; simp) h2
    | grew h1 h2 h3 h4 h5 => rw [hC] at h1; cases h1
  | @mpd hh g ho hr hC =>
    have hb := (h.f hh hr).born hr
    cases h.f hh hr with
    | same h1 h2 => rw [hC] at h2; exact .mpd ho hb h2.dead
    | died h1 h2 => exact .mpd ho hb h2
    | grew h1 h2 h3 h4 h5 => rw [hC] at h1; cases h1
  | nd hb => exact .nd (h.bs _ _ hb)
  | nd0 => exact .nd0
  | agg hl _ ih => exact .agg hl ih
  | tup hl _ ih => exact .tup hl ih
  | fn hf hc _ _ ih1 ih2 => exact .fn hf hc ih1 ih2
  | ifc _ ih => exact .ifc ih

def EntR (J : Imm) (kk : IntKind) (m : List (Int × AV)) (es : List MapEntry) : Prop :=
  ∃ mv : List (Int × Value), Ent kk id es mv ∧ m.length = mv.length ∧ ∀ (i : Nat) (p : Int × AV) (u : Int × Value), m[i]? = some p → mv[i]? = some u → p.1 = u.1 ∧ VI J p.2 u.2
theorem EntR.mono {J J' : Imm} (hJ : ∀ b gs, J b = some gs → J' b = some gs) {kk : IntKind} {m : List (Int × AV)} {es : List MapEntry} (h : EntR J kk m es) : EntR J' kk m es := by
  obtain ⟨mv, h1, h2, h3⟩ := h
  exact ⟨mv, h1, h2, fun i p u a b => ⟨(h3 i p u a b).1, (h3 i p u a b).2.mono hJ⟩⟩
def Ones (gs : List Value) : Prop := ∀ u ∈ gs, one u = true
def ArrR (J : Imm) (k n : Nat) (xs : List (List AV)) (us : List Value) : Prop :=
  us.length = n * k ∧ xs.length = n ∧ (∀ (i : Nat) (x : List AV), xs[i]? = some x → x.length = k) ∧ ∀ (i : Nat) (x : List AV) (j : Nat) (y : AV) (g : Value), xs[i]? = some x → x[j]? = some y → us[i * k + j]? = some g → VI J y g
def SegR (s : Ms) : List Sg → List Value → Prop
  | [], gs => gs = []
  | .c x :: r, gs => ∃ g t, gs = g :: t ∧ V s x g ∧ SegR s r t
  | .a k n xs :: r, gs => ∃ us t, gs = us ++ t ∧ ArrR s.J k n xs us ∧ SegR s r t
theorem ArrR.mono {J J' : Imm} (hJ : ∀ b gs, J b = some gs → J' b = some gs) {k n : Nat} {xs : List (List AV)} {us : List Value} (h : ArrR J k n xs us) : ArrR J' k n xs us :=
  ⟨h.1, h.2.1, h.2.2.1, fun i x j y g a b c => (h.2.2.2 i x j y g a b c).mono hJ⟩
theorem SegR.mono {s s' : Ms} (h : Le s s') : ∀ {ss : List Sg} {gs : List Value}, SegR s ss gs → SegR s' ss gs
  | [], gs, H => H
  | .c x :: r, gs, ⟨g, t, e, hv, H⟩ => ⟨g, t, e, hv.mono h, SegR.mono h H⟩
  | .a k n xs :: r, gs, ⟨us, t, e, ha, H⟩ => ⟨us, t, e, ha.mono h.J, SegR.mono h H⟩
def OR (s : Ms) : AO → Nat → Obj → Prop
  | .dead, _, _ => True
  | .box cs, sz, o => ∃ (gs : List Value) (e : TypeId), o = .cells gs.toArray e (0, 0) ∧ gs.length = sz ∧ Ones gs ∧ L2 (V s) cs gs
  | .arr z e k n xs, sz, o => ∃ (gs : List Value) (cap : Nat), o = .cells gs.toArray e (0, 0) ∧ Ones (gs.take (n * k)) ∧ gs.length = sz ∧ sz = cap * k ∧ cap ≤ maxLen ∧ n ≤ cap ∧ 0 < k ∧ xs.length = n ∧ (∀ (i : Nat) (x : List AV), xs[i]? = some x → x.length = k) ∧
      ∀ (i : Nat) (x : List AV) (j : Nat) (y : AV) (g : Value), xs[i]? = some x → x[j]? = some y → gs[i * k + j]? = some g → VI s.J y g
  | .mp kk m, _, o => ∃ (es : Array MapEntry) (c : Nat), o = .map es c ∧ EntR s.J kk m es.toList
  | .seg ss, sz, o => ∃ (gs : List Value) (e : TypeId), o = .cells gs.toArray e (0, 0) ∧ gs.length = sz ∧ Ones gs ∧ SegR s ss gs
theorem OR.mono {s s' : Ms} (h : Le s s') {a : AO} {sz : Nat} {o : Obj} (H : OR s a sz o) : OR s' a sz o := by
  cases a with
  | dead => trivial
  | box cs => obtain ⟨gs, e, h1, h2, h0, h3⟩ := H; exact ⟨gs, e, h1, h2, h0, h3.mono fun x g hv => hv.mono h⟩
  | arr z e k n xs => obtain ⟨gs, cap, h1, h10, h2, h3, h4, h5, h6, h9, h7, h8⟩ := H; exact ⟨gs, cap, h1, h10, h2, h3, h4, h5, h6, h9, h7, fun i x j y g a b c => (h8 i x j y g a b c).mono h.J⟩
  | mp kk m => obtain ⟨es, c, h1, h2⟩ := H; exact ⟨es, c, h1, h2.mono h.J⟩
  | seg ss => obtain ⟨gs, e, h1, h2, h0, h3⟩ := H; exact ⟨gs, e, h1, h2, h0, h3.mono h⟩

def Own (s : Ms) (b : Nat) : Prop := (∃ h sz, s.ρ h = .at b sz) ∨ b ∈ s.bs
structure Wd (s : Ms) (w : World) : Prop where
  obj : ∀ h b sz, s.ρ h = .at b sz → ∃ o, w.heap[b]? = some o ∧ OR s (s.C h) sz o
  inj : ∀ h h' b sz sz', s.ρ h = .at b sz → s.ρ h' = .at b sz' → h = h'
  node : ∀ (i b : Nat), s.bs[i]? = some b → ∃ (gs : List Value) (e : TypeId) (cs : List AV), w.heap[b]? = some (.cells gs.toArray e (0, 0)) ∧ Ones gs ∧ s.A[i]? = some cs ∧ L2 (V s) cs gs
  len : s.bs.length = s.A.length
  nodup : s.bs.Nodup
  imm : ∀ b gs, s.J b = some gs → ∃ (e : TypeId) (fr : Nat × Nat) (more : List Value), w.heap[b]? = some (.cells (gs ++ more).toArray e fr)
  d1 : ∀ h b sz, s.ρ h = .at b sz → s.J b = none
  d2 : ∀ b, b ∈ s.bs → s.J b = none
  d3 : ∀ h b sz, s.ρ h = .at b sz → b ∉ s.bs
  nl : ∀ h, s.ρ h = .nl → ∃ e k, s.C h = .arr true e k 0 []
  cln : ∀ cs ∈ s.A, ∀ x ∈ cs, clnA x = true
theorem Wd.lt {s : Ms} {w : World} (hW : Wd s w) {b : Nat} (h : Own s b) : b < w.heap.size := by
  rcases h with ⟨h, sz, e⟩ | hb
  · obtain ⟨o, ho, _⟩ := hW.obj h b sz e
    exact (Array.getElem?_eq_some_iff.1 ho).1
  · obtain ⟨i, hi⟩ := List.getElem?_of_mem hb
    obtain ⟨gs, e, cs, ho, _⟩ := hW.node i b hi
    exact (Array.getElem?_eq_some_iff.1 ho).1
theorem Wd.jlt {s : Ms} {w : World} (hW : Wd s w) {b : Nat} {gs : List Value} (h : s.J b = some gs) : b < w.heap.size := by
  obtain ⟨e, fr, more, ho⟩ := hW.imm b gs h
  exact (Array.getElem?_eq_some_iff.1 ho).1

structure Stp (s : Ms) (w : World) (s' : Ms) (w' : World) : Prop where
  le : Le s s'
  os : w'.os = w.os
  tape : w'.tape = w.tape
  output : w'.output = w.output
  sz : w.heap.size ≤ w'.heap.size
  old : ∀ b, b < w.heap.size → ¬ Own s b → w'.heap[b]? = w.heap[b]?
  own : ∀ b, Own s' b → Own s b ∨ w.heap.size ≤ b
  jn : ∀ b gs, s'.J b = some gs → s.J b = some gs ∨ Own s b ∨ w.heap.size ≤ b
theorem Stp.refl (s : Ms) (w : World) : Stp s w s w := ⟨Le.refl s, rfl, rfl, rfl, Nat.le_refl _, fun _ _ _ => rfl, fun _ h => .inl h, fun _ _ h => .inl h⟩
theorem Stp.trans {s s' s'' : Ms} {w w' w'' : World} (h : Stp s w s' w') (k : Stp s' w' s'' w'') : Stp s w s'' w'' := by
  refine ⟨h.le.trans k.le, k.os.trans h.os, k.tape.trans h.tape, k.output.trans h.output, Nat.le_trans h.sz k.sz, ?_, ?_, ?_⟩
  · intro b hb ho
    refine (k.old b (Nat.lt_of_lt_of_le hb h.sz) fun ho' => ?_).trans (h.old b hb ho)
    rcases h.own b ho' with e | e
    · exact ho e
    · omega
  · intro b ho
    rcases k.own b ho with e | e
    · exact h.own b e
    · exact .inr (Nat.le_trans h.sz e)
  · intro b gs hj
    rcases k.jn b gs hj with e | e | e
    · exact h.jn b gs e
    · rcases h.own b e with e | e
      · exact .inr (.inl e)
      · exact .inr (.inr e)
    · exact .inr (.inr (Nat.le_trans h.sz e))

def Ms.put (s : Ms) (h : Nat) (r : RS) (o : AO) : Ms := { s with ρ := fun k => if k = h then r else s.ρ k, C := fun k => if k = h then o else s.C k }
section
variable {s : Ms} {w w' : World} {h : Nat} {r : RS} {o : AO}
theorem put_ρ : (s.put h r o).ρ h = r := by simp [Ms.put]
theorem put_C : (s.put h r o).C h = o := by simp [Ms.put]
theorem put_ρ' {k : Nat} (hk : k ≠ h) : (s.put h r o).ρ k = s.ρ k := by simp [Ms.put, hk]
theorem put_C' {k : Nat} (hk : k ≠ h) : (s.put h r o).C k = s.C k := by simp [Ms.put, hk]
theorem Le.put (hf : s.ρ h ≠ .unborn → Fate s (s.put h r o) h) : Le s (s.put h r o) := by
  refine ⟨fun _ _ e => e, fun _ _ e => e, fun k hk => ?_⟩
  by_cases e : k = h
  · subst e; exact hf hk
  · refine .same (put_ρ' e) ?_
    rw [put_C' e]; exact Kin.rfl'
theorem Wd.put (hW : Wd s w) (hf : s.ρ h ≠ .unborn → Fate s (s.put h r o) h) (h1 : w'.os = w.os) (h2 : w'.tape = w.tape) (h3 : w'.output = w.output) (h4 : w.heap.size ≤ w'.heap.size)
    (h5 : ∀ b, b < w.heap.size → (∀ sz, s.ρ h ≠ .at b sz) → w'.heap[b]? = w.heap[b]?)
    (h6 : ∀ b sz, r = .at b sz → (∃ sz', s.ρ h = .at b sz') ∨ w.heap.size ≤ b)
    (h7 : ∀ b sz, r = .at b sz → ∃ ob, w'.heap[b]? = some ob ∧ OR (s.put h r o) o sz ob) (h8 : r = .nl → ∃ e k, o = .arr true e k 0 [] := by intro e; cases e) : Wd (s.put h r o) w' ∧ Stp s w (s.put h r o) w' := by
  have hle : Le s (s.put h r o) := Le.put hf
  have hown : ∀ b, Own (s.put h r o) b → Own s b ∨ w.heap.size ≤ b := by
    rintro b (⟨k, sz, e⟩ | hb)
    · by_cases hk : k = h
      · subst hk; rw [put_ρ] at e
        rcases h6 b sz e with ⟨sz', e'⟩ | e'
        · exact .inl (.inl ⟨k, sz', e'⟩)
        · exact .inr e'
      · rw [put_ρ' hk] at e; exact .inl (.inl ⟨k, sz, e⟩)
    · exact .inl (.inr hb)
  have hob : ∀ k, k ≠ h → ∀ b sz, s.ρ k = .at b sz → w'.heap[b]? = w.heap[b]? := by
    intro k hk b sz e
    exact h5 b (hW.lt (.inl ⟨k, sz, e⟩)) fun sz' e' => hk (hW.inj k h b sz sz' e e')
  refine ⟨⟨?_, ?_, ?_, hW.len, hW.nodup, ?_, ?_, hW.d2, ?_, ?_, hW.cln⟩, ⟨hle, h1, h2, h3, h4, ?_, hown, fun b gs e => .inl e⟩⟩
  · intro k b sz e
    by_cases hk : k = h
    · subst hk; rw [put_ρ] at e; rw [put_C]; exact h7 b sz e
    · rw [put_ρ' hk] at e; rw [put_C' hk]
      obtain ⟨ob, ho, hr⟩ := hW.obj k b sz e
      exact ⟨ob, (hob k hk b sz e).trans ho, hr.mono hle⟩
  · intro k k' b sz sz' e e'
    have key : ∀ k sz', k ≠ h → s.ρ k = .at b sz' → r = .at b sz → False := by
      intro k sz' hk e er
      rcases h6 b sz er with ⟨sz'', e'⟩ | e'
      · exact hk (hW.inj k h b _ _ e e')
      · have := hW.lt (.inl ⟨k, sz', e⟩); omega
    by_cases hk : k = h <;> by_cases hk' : k' = h
    · rw [hk, hk']
    · subst hk; rw [put_ρ] at e; rw [put_ρ' hk'] at e'
      exact (key k' sz' hk' e' e).elim
    · subst hk'; rw [put_ρ] at e'; rw [put_ρ' hk] at e
      rcases h6 b sz' e' with ⟨sz'', e''⟩ | e''
      · exact hW.inj _ _ b _ _ e e''
      · have := hW.lt (.inl ⟨k, sz, e⟩); omega
    · rw [put_ρ' hk] at e; rw [put_ρ' hk'] at e'; exact hW.inj _ _ b _ _ e e'
  · intro i b e
    obtain ⟨gs, te, cs, a1, a0, a2, a3⟩ := hW.node i b e
    have hm : b ∈ s.bs := List.mem_of_getElem? e
    exact ⟨gs, te, cs, (h5 b (hW.lt (.inr hm)) fun sz e' => hW.d3 h b sz e' hm).trans a1, a0, a2, a3.mono fun x g hv => hv.mono hle⟩
  · intro b gs e
    obtain ⟨te, fr, more, ho⟩ := hW.imm b gs e
    exact ⟨te, fr, more, (h5 b (hW.jlt e) fun sz e' => by have := hW.d1 h b sz e'; rw [show s.J b = some gs from e] at this; cases this).trans ho⟩
  · intro k b sz e
    rcases hown b (.inl ⟨k, sz, e⟩) with (⟨k', sz', e'⟩ | hm) | hb
    · exact hW.d1 _ _ _ e'
    · exact hW.d2 b hm
    · cases hj : s.J b with
      | none => exact hj
      | some gs => have := hW.jlt hj; omega
  · intro k b sz e hb
    have hbl : b < w.heap.size := hW.lt (.inr hb)
    by_cases hk : k = h
    · subst hk; rw [put_ρ] at e
      rcases h6 b sz e with ⟨sz', e'⟩ | e'
      · exact hW.d3 _ _ _ e' hb
      · omega
    · rw [put_ρ' hk] at e; exact hW.d3 _ _ _ e hb
  · intro k e
    by_cases hk : k = h
    · subst hk; rw [put_ρ] at e; rw [put_C]; exact h8 e
    · rw [put_ρ' hk] at e; rw [put_C' hk]; exact hW.nl k e
  · intro b hb ho
    exact h5 b hb fun sz e => ho (.inl ⟨h, sz, e⟩)
end
theorem Wd.setNode {s : Ms} {w w' : World} {i b : Nat} {cs' : List AV} {gs' : List Value} {e : TypeId} (hW : Wd s w) (hb : s.bs[i]? = some b) (h1 : w'.os = w.os) (h2 : w'.tape = w.tape) (h3 : w'.output = w.output) (h4 : w.heap.size ≤ w'.heap.size)
    (h5 : ∀ k, k ≠ b → w'.heap[k]? = w.heap[k]?) (h6 : w'.heap[b]? = some (.cells gs'.toArray e (0, 0))) (h8 : Ones gs') (h7 : L2 (V s) cs' gs') (h9 : ∀ x ∈ cs', clnA x = true) :
    Wd { s with A := s.A.set i cs' } w' ∧ Stp s w { s with A := s.A.set i cs' } w' := by
  have hle : Le s { s with A := s.A.set i cs' } := ⟨fun _ _ h => h, fun _ _ h => h, fun h _ => .same rfl Kin.rfl'⟩
  have hm : b ∈ s.bs := List.mem_of_getElem? hb
  refine ⟨⟨?_, hW.inj, ?_, by simpa using hW.len, hW.nodup, ?_, hW.d1, hW.d2, hW.d3, hW.nl, fun cs hcs => (List.mem_or_eq_of_mem_set hcs).elim (fun h => hW.cln cs h) (fun h => h ▸ h9)⟩, ⟨hle, h1, h2, h3, h4, ?_, fun _ h => .inl h, fun _ _ h => .inl h⟩⟩
  · intro h c sz hr
    obtain ⟨o, ho, hO⟩ := hW.obj h c sz hr
    exact ⟨o, (h5 c fun e => hW.d3 h c sz hr (e ▸ hm)).trans ho, hO.mono hle⟩
  · intro j c hj
    by_cases hji : j = i
    · subst hji
      rw [hb] at hj; injection hj with hj; subst hj
      refine ⟨gs', e, cs', h6, h8, ?_, h7.mono fun x g h => h.mono hle⟩
      have : j < s.A.length := by rw [← hW.len]; exact (List.getElem?_eq_some_iff.1 hb).1
      simp [List.getElem?_set_self this]
    · obtain ⟨gs, te, cs, a1, a0, a2, a3⟩ := hW.node j c hj
      have hcb : c ≠ b := by
        rintro rfl
        have e1 := (List.getElem?_eq_some_iff.1 hj); have e2 := (List.getElem?_eq_some_iff.1 hb)
        obtain ⟨l1, v1⟩ := e1; obtain ⟨l2, v2⟩ := e2
        exact hji ((List.getElem_inj hW.nodup).1 (v1.trans v2.symm))
      refine ⟨gs, te, cs, (h5 c hcb).trans a1, a0, ?_, a3.mono fun x g h => h.mono hle⟩
      rw [List.getElem?_set_ne (fun e => hji e.symm)]; exact a2
  · intro c gs hj
    obtain ⟨te, fr, more, ho⟩ := hW.imm c gs hj
    exact ⟨te, fr, more, (h5 c fun e => by have := hW.d2 b hm; rw [e] at hj; rw [show s.J b = some gs from hj] at this; cases this).trans ho⟩
  · intro c hc ho
    exact h5 c fun e => ho (.inr (e ▸ hm))
theorem Wd.addNode {s : Ms} {w : World} {cs : List AV} {gs : List Value} {e : TypeId} (hW : Wd s w) (h8 : Ones gs) (h7 : L2 (V s) cs gs) (h9 : ∀ x ∈ cs, clnA x = true) :
    Wd { s with bs := s.bs ++ [w.heap.size], A := s.A ++ [cs] } { w with heap := w.heap.push (.cells gs.toArray e (0, 0)) } ∧ Stp s w { s with bs := s.bs ++ [w.heap.size], A := s.A ++ [cs] } { w with heap := w.heap.push (.cells gs.toArray e (0, 0)) } := by
  have hk : ∀ k, k < w.heap.size → (w.heap.push (Obj.cells gs.toArray e (0, 0)))[k]? = w.heap[k]? := fun k hk => by rw [Array.getElem?_push, if_neg (by omega)]
  have hbs : ∀ (i b : Nat), s.bs[i]? = some b → (s.bs ++ [w.heap.size])[i]? = some b := fun i b hb => by
    rw [List.getElem?_append_left (List.getElem?_eq_some_iff.1 hb).1]; exact hb
  have hle : Le s { s with bs := s.bs ++ [w.heap.size], A := s.A ++ [cs] } := ⟨fun _ _ h => h, hbs, fun h _ => .same rfl Kin.rfl'⟩
  refine ⟨⟨?_, hW.inj, ?_, by simp [hW.len], ?_, ?_, hW.d1, ?_, ?_, hW.nl, fun ds hds => (List.mem_append.1 hds).elim (fun h => hW.cln ds h) (fun h => List.mem_singleton.1 h ▸ h9)⟩, ⟨hle, rfl, rfl, rfl, by simp, fun b hb _ => hk b hb, ?_, fun _ _ h => .inl h⟩⟩
  · intro h c sz hr
    obtain ⟨o, ho, hO⟩ := hW.obj h c sz hr
    exact ⟨o, (hk c (hW.lt (.inl ⟨h, sz, hr⟩))).trans ho, hO.mono hle⟩
  · intro j c hj
    simp only at hj
    by_cases hl : j < s.bs.length
    · rw [List.getElem?_append_left hl] at hj
      obtain ⟨gs, te, cs, a1, a0, a2, a3⟩ := hW.node j c hj
      refine ⟨gs, te, cs, (hk c (hW.lt (.inr (List.mem_of_getElem? hj)))).trans a1, a0, ?_, a3.mono fun x g h => h.mono hle⟩
      rw [List.getElem?_append_left (by rw [← hW.len]; exact hl)]; exact a2
    · rw [List.getElem?_append_right (by omega)] at hj
      have : j - s.bs.length = 0 := by
        cases hq : j - s.bs.length with
        | zero => rfl
        | succ m => rw [hq] at hj; simp at hj
      rw [this] at hj; simp at hj; subst hj
      refine ⟨gs, e, cs, by simp, h8, ?_, h7.mono fun x g h => h.mono hle⟩
      rw [List.getElem?_append_right (by rw [← hW.len]; omega), ← hW.len, this]; rfl
  · simp only [List.nodup_append]
    refine ⟨hW.nodup, by simp, fun a ha b hb => ?_⟩
    simp at hb; subst hb
    have := hW.lt (.inr ha); omega
  · intro c gs hj
    obtain ⟨te, fr, more, ho⟩ := hW.imm c gs hj
    exact ⟨te, fr, more, (hk c (hW.jlt hj)).trans ho⟩
  · intro b hb
    simp only [List.mem_append, List.mem_singleton] at hb
    rcases hb with hb | rfl
    · exact hW.d2 b hb
    · cases hj : s.J w.heap.size with
      | none => rfl
      | some gs => have := hW.jlt hj; omega
  · intro h b sz hr hb
    simp only [List.mem_append, List.mem_singleton] at hb
    rcases hb with hb | rfl
    · exact hW.d3 h b sz hr hb
    · have := hW.lt (.inl ⟨h, sz, hr⟩); omega
  · rintro b (⟨h, sz, hr⟩ | hb)
    · exact .inl (.inl ⟨h, sz, hr⟩)
    · simp only [List.mem_append, List.mem_singleton] at hb
      rcases hb with hb | rfl
      · exact .inl (.inr hb)
      · exact .inr (Nat.le_refl _)
theorem Wd.drawn {s : Ms} {w : World} (hW : Wd s w) (m : Nat) : Wd s { w with drawn := m } := ⟨hW.obj, hW.inj, hW.node, hW.len, hW.nodup, hW.imm, hW.d1, hW.d2, hW.d3, hW.nl, hW.cln⟩
theorem Stp.drawn {s : Ms} {w : World} (m : Nat) : Stp s w s { w with drawn := m } := ⟨Le.refl s, rfl, rfl, rfl, Nat.le_refl _, fun _ _ _ => rfl, fun _ h => .inl h, fun _ _ h => .inl h⟩
def frzS (s : Ms) (h b : Nat) (gs : List Value) : Ms := { s with ρ := fun k => if k = h then .dead else s.ρ k, C := fun k => if k = h then .dead else s.C k, J := fun k => if k = b then some gs else s.J k }
theorem frz_le {s : Ms} {h b sz : Nat} {gs : List Value} {w : World} (hW : Wd s w) (hr : s.ρ h = .at b sz) : Le s (frzS s h b gs) := by
  refine ⟨fun k us hk => ?_, fun _ _ e => e, fun k hk => ?_⟩
  · simp only [frzS]
    rw [if_neg (fun e => by subst e; have := hW.d1 h k sz hr; rw [hk] at this; cases this)]; exact hk
  · by_cases e : k = h
    · subst e; exact .died (by simp [frzS]) (by simp [frzS])
    · refine .same (by simp [frzS, e]) ?_
      simp only [frzS, if_neg e]; exact Kin.rfl'
theorem frz_wd {s : Ms} {h b sz : Nat} {gs more : List Value} {w : World} {e : TypeId} {fr : Nat × Nat} (hW : Wd s w) (hr : s.ρ h = .at b sz) (ho : w.heap[b]? = some (.cells (gs ++ more).toArray e fr)) :
    Wd (frzS s h b gs) w ∧ Stp s w (frzS s h b gs) w := by
  have hle := frz_le (gs := gs) hW hr
  have key : ∀ {k b' sz'}, (frzS s h b gs).ρ k = .at b' sz' → k ≠ h ∧ s.ρ k = .at b' sz' ∧ b' ≠ b := by
    intro k b' sz' e
    by_cases hk : k = h
    · subst hk; simp [frzS] at e
    · have e2 : s.ρ k = .at b' sz' := by simpa [frzS, hk] using e
      exact ⟨hk, e2, fun eb => hk (hW.inj k h b' sz' sz e2 (eb ▸ hr))⟩
  refine ⟨⟨fun k b' sz' e => ?_, fun k k' b' s1 s2 e e' => hW.inj k k' b' s1 s2 (key e).2.1 (key e').2.1, fun i c e => ?_, hW.len, hW.nodup, fun c us e => ?_, fun k b' sz' e => ?_, fun c hc => ?_, fun k b' sz' e => hW.d3 k b' sz' (key e).2.1, fun k e => ?_, hW.cln⟩, ⟨hle, rfl, rfl, rfl, Nat.le_refl _, fun _ _ _ => rfl, ?_, fun c us e => ?_⟩⟩
  · obtain ⟨k1, k2, k3⟩ := key e
    obtain ⟨o, ho', hO⟩ := hW.obj k b' sz' k2
    refine ⟨o, ho', ?_⟩
    have : (frzS s h b gs).C k = s.C k := by simp [frzS, k1]
    rw [this]; exact hO.mono hle
  · obtain ⟨us, te, cs, a1, a0, a2, a3⟩ := hW.node i c e
    exact ⟨us, te, cs, a1, a0, a2, a3.mono fun x g h => h.mono hle⟩
  · simp only [frzS] at e
    by_cases hc : c = b
    · subst hc; rw [if_pos rfl] at e; cases e
      exact ⟨_, _, _, ho⟩
    · rw [if_neg hc] at e; exact hW.imm c us e
  · obtain ⟨k1, k2, k3⟩ := key e
    simp only [frzS]; rw [if_neg k3]; exact hW.d1 k b' sz' k2
  · simp only [frzS]
    rw [if_neg (fun e => by subst e; exact hW.d3 h c sz hr hc)]; exact hW.d2 c hc
  · by_cases hk : k = h
    · subst hk; simp [frzS] at e
    · have e2 : s.ρ k = .nl := by simpa [frzS, hk] using e
      have : (frzS s h b gs).C k = s.C k := by simp [frzS, hk]
      rw [this]; exact hW.nl k e2
  · rintro c (⟨k, sz', e⟩ | hb)
    · exact .inl (.inl ⟨k, sz', (key e).2.1⟩)
    · exact .inl (.inr hb)
  · simp only [frzS] at e
    by_cases hc : c = b
    · subst hc; exact .inr (.inl (.inl ⟨h, sz, hr⟩))
    · rw [if_neg hc] at e; exact .inl e

def posn : List Nat → Nat → Option Nat
  | [], _ => none
  | a :: r, h => bif Nat.beq a h then some 0 else (posn r h).map (· + 1)
theorem posn_at : ∀ {l : List Nat} {h i : Nat}, posn l h = some i → l[i]? = some h
  | [], h, i, e => by simp [posn] at e
  | a :: r, h, i, e => by
    unfold posn at e
    cases hb : Nat.beq a h
    · rw [hb] at e
      simp only [cond_false, Option.map_eq_some_iff] at e
      obtain ⟨j, hj, rfl⟩ := e
      simpa using posn_at hj
    · rw [hb] at e; simp only [cond_true, Option.some.injEq] at e
      subst e
      simpa using Nat.eq_of_beq_eq_true hb
structure Rn where
  f : Nat → Option Nat
  nd : Bool
mutual
def ren (τ : Rn) : AV → Option AV
  | .v x => some (.v x)
  | .flt b => some (.flt b)
  | .ro c k n xs => some (.ro c k n xs)
  | .ptr cs => some (.ptr cs)
  | .ref h off => (τ.f h).map fun h' => .ref h' off
  | .el h n j r => (τ.f h).map fun h' => .el h' n j r
  | .sl c h n off len => (τ.f h).map fun h' => .sl c h' n off len
  | .mp h => (τ.f h).map fun h' => .mp h'
  | .nd i off => bif τ.nd then some (.nd i off) else none
  | .agg cs => (renL τ cs).map .agg
  | .tup cs => (renL τ cs).map .tup
  | .fn f fi ca => (renL τ fi).bind fun fi' => (renL τ ca).map fun ca' => .fn f fi' ca'
  | .ifc t x => (ren τ x).map (.ifc t)
def renL (τ : Rn) : List AV → Option (List AV)
  | [] => some []
  | x :: r => (ren τ x).bind fun x' => (renL τ r).map fun r' => x' :: r'
end
structure Sees (τ : Rn) (s s' : Ms) : Prop where
  J : s'.J = s.J
  h : ∀ h h', τ.f h = some h' → s'.ρ h' = s.ρ h ∧ Kin (s.C h) (s'.C h')
  nd : τ.nd = true → s'.bs = s.bs
theorem V.ren {τ : Rn} {s s' : Ms} (hs : Sees τ s s') {x : AV} {g : Value} (H : V s x g) : ∀ {y : AV}, X.ren τ x = some y → V s' y g := by
  have hh : ∀ {α : Type} {o : Option α} {f : α → AV} {y : AV}, o.map f = some y → ∃ a, o = some a ∧ y = f a := by
    intro α o f y h
    obtain ⟨a, ha, hb⟩ := Option.map_eq_some_iff.1 h
    exact ⟨a, ha, hb.symm⟩
  have hl : ∀ {cs cs' : List AV}, renL τ cs = some cs' → cs'.length = cs.length ∧ ∀ (j : Nat) (y' : AV), cs'[j]? = some y' → ∃ y, cs[j]? = some y ∧ X.ren τ y = some y' := by
    intro cs
    induction cs with
    | nil => intro cs' e; simp [renL] at e; subst e; simp
    | cons c r ih =>
      intro cs' e
      simp only [renL, Option.bind_eq_some_iff, Option.map_eq_some_iff] at e
      obtain ⟨x', hx, r', hr, rfl⟩ := e
      obtain ⟨h1, h2⟩ := ih hr
      refine ⟨by simp [h1], fun j y' hj => ?_⟩
      cases j with
      | zero => simp at hj; subst hj; exact ⟨c, rfl, hx⟩
      | succ j => simp at hj; obtain ⟨y, a, b⟩ := h2 j y' hj; exact ⟨y, by simpa using a, b⟩
  induction H with
  | im hi =>
    intro y e
    have key : ∀ {x : AV} {g : Value}, VI s.J x g → ∀ {y : AV}, X.ren τ x = some y → VI s.J y g := by
      intro x g hv
      induction hv with
      | v x => intro y e; simp [X.ren] at e; subst e; exact .v x
      | flt => intro y e; simp [X.ren] at e; subst e; exact .flt
      | nil hc => intro y e; simp [X.ren] at e; subst e; exact .nil hc
      | ro hn hj hb hc hl' hk ho h _ => intro y e; simp [X.ren] at e; subst e; exact .ro hn hj hb hc hl' hk ho h
      | ptr hj hb h _ => intro y e; simp [X.ren] at e; subst e; exact .ptr hj hb h
      | agg hl' h ih =>
        intro y e; simp only [X.ren] at e
        obtain ⟨cs', e', rfl⟩ := hh e
        obtain ⟨k1, k2⟩ := hl e'
        exact .agg (k1.trans hl') fun j y' g a b => by obtain ⟨y, c, d⟩ := k2 j y' a; exact ih j y g c b d
      | tup hl' h ih =>
        intro y e; simp only [X.ren] at e
        obtain ⟨cs', e', rfl⟩ := hh e
        obtain ⟨k1, k2⟩ := hl e'
        exact .tup (k1.trans hl') fun j y' g a b => by obtain ⟨y, c, d⟩ := k2 j y' a; exact ih j y g c b d
      | fn hf hc h1 h2 ih1 ih2 =>
        intro y e
        simp only [X.ren, Option.bind_eq_some_iff, Option.map_eq_some_iff] at e
        obtain ⟨fi', e1, ca', e2, rfl⟩ := e
        obtain ⟨k1, k2⟩ := hl e1
        obtain ⟨l1, l2⟩ := hl e2
        exact .fn (k1.trans hf) (l1.trans hc) (fun j y' g a b => by obtain ⟨y, c, d⟩ := k2 j y' a; exact ih1 j y g c b d) (fun j y' g a b => by obtain ⟨y, c, d⟩ := l2 j y' a; exact ih2 j y g c b d)
      | ifc h ih =>
        intro y e; simp only [X.ren] at e
        obtain ⟨x', e', rfl⟩ := hh e
        exact .ifc (ih e')
    exact .im (by rw [hs.J]; exact key hi e)
  | @ref h off b sz hr hC =>
    intro y e; simp only [X.ren] at e
    obtain ⟨h', e', rfl⟩ := hh e
    obtain ⟨k1, k2⟩ := hs.h _ _ e'
    exact .ref (k1.trans hr) (k2.bx hC)
  | @refd h off b hr hC =>
    intro y e; simp only [X.ren] at e
    obtain ⟨h', e', rfl⟩ := hh e
    obtain ⟨k1, k2⟩ := hs.h _ _ e'
    rw [hC] at k2
    exact .refd (by rw [k1]; exact hr) k2.dead
  | @sl c h n off len b sz te k cap o z xs hr hC hl hc hz hz' ho =>
    intro y e; simp only [X.ren] at e
    obtain ⟨h', e', rfl⟩ := hh e
    obtain ⟨k1, k2⟩ := hs.h _ _ e'
    rw [hC] at k2; obtain ⟨z0, xs', e2, l⟩ := k2.arr
    exact .sl (k1.trans hr) e2 hl hc hz hz' ho
  | @sl0 c h te k xs hr hC =>
    intro y e; simp only [X.ren] at e
    obtain ⟨h', e', rfl⟩ := hh e
    obtain ⟨k1, k2⟩ := hs.h _ _ e'
    rw [hC] at k2; obtain ⟨z0, xs', e2, l⟩ := k2.arr
    rw [l rfl] at e2
    exact .sl0 (k1.trans hr) e2
  | @sls c h n off len g ho hr hC =>
    intro y e; simp only [X.ren] at e
    obtain ⟨h', e', rfl⟩ := hh e
    obtain ⟨k1, k2⟩ := hs.h _ _ e'
    exact .sls ho (by rw [k1]; exact hr) fun z te k m xs e2 => by
      rw [e2] at k2
      obtain ⟨z0, xs', e3⟩ := k2.arr'
      exact hC _ _ _ _ _ e3
  | @el h n j r b sz z te k xs hr hC =>
    intro y e; simp only [X.ren] at e
    obtain ⟨h', e', rfl⟩ := hh e
    obtain ⟨k1, k2⟩ := hs.h _ _ e'
    rw [hC] at k2; obtain ⟨z0, xs', e2, l⟩ := k2.arr
    exact .el (k1.trans hr) e2
  | @els h n j r g ho hr hC =>
    intro y e; simp only [X.ren] at e
    obtain ⟨h', e', rfl⟩ := hh e
    obtain ⟨k1, k2⟩ := hs.h _ _ e'
    exact .els ho (by rw [k1]; exact hr) fun z te k m xs e2 => by
      rw [e2] at k2
      obtain ⟨z0, xs', e3⟩ := k2.arr'
      exact hC _ _ _ _ _ e3
  | @mp h b sz kk m hr hC =>
    intro y e; simp only [X.ren] at e
    obtain ⟨h', e', rfl⟩ := hh e
    obtain ⟨k1, k2⟩ := hs.h _ _ e'
    rw [hC] at k2; obtain ⟨m', e2⟩ := k2.mp
    exact .mp (k1.trans hr) e2
  | @mpd h g ho hr hC =>
    intro y e; simp only [X.ren] at e
    obtain ⟨h', e', rfl⟩ := hh e
    obtain ⟨k1, k2⟩ := hs.h _ _ e'
    rw [hC] at k2
    exact .mpd ho (by rw [k1]; exact hr) k2.dead
  | nd hb =>
    intro y e; simp only [X.ren] at e
    cases hn : τ.nd
    · rw [hn] at e; simp at e
    · rw [hn] at e; simp at e; subst e
      exact .nd (by rw [hs.nd hn]; exact hb)
  | nd0 =>
    intro y e; simp only [X.ren] at e
    cases hn : τ.nd
    · rw [hn] at e; simp at e
    · rw [hn] at e; simp at e; subst e; exact .nd0
  | agg hl' h ih =>
    intro y e; simp only [X.ren] at e
    obtain ⟨cs', e', rfl⟩ := hh e
    obtain ⟨k1, k2⟩ := hl e'
    exact .agg (k1.trans hl') fun j y' g a b => by obtain ⟨y, c, d⟩ := k2 j y' a; exact ih j y g c b d
  | tup hl' h ih =>
    intro y e; simp only [X.ren] at e
    obtain ⟨cs', e', rfl⟩ := hh e
    obtain ⟨k1, k2⟩ := hl e'
    exact .tup (k1.trans hl') fun j y' g a b => by obtain ⟨y, c, d⟩ := k2 j y' a; exact ih j y g c b d
  | fn hf hc h1 h2 ih1 ih2 =>
    intro y e
    simp only [X.ren, Option.bind_eq_some_iff, Option.map_eq_some_iff] at e
    obtain ⟨fi', e1, ca', e2, rfl⟩ := e
    obtain ⟨k1, k2⟩ := hl e1
    obtain ⟨l1, l2⟩ := hl e2
    exact .fn (k1.trans hf) (l1.trans hc) (fun j y' g a b => by obtain ⟨y, c, d⟩ := k2 j y' a; exact ih1 j y g c b d) (fun j y' g a b => by obtain ⟨y, c, d⟩ := l2 j y' a; exact ih2 j y g c b d)
  | ifc h ih =>
    intro y e; simp only [X.ren] at e
    obtain ⟨x', e', rfl⟩ := hh e
    exact .ifc (ih e')
theorem cln_ren {τ : Rn} (h : τ.nd = true) : ∀ {cs : List AV}, (∀ x ∈ cs, clnA x = true) → renL τ cs = some cs
  | [], _ => rfl
  | x :: r, k => by
    have hx : X.ren τ x = some x := by
      have := k x (by simp)
      cases x <;> first | rfl | (cases this; done) | skip
      simp [X.ren, h]
    have hr := cln_ren h (cs := r) fun y hy => k y (by simp [hy])
    simp [renL, hx, hr]
theorem L2.ren {τ : Rn} {s s' : Ms} (hs : Sees τ s s') : ∀ {cs : List AV} {gs : List Value} {cs' : List AV}, L2 (V s) cs gs → renL τ cs = some cs' → L2 (V s') cs' gs
  | [], gs, cs', h, e => by
    simp [renL] at e; subst e
    exact ⟨h.1, fun j y g a b => by simp at a⟩
  | x :: r, gs, cs', h, e => by
    simp only [renL, Option.bind_eq_some_iff, Option.map_eq_some_iff] at e
    obtain ⟨x', hx, r', hr, rfl⟩ := e
    obtain ⟨g, q, rfl, h1, h2⟩ := h.uncons
    exact .cons (h1.ren hs hx) (L2.ren hs h2 hr)

abbrev Fr := List (Nat × AV)
def lk : Fr → Nat → Option AV
  | [], _ => none
  | p :: r, t => bif Nat.beq p.1 t then some p.2 else lk r t
def cst1 : Value → AV
  | .float .f64 b => .flt (flt b)
  | v => .v v
def cst : Value → AV
  | .agg cs => .agg (cs.toList.map cst1)
  | v => cst1 v
theorem cst1_ok (J : Imm) (v : Value) : VI J (cst1 v) v := by
  cases v <;> first | exact .v _ | skip
  case float k b =>
    cases k
    · exact .v _
    · exact .flt
theorem cstL (J : Imm) (l : List Value) : L2 (VI J) (l.map cst1) l := by
  refine ⟨by simp, fun j y g a b => ?_⟩
  rw [List.getElem?_map, b] at a
  simp at a; subst a; exact cst1_ok J g
theorem cst_ok (J : Imm) (v : Value) : VI J (cst v) v := by
  cases v
  case agg cs =>
    have := cstL J cs.toList
    have h : VI J (.agg (cs.toList.map cst1)) (.agg cs.toList.toArray) := .agg this.1 this.2
    simpa [cst] using h
  case float k b => exact cst1_ok J (.float k b)
  all_goals exact .v _
def rdx (L : Fr) : Operand → Option AV
  | .tmp t => lk L t
  | .const v => some (cst v)
  | .func f => some (.fn f [] [])
  | .global _ => none
def hget (H : List AO) (h : Nat) : AO := H.getD h .dead
structure Ef where
  val : AV
  upd : List (Nat × AO) := []
  ar : Option (List (List AV)) := none
  fp : List Nat := []
  fa : Bool := false
def upC (C : Nat → AO) : List (Nat × AO) → Nat → AO
  | [], h => C h
  | p :: r, h => upC (fun k => bif Nat.beq k p.1 then p.2 else C k) r h
structure Pre (s : Ms) (w : World) (L : Fr) (H : List AO) (A : List (List AV)) (o : Oper) (a : Act) (E : Ef) : Prop where
  wd : Wd s w
  rd : ∀ x ∈ o.op.operands.toList, ∀ y, rdx L x = some y → V s y (a.eval x)
  fp : ∀ h ∈ E.fp, s.C h = hget H h
  up : ∀ p ∈ E.upd, (p.1 < H.length → s.C p.1 = hget H p.1) ∧ (H.length ≤ p.1 → s.ρ p.1 = .unborn)
  ar : E.fa = true ∨ E.ar ≠ none → s.A = A
structure Post (s : Ms) (w : World) (E : Ef) (s' : Ms) (w' : World) (g : Value) : Prop where
  wd : Wd s' w'
  stp : Stp s w s' w'
  C : ∀ h, s'.C h = upC s.C E.upd h
  A : s'.A = E.ar.getD s.A
  ρ : ∀ h, (∀ p ∈ E.upd, p.1 ≠ h) → s'.ρ h = s.ρ h
  val : V s' E.val g
def Sim (P : Program) (o : Oper) (L : Fr) (H : List AO) (A : List (List AV)) (E : Ef) : Prop :=
  ∀ s w a, Pre s w L H A o a E → ∀ (K : Act → World → Prop) (Q : Exit → Act → World → Prop), (∀ s' w' g, Post s w E s' w' g → K (a.put o.dst g) w') → o.wp P a w K Q

section
variable {P : Program} {o : Oper} {L : Fr} {H : List AO} {A : List (List AV)}
theorem Sim.run {E : Ef} (h : ∀ s w a, Pre s w L H A o a E → ∃ s' w' g, (execOp a.eval o).run P w = .ok (.value g) w' ∧ Post s w E s' w' g) : Sim P o L H A E := by
  intro s w a hp K Q hk
  obtain ⟨s', w', g, hx, post⟩ := h s w a hp
  unfold Oper.wp
  rw [hx, Oper.upon_value]
  exact hk _ _ _ post
theorem Sim.skip {E : Ef} (h : ∀ s w a, Pre s w L H A o a E → ∃ s' w', (execOp a.eval o).run P w = .ok .skip w' ∧ Post s w E s' w' undef) : Sim P o L H A E := by
  intro s w a hp K Q hk
  obtain ⟨s', w', hx, post⟩ := h s w a hp
  unfold Oper.wp
  rw [hx, Oper.upon_skip]
  exact hk _ _ _ post
theorem Post.pure {s : Ms} {w : World} {v : AV} {fp : List Nat} {fa : Bool} {g : Value} (hW : Wd s w) (hv : V s v g) : Post s w ⟨v, [], none, fp, fa⟩ s w g :=
  ⟨hW, Stp.refl s w, fun _ => rfl, rfl, fun _ _ => rfl, hv⟩
theorem Sim.pure {v : AV} {fp : List Nat} {fa : Bool} (h : ∀ s w a, Pre s w L H A o a ⟨v, [], none, fp, fa⟩ → ∃ g, (execOp a.eval o).run P w = .ok (.value g) w ∧ V s v g) : Sim P o L H A ⟨v, [], none, fp, fa⟩ :=
  .run fun s w a hp => by
    obtain ⟨g, hx, hv⟩ := h s w a hp
    exact ⟨s, w, g, hx, .pure hp.wd hv⟩
end

structure TE (P : Program) where
  t : Nat
  d : TypeDesc
  sz : Nat
  ag : Bool
  u : UT P t d
  s : SZ P t sz
  a : AG P t ag
  by_ : Nat
  zv : Value
  i : (P.info? t).map (fun i => (i.bytes, i.size, i.zero)) = some (by_, sz, some zv)
section
variable {P : Program}
def tget : List (TE P) → Nat → Option (TE P)
  | [], _ => none
  | e :: r, t => bif Nat.beq e.t t then some e else tget r t
theorem tget_t {T : List (TE P)} {t : Nat} {e : TE P} (h : tget T t = some e) : e.t = t := by
  induction T with
  | nil => cases h
  | cons x r ih =>
    simp only [tget] at h
    cases hb : Nat.beq x.t t
    · rw [hb] at h; exact ih h
    · rw [hb] at h; cases h; exact Nat.eq_of_beq_eq_true hb
variable {T : List (TE P)} {t : Nat} {e : TE P}
theorem tget_u (h : tget T t = some e) : UT P t e.d := by have := e.u; rw [tget_t h] at this; exact this
theorem tget_s (h : tget T t = some e) : SZ P t e.sz := by have := e.s; rw [tget_t h] at this; exact this
theorem tget_a (h : tget T t = some e) : AG P t e.ag := by have := e.a; rw [tget_t h] at this; exact this
theorem tget_i (h : tget T t = some e) : ∃ i, P.info? t = some i ∧ i.bytes = e.by_ ∧ i.size = e.sz ∧ i.zero = some e.zv := by
  have := e.i; rw [tget_t h] at this
  obtain ⟨i, hi, he⟩ := Option.map_eq_some_iff.1 this
  injection he with h1 h2; injection h2 with h2 h3
  exact ⟨i, hi, h1, h2, h3⟩
theorem tget_z (h : tget T t = some e) : ZR P t e.zv := by
  obtain ⟨i, hi, _, _, hz⟩ := tget_i h
  intro w
  simp [zeroValue, typeInfo, Sem.run_bind, program, Sem.run, hi, hz]
end

abbrev R1 := Option (AV × Option Prop)
def okp (p : Option Prop) : Prop := ∀ q, p = some q → q
def bopI (op : BinOp) (k : IntKind) (a : Int) (k' : IntKind) (b : Int) : R1 := match op with
  | .shl => some (.v (.int k (wr k (a * 2 ^ (min b.toNat k.bits)))), some (0 ≤ b))
  | .shr => some (.v (.int k (a / 2 ^ (min b.toNat k.bits))), some (0 ≤ b))
  | .add => bif sameK k k' then some (.v (.int k (wr k (a + b))), none) else none
  | .sub => bif sameK k k' then some (.v (.int k (wr k (a - b))), none) else none
  | .mul => bif sameK k k' then some (.v (.int k (wr k (a * b))), none) else none
  | .quo => bif sameK k k' then some (.v (.int k (wr k (Int.tdiv a b))), some (b ≠ 0)) else none
  | .rem => bif sameK k k' then some (.v (.int k (Int.tmod a b)), some (b ≠ 0)) else none
  | .and => bif sameK k k' then some (.v (.int k (bits .and k a b)), none) else none
  | .or => bif sameK k k' then some (.v (.int k (bits .or k a b)), none) else none
  | .xor => bif sameK k k' then some (.v (.int k (bits .xor k a b)), none) else none
  | .andNot => bif sameK k k' then some (.v (.int k (bits .andNot k a b)), none) else none
  | .eql => bif sameK k k' then some (.v (.bool (decide (a = b))), none) else none
  | .neq => bif sameK k k' then some (.v (.bool (!decide (a = b))), none) else none
  | .lss => bif sameK k k' then some (.v (.bool (decide (a < b))), none) else none
  | .leq => bif sameK k k' then some (.v (.bool (decide (a ≤ b))), none) else none
  | .gtr => bif sameK k k' then some (.v (.bool (decide (a > b))), none) else none
  | .geq => bif sameK k k' then some (.v (.bool (decide (a ≥ b))), none) else none
theorem condE' {α : Type} {b : Bool} {o : Option α} {v : α} (h : (bif b then o else none) = some v) : b = true ∧ o = some v := by
  cases b
  · cases h
  · exact ⟨rfl, h⟩
section
variable {P : Program}
abbrev BinR (P : Program) (op : BinOp) (xt : Nat) (x y : Operand) (v1 v2 v : Value) : Prop := ∀ w, (do eqGuard op xt x y v1 v2; binOp op xt v1 v2 : Sem Value).run P w = .ok v w
theorem bopI_ok {xt : Nat} {op : BinOp} {k k' : IntKind} {a b : Int} {q : AV × Option Prop} {x y : Operand} (h : bopI op k a k' b = some q) (hp : okp q.2) :
    ∃ v, q.1 = .v v ∧ BinR P op xt x y (.int k a) (.int k' b) v := by
  have main : sameK k k' = true → k' = k := fun h => (kn_inj h).symm
  cases op
  case shl => cases h; exact ⟨_, rfl, fun w => r_shl (hp _ rfl) (wr_eq _ _)⟩
  case shr => cases h; exact ⟨_, rfl, fun w => r_shr (hp _ rfl) (fdivp _ _)⟩
  all_goals obtain ⟨h1, h2⟩ := condE' h; cases h2; cases main h1
  case quo => exact ⟨_, rfl, fun w => r_div (op := .not) (hp _ rfl) (wr_eq _ _)⟩
  case rem => exact ⟨_, rfl, fun w => r_rem (hp _ rfl) rfl⟩
  case add => exact ⟨_, rfl, fun w => r_add (wr_eq _ _)⟩
  case sub => exact ⟨_, rfl, fun w => r_sub (wr_eq _ _)⟩
  case mul => exact ⟨_, rfl, fun w => r_mul (wr_eq _ _)⟩
  case and => exact ⟨_, rfl, fun w => r_bits (by simp) rfl⟩
  case or => exact ⟨_, rfl, fun w => r_bits (by simp) rfl⟩
  case xor => exact ⟨_, rfl, fun w => r_bits (by simp) rfl⟩
  case andNot => exact ⟨_, rfl, fun w => r_bits (by simp) rfl⟩
  case eql => exact ⟨_, rfl, fun w => r_eql rfl⟩
  case neq => exact ⟨_, rfl, fun w => r_neq rfl⟩
  case lss => exact ⟨_, rfl, fun w => r_lss rfl⟩
  case leq => exact ⟨_, rfl, fun w => r_leq rfl⟩
  case gtr => exact ⟨_, rfl, fun w => r_gtr rfl⟩
  case geq => exact ⟨_, rfl, fun w => r_geq rfl⟩
def bopB (T : List (TE P)) (xt : Nat) (op : BinOp) (a b : Bool) : R1 := match tget T xt with
  | some e => bif isBool e.d then (match op with
    | .eql => some (.v (.bool (a == b)), none)
    | .neq => some (.v (.bool (!(a == b))), none)
    | _ => none) else none
  | none => none
def bopS (op : BinOp) (a b : ByteArray) : R1 := match op with
  | .eql => some (.v (.bool (a.toList == b.toList)), none)
  | .neq => some (.v (.bool (!(a.toList == b.toList))), none)
  | .add => some (.v (.string (a ++ b)), some (a.size + b.size ≤ 9223372036854775807))
  | _ => none
theorem bopB_ok {T : List (TE P)} {xt : Nat} {op : BinOp} {a b : Bool} {q : AV × Option Prop} {x y : Operand} (h : bopB T xt op a b = some q) :
    ∃ v, q.1 = .v v ∧ BinR P op xt x y (.bool a) (.bool b) v := by
  unfold bopB at h
  split at h
  · rename_i e he
    obtain ⟨h1, h2⟩ := condE' h
    have hu : UT P xt .bool := by
      have h3 := tget_u he
      have h4 : e.d = .bool := by cases hd : e.d <;> rw [hd] at h1 <;> first | rfl | cases h1
      rw [h4] at h3; exact h3
    cases op <;> first | (cases h2; done) | skip
    · cases h2; exact ⟨_, rfl, fun w => r_eqb hu rfl⟩
    · cases h2; exact ⟨_, rfl, fun w => r_neb hu rfl⟩
  · cases h
theorem bopS_ok {op : BinOp} {xt : Nat} {a b : ByteArray} {q : AV × Option Prop} {x y : Operand} (h : bopS op a b = some q) (hp : okp q.2) :
    ∃ v, q.1 = .v v ∧ BinR P op xt x y (.string a) (.string b) v := by
  cases op <;> first | (cases h; done) | skip
  · cases h
    refine ⟨_, rfl, fun w => ?_⟩
    have := hp _ rfl
    have hm : IntKind.i64.max = 9223372036854775807 := by decide
    have h2 : ¬ (((a.size + b.size : Nat) : Int) > 9223372036854775807) := by omega
    simp only [eqGuard, binOp, Op.stringOp, hm, if_neg h2]
    rfl
  · cases h; exact ⟨_, rfl, fun w => r_streq rfl⟩
  · cases h; exact ⟨_, rfl, fun w => r_strne rfl⟩
end

abbrev Got := Ef × Option Prop × List (Nat × Nat)
def okg (q : Got) : Prop := okp q.2.1 ∧ ∀ e ∈ q.2.2, e.1 = e.2
def got (v : AV) : Got := (⟨v, [], none, [], false⟩, none, [])
def got1 (q : AV × Option Prop) : Got := (⟨q.1, [], none, [], false⟩, q.2, [])
section
variable {P : Program} {L : Fr} {H : List AO} {A : List (List AV)} {T : List (TE P)}
variable {dst : Option Tmp} {ty : TypeId} {pos : String} {af : Array Edge} {gd : Option (Nat × Bool)} {x y z : Operand} {q : Got}
theorem Pre.get {s : Ms} {w : World} {o : Oper} {a : Act} {E : Ef} (h : Pre s w L H A o a E) {x : Operand} {v : AV} (hx : x ∈ o.op.operands.toList) (hv : rdx L x = some v) : V s v (a.eval x) := h.rd x hx v hv
def xMove (L : Fr) (x : Operand) : Option Got := match rdx L x with
  | some v => some (got v)
  | none => none
theorem xMove_ok (h : xMove L x = some q) : Sim P ⟨dst, .move x, ty, pos, af, gd⟩ L H A q.1 := by
  unfold xMove at h
  split at h
  · rename_i v hv; cases h
    exact Sim.pure fun s w a hp => ⟨_, e_move rfl, hp.get (by simp [Op.operands]) hv⟩
  · cases h
theorem xAssign_ok (h : xMove L x = some q) : Sim P ⟨dst, .assign x, ty, pos, af, gd⟩ L H A q.1 := by
  unfold xMove at h
  split at h
  · rename_i v hv; cases h
    exact Sim.pure fun s w a hp => ⟨_, e_assign rfl, hp.get (by simp [Op.operands]) hv⟩
  · cases h
def pickA (b : Bool) (x y : AV) : AV := match b with
  | true => x
  | false => y
def pickV (b : Bool) : AV → AV → AV
  | .v (.bool p), .v (.bool q) => .v (.bool (bif b then p else q))
  | .v (.int .i64 p), .v (.int .i64 q) => .v (.int .i64 (bif b then p else q))
  | x, y => pickA b x y
theorem pickV_eq (b : Bool) (x y : AV) : pickV b x y = bif b then x else y := by
  unfold pickV
  split
  · cases b <;> rfl
  · cases b <;> rfl
  · cases b <;> rfl
def xPick (L : Fr) (c x y : Operand) : Option Got := match rdx L c with
  | some (.v (.bool b)) => (match rdx L x with
    | some v => (match rdx L y with
      | some u => some (got (pickV b v u))
      | none => (match b with | true => some (got v) | false => none))
    | none => (match b with | false => (match rdx L y with | some u => some (got u) | none => none) | true => none))
  | _ => none
theorem xPick_ok (h : xPick L z x y = some q) : Sim P ⟨dst, .pick z x y, ty, pos, af, gd⟩ L H A q.1 := by
  unfold xPick at h
  split at h
  · rename_i b hz
    have key : ∀ {v : AV}, (∀ (s : Ms) (a : Act), (∀ x' ∈ [z, x, y], ∀ y', rdx L x' = some y' → V s y' (a.eval x')) → ∀ g, g = (bif b then a.eval x else a.eval y) → V s v g) → Sim P ⟨dst, .pick z x y, ty, pos, af, gd⟩ L H A (got v).1 := by
      intro v hv
      refine Sim.pure fun s w a hp => ⟨bif b then a.eval x else a.eval y, ?_, hv s a (fun x' hx' y' hy' => hp.rd x' (by simpa [Op.operands] using hx') y' hy') _ rfl⟩
      have h1 := (hp.get (by simp [Op.operands]) hz).vE
      exact e_pick h1 (fun e => rfl) (fun e => rfl) rfl
    split at h
    · rename_i v hx
      split at h
      · rename_i u hy
        cases h
        refine key fun s a hr g hg => ?_
        subst hg; rw [pickV_eq]
        cases b
        · exact hr y (by simp) u hy
        · exact hr x (by simp) v hx
      · cases b
        · cases h
        · cases h
          exact key fun s a hr g hg => by subst hg; exact hr x (by simp) v hx
    · cases b
      · simp only [] at h
        split at h
        · rename_i u hy
          cases h
          exact key fun s a hr g hg => by subst hg; exact hr y (by simp) u hy
        · cases h
      · cases h
  · cases h

def isn (H : List AO) : AV → Option (Bool × Nat × List Nat × List (Nat × Nat))
  | .v (.pointer none) => some (true, 1, [], [])
  | .v (.slice none 0 0) => some (true, 2, [], [])
  | .v (.map none) => some (true, 3, [], [])
  | .v .nilFunc => some (true, 4, [], [])
  | .v .nilIface => some (true, 5, [], [])
  | .ref h _ => some (false, 1, [], [])
  | .mp h => (match hget H h with | .mp _ _ => some (false, 3, [h], []) | _ => none)
  | .sl _ h n _ _ => (match hget H h with | .arr false _ _ n' _ => some (false, 2, [h], [(n, n')]) | _ => none)
  | .ptr _ => some (false, 1, [], [])
  | .nd o _ => some (o.isNone, 1, [], [])
  | .fn _ _ _ => some (false, 4, [], [])
  | .ifc _ _ => some (false, 5, [], [])
  | _ => none
inductive NV : Bool → Nat → Value → Prop
  | p0 : NV true 1 (.pointer none)
  | p1 {a : Addr} : NV false 1 (.pointer (some a))
  | s0 : NV true 2 (.slice none 0 0)
  | s1 {a : Addr} {n c : Nat} : NV false 2 (.slice (some a) n c)
  | m0 : NV true 3 (.map none)
  | m1 {b : Nat} : NV false 3 (.map (some b))
  | f0 : NV true 4 .nilFunc
  | f1 {f : Fn} {a b : Array Value} : NV false 4 (.func f a b)
  | i0 : NV true 5 .nilIface
  | i1 {t : TypeId} {v : Value} : NV false 5 (.iface t v)
theorem isn_ok {s : Ms} {v : AV} {g : Value} {b : Bool} {k : Nat} {fp : List Nat} {eq : List (Nat × Nat)} (h : isn H v = some (b, k, fp, eq)) (hv : V s v g) (hf : ∀ h ∈ fp, s.C h = hget H h) (he : ∀ e ∈ eq, e.1 = e.2) : NV b k g := by
  unfold isn at h
  split at h
  · cases h; rw [hv.vE]; exact .p0
  · cases h; rw [hv.vE]; exact .s0
  · cases h; rw [hv.vE]; exact .m0
  · cases h; rw [hv.vE]; exact .f0
  · cases h; rw [hv.vE]; exact .i0
  · cases h
    obtain ⟨b, rfl, _⟩ := hv.refP
    exact .p1
  · split at h
    · rename_i cs hc
      cases h
      obtain ⟨b, sz, _, rfl⟩ := hv.mpE ((hf _ (by simp)).trans hc)
      exact .m1
    · cases h
  · split at h
    · rename_i e k n' xs hc
      cases h
      have hn := he _ (List.mem_singleton.2 rfl)
      simp only at hn; subst hn
      obtain ⟨b, sz, cap, o, _, _, _, _, _, _, rfl⟩ := hv.slE ((hf _ (by simp)).trans hc)
      exact .s1
    · cases h
  · cases h
    have := hv.ptrE
    cases this; exact .p1
  · cases h
    cases hv with
    | im h => cases h
    | nd hb => exact .p1
    | nd0 => exact .p0
  · cases h
    obtain ⟨_, _, rfl, _⟩ := hv.fnE; exact .f1
  · cases h
    obtain ⟨_, rfl, _⟩ := hv.ifcE; exact .i1
  · cases h
def nilT : TypeDesc → Nat
  | .pointer _ => 1
  | .slice _ => 2
  | .map _ _ => 3
  | .func _ _ _ => 4
  | .interface _ => 5
  | _ => 0
def isNilC : Operand → Option Nat
  | .const (.pointer none) => some 1
  | .const (.slice none 0 0) => some 2
  | .const (.map none) => some 3
  | .const .nilFunc => some 4
  | .const .nilIface => some 5
  | _ => none
theorem run_eqNil {xt : TypeId} {d : TypeDesc} (hu : UT P xt d) {c : Operand} {k : Nat} (hc : isNilC c = some k) (hk : nilT d = k) {g : Value} {b : Bool} (hg : NV b k g) (a : Act) (w : World) :
    (Op.equal xt g (a.eval c)).run P w = .ok b w := by
  unfold Op.equal Op.maxDepth
  rw [Op.equalIn]
  cases hg <;> cases d <;> simp only [nilT] at hk <;> first | (cases hk; done) | skip
  all_goals (cases c <;> simp only [isNilC] at hc <;> first | (cases hc; done) | skip)
  all_goals (rename_i cv; split at hc <;> first | (cases hc; done) | skip)
  all_goals (rename_i he; cases he; simp [Sem.run_bind, hu w, Act.eval])
theorem run_eqGuardC {op : BinOp} {xt : TypeId} {k : Nat} {x c : Operand} (hc : isNilC c = some k) {g : Value} {b : Bool} (hg : NV b k g) (a : Act) (w : World) : (eqGuard op xt x c g (a.eval c)).run P w = .ok () w := by
  cases c <;> simp only [isNilC] at hc <;> first | (cases hc; done) | skip
  rename_i cv
  split at hc <;> first | (cases hc; done) | skip
  all_goals rename_i he
  all_goals cases he
  all_goals cases hc
  all_goals cases hg
  all_goals (cases op <;> first | rfl | (cases x <;> rfl))
theorem bin_eq {op : BinOp} {xt : TypeId} {x y : Operand} {v1 v2 : Value} {b b0 : Bool} {k : Nat} {w : World} (hn : NV b0 k v1) (h1 : (eqGuard op xt x y v1 v2).run P w = .ok () w) (h2 : (Op.equal xt v1 v2).run P w = .ok b w) :
    (op = .eql → (do eqGuard op xt x y v1 v2; binOp op xt v1 v2 : Sem Value).run P w = .ok (.bool b) w) ∧
    (op = .neq → (do eqGuard op xt x y v1 v2; binOp op xt v1 v2 : Sem Value).run P w = .ok (.bool (!b)) w) := by
  constructor
  · rintro rfl
    rw [Sem.run_bind, h1, Result.andThen_ok]
    have e : binOp .eql xt v1 v2 = (do pure (.bool (← Op.equal xt v1 v2))) := by cases hn <;> cases v2 <;> rfl
    rw [e, Sem.run_bind, h2]; rfl
  · rintro rfl
    rw [Sem.run_bind, h1, Result.andThen_ok]
    have e : binOp .neq xt v1 v2 = (do pure (.bool (!(← Op.equal xt v1 v2)))) := by cases hn <;> cases v2 <;> rfl
    rw [e, Sem.run_bind, h2]; rfl

def xNil (H : List AO) (L : Fr) (T : List (TE P)) (op : BinOp) (xt : Nat) (x y : Operand) : Option Got := match isNilC y with
  | some k => (match rdx L x with
    | some v => (match isn H v with
      | some (b, k', fp, eq) => (match tget T xt with
        | some e => bif Nat.beq k k' && Nat.beq (nilT e.d) k then (match op with
          | .eql => some (⟨.v (.bool b), [], none, fp, false⟩, none, eq)
          | .neq => some (⟨.v (.bool (!b)), [], none, fp, false⟩, none, eq)
          | _ => none) else none
        | none => none)
      | none => none)
    | none => none)
  | none => none
theorem xNil_ok {op : BinOp} {xt yt : Nat} (h : xNil H L T op xt x y = some q) (hq : okg q) : Sim P ⟨dst, .binOp op xt x y yt, ty, pos, af, gd⟩ L H A q.1 := by
  unfold xNil at h
  split at h
  · rename_i k hk
    split at h
    · rename_i v hv
      split at h
      · rename_i b k' fp eq hi
        split at h
        · rename_i e he
          obtain ⟨h1, h2⟩ := condE' h
          simp only [Bool.and_eq_true] at h1
          have e1 := Nat.eq_of_beq_eq_true h1.1
          have e2 := Nat.eq_of_beq_eq_true h1.2
          subst e1
          have main : ∀ {b' : Bool}, (∀ e ∈ eq, e.1 = e.2) → ((op = .eql ∧ b' = b) ∨ (op = .neq ∧ b' = !b)) → Sim P ⟨dst, .binOp op xt x y yt, ty, pos, af, gd⟩ L H A ⟨.v (.bool b'), [], none, fp, false⟩ := by
            intro b' heq ho
            refine Sim.pure fun s w a hp => ⟨.bool b', ?_, .im (.v _)⟩
            have hn := isn_ok hi (hp.get (by simp [Op.operands]) hv) hp.fp heq
            have k1 := run_eqGuardC (P := P) (op := op) (xt := xt) (x := x) hk hn a w
            have k2 := run_eqNil (P := P) (tget_u he) hk e2 hn a w
            have k3 := bin_eq hn k1 k2
            refine e_bin rfl rfl ?_
            rcases ho with ⟨rfl, rfl⟩ | ⟨rfl, rfl⟩
            · exact k3.1 rfl
            · exact k3.2 rfl
          cases op <;> first | (cases h2; done) | skip
          · cases h2; exact main hq.2 (.inl ⟨rfl, rfl⟩)
          · cases h2; exact main hq.2 (.inr ⟨rfl, rfl⟩)
        · cases h
      · cases h
    · cases h
  · cases h
def isF64 : TypeDesc → Bool
  | .float .f64 => true
  | _ => false
def xBin (H : List AO) (L : Fr) (T : List (TE P)) (op : BinOp) (xt : Nat) (x y : Operand) : Option Got := match rdx L x with
  | some (.v (.int k a)) => (match rdx L y with | some (.v (.int k' b)) => (bopI op k a k' b).map got1 | _ => none)
  | some (.v (.bool a)) => (match rdx L y with | some (.v (.bool b)) => (bopB T xt op a b).map got1 | _ => none)
  | some (.v (.string a)) => (match rdx L y with | some (.v (.string b)) => (bopS op a b).map got1 | _ => none)
  | some (.flt a) => (match rdx L y with
    | some (.flt b) => (match tget T xt with
      | some e => bif isF64 e.d then (match op with
        | .eql => some (got (.v (.bool (feq a b))))
        | .neq => some (got (.v (.bool (!(feq a b)))))
        | .lss => some (got (.v (.bool (fls a b))))
        | .quo => some (got (.flt (qf a b)))
        | _ => none) else none
      | none => none)
    | _ => none)
  | _ => xNil H L T op xt x y
theorem isF64_e {d : TypeDesc} (h : isF64 d = true) : d = .float .f64 := by
  cases d <;> first | (cases h; done) | skip
  rename_i k; cases k
  · cases h
  · rfl
theorem xBin_ok {op : BinOp} {xt yt : Nat} (h : xBin H L T op xt x y = some q) (hq : okg q) : Sim P ⟨dst, .binOp op xt x y yt, ty, pos, af, gd⟩ L H A q.1 := by
  have fin : ∀ {v1 v2 : Value} {r : AV × Option Prop}, rdx L x = some (.v v1) → rdx L y = some (.v v2) → (∃ v, r.1 = .v v ∧ BinR P op xt x y v1 v2 v) → Sim P ⟨dst, .binOp op xt x y yt, ty, pos, af, gd⟩ L H A (got1 r).1 := by
    intro v1 v2 r hx hy ⟨v, e, hb⟩
    unfold got1
    rw [e]
    exact Sim.pure fun s w a hp => ⟨v, e_bin (hp.get (by simp [Op.operands]) hx).vE (hp.get (by simp [Op.operands]) hy).vE (hb w), .im (.v _)⟩
  unfold xBin at h
  split at h
  · rename_i k a hx
    split at h
    · rename_i k' b hy
      obtain ⟨r, hr, rfl⟩ := Option.map_eq_some_iff.1 h
      exact fin hx hy (bopI_ok hr hq.1)
    · cases h
  · rename_i a hx
    split at h
    · rename_i b hy
      obtain ⟨r, hr, rfl⟩ := Option.map_eq_some_iff.1 h
      exact fin hx hy (bopB_ok hr)
    · cases h
  · rename_i a hx
    split at h
    · rename_i b hy
      obtain ⟨r, hr, rfl⟩ := Option.map_eq_some_iff.1 h
      exact fin hx hy (bopS_ok hr hq.1)
    · cases h
  · rename_i m hx
    split at h
    · rename_i n hy
      split at h
      · rename_i e he
        obtain ⟨h1, h2⟩ := condE' h
        have hu := tget_u he
        rw [isF64_e h1] at hu
        cases op <;> first | (cases h2; done) | skip
        · cases h2
          refine Sim.run fun s w a hp => ?_
          obtain ⟨c1, e1, f1⟩ := (hp.get (by simp [Op.operands]) hx).fltE
          obtain ⟨c2, e2, f2⟩ := (hp.get (by simp [Op.operands]) hy).fltE
          obtain ⟨r, w', hr, hf, hw⟩ := run_quo (P := P) (w := w) (x := x) (y := y) (xt := xt) c1 c2
          refine ⟨s, w', .float .f64 r, ?_, ?_⟩
          · simp only [execOp, e1, e2]
            rw [Sem.run_bind, hr]; rfl
          · have hv : V s (.flt (qf m n)) (.float .f64 r) := by
              rw [← qf_c f1 f2, ← hf]; exact .im .flt
            rcases hw with rfl | rfl
            · exact .pure hp.wd hv
            · exact ⟨hp.wd.drawn _, Stp.drawn _, fun _ => rfl, rfl, fun _ _ => rfl, hv⟩
        · cases h2
          refine Sim.pure fun s w a hp => ?_
          obtain ⟨c1, e1, f1⟩ := (hp.get (by simp [Op.operands]) hx).fltE
          obtain ⟨c2, e2, f2⟩ := (hp.get (by simp [Op.operands]) hy).fltE
          exact ⟨_, e_bin e1 e2 (r_feq f1 f2 hu), .im (.v _)⟩
        · cases h2
          refine Sim.pure fun s w a hp => ?_
          obtain ⟨c1, e1, f1⟩ := (hp.get (by simp [Op.operands]) hx).fltE
          obtain ⟨c2, e2, f2⟩ := (hp.get (by simp [Op.operands]) hy).fltE
          refine ⟨_, e_bin e1 e2 (v := .bool (!(feq m n))) ?_, .im (.v _)⟩
          subst f1; subst f2
          unfold feq
          rw [ord_flt]
          rfl
        · cases h2
          refine Sim.pure fun s w a hp => ?_
          obtain ⟨c1, e1, f1⟩ := (hp.get (by simp [Op.operands]) hx).fltE
          obtain ⟨c2, e2, f2⟩ := (hp.get (by simp [Op.operands]) hy).fltE
          exact ⟨_, e_bin e1 e2 (r_fls f1 f2), .im (.v _)⟩
      · cases h
    · cases h
  · exact xNil_ok h hq

def xUn (L : Fr) (op : UnOp) (x : Operand) : Option Got := match op with
  | .neg => (match rdx L x with | some (.v (.int k a)) => some (got (.v (.int k (wr k (0 - a))))) | _ => none)
  | .not => (match rdx L x with | some (.v (.bool b)) => some (got (.v (.bool (!b)))) | _ => none)
  | .xor => (match rdx L x with | some (.v (.int k a)) => some (got (.v (.int k (bits .xor k (bif k.signed then -1 else k.max) a)))) | _ => none)
  | _ => none
theorem r_uxor {P : Program} {k : IntKind} {a : Int} {w : World} : (Op.unary .xor (.int k a)).run P w = .ok (.int k (bits .xor k (bif k.signed then -1 else k.max) a)) w := by
  cases k <;> simp [Op.unary, Op.intBits, bits, IntKind.signed]
theorem xUn_ok {op : UnOp} {xt : Nat} (h : xUn L op x = some q) : Sim P ⟨dst, .unOp op xt x, ty, pos, af, gd⟩ L H A q.1 := by
  cases op <;> first | (cases h; done) | skip
  · simp only [xUn] at h
    split at h
    · rename_i k m hx; cases h
      exact Sim.pure fun s w a hp => ⟨_, e_un (hp.get (by simp [Op.operands]) hx).vE (r_neg (wr_eq _ _)), .im (.v _)⟩
    · cases h
  · simp only [xUn] at h
    split at h
    · rename_i k m hx; cases h
      exact Sim.pure fun s w a hp => ⟨_, e_un (hp.get (by simp [Op.operands]) hx).vE r_uxor, .im (.v _)⟩
    · cases h
  · simp only [xUn] at h
    split at h
    · rename_i b hx; cases h
      exact Sim.pure fun s w a hp => ⟨_, e_un (hp.get (by simp [Op.operands]) hx).vE (r_not rfl), .im (.v _)⟩
    · cases h
def xConv (L : Fr) (T : List (TE P)) (s d : Nat) (x : Operand) : Option Got := match rdx L x with
  | some (.v (.int _ c)) => (match tget T s with
    | some _ => (match tget T d with
      | some e => (match e.d with
        | .int k => some (got (.v (.int k (wr k c))))
        | .float .f64 => some (got (.flt (flt (i2f c))))
        | _ => none)
      | none => none)
    | none => none)
  | _ => none
theorem xConv_ok {s d : Nat} (h : xConv L T s d x = some q) : Sim P ⟨dst, .convert s d x, ty, pos, af, gd⟩ L H A q.1 := by
  unfold xConv at h
  split at h
  · rename_i k' c hx
    split at h
    · rename_i es hs
      split at h
      · rename_i e he
        have hu := tget_u he
        split at h
        · rename_i k hd
          rw [hd] at hu
          cases h
          exact Sim.pure fun s w a hp => ⟨_, e_conv (hp.get (by simp [Op.operands]) hx).vE (tget_u hs) hu (wr_eq _ _), .im (.v _)⟩
        · rename_i hd
          rw [hd] at hu
          cases h
          exact Sim.pure fun s w a hp => ⟨_, e_convF (hp.get (by simp [Op.operands]) hx).vE (tget_u hs) hu, .im .flt⟩
        · cases h
      · cases h
    · cases h
  · cases h
def plainT : TypeDesc → Bool
  | .interface _ => false
  | _ => true
def xMkI (L : Fr) (T : List (TE P)) (t : Nat) (x : Operand) : Option Got := match rdx L x with
  | some v => (match tget T t with
    | some e => bif plainT e.d then some (got (.ifc t v)) else none
    | none => none)
  | none => none
theorem xMkI_ok {t : Nat} (h : xMkI L T t x = some q) : Sim P ⟨dst, .makeInterface t x, ty, pos, af, gd⟩ L H A q.1 := by
  unfold xMkI at h
  split at h
  · rename_i v hx
    split at h
    · rename_i e he
      obtain ⟨h1, h2⟩ := condE' h
      cases h2
      have hu := tget_u he
      clear h
      revert h1 hu
      generalize e.d = d
      intro h1 hu
      exact Sim.pure fun s w a hp => ⟨_, e_makeIface rfl hu (by cases d <;> first | rfl | cases h1), .ifc (hp.get (by simp [Op.operands]) hx)⟩
    · cases h
  · cases h
def rdL (L : Fr) : List Operand → Option (List AV)
  | [] => some []
  | x :: r => (match rdx L x with
    | some v => (match rdL L r with
      | some vs => some (v :: vs)
      | none => none)
    | none => none)
theorem rdL_ok {s : Ms} {a : Act} : ∀ {xs : List Operand} {vs : List AV}, rdL L xs = some vs → (∀ x ∈ xs, ∀ y, rdx L x = some y → V s y (a.eval x)) → L2 (V s) vs (xs.map a.eval)
  | [], vs, h, _ => by cases h; exact L2.nil
  | x :: r, vs, h, k => by
    simp only [rdL] at h
    split at h
    · rename_i v hv
      split at h
      · rename_i us hu
        cases h
        exact L2.cons (k x (by simp) v hv) (rdL_ok hu fun x hx => k x (by simp [hx]))
      · cases h
    · cases h
theorem evs_self (a : Act) : ∀ xs : List Operand, Evs a.eval xs (xs.map a.eval)
  | [] => .nil
  | x :: r => .cons rfl (evs_self a r)
def xAss (L : Fr) (T : List (TE P)) (x : Operand) (t : Nat) (co : Bool) : Option Got := match rdx L x with
  | some (.ifc t' v) => (match tget T t with
    | some e => bif plainT e.d && Nat.beq t' t then some (got (bif co then .tup [v, .v (.bool true)] else v)) else none
    | none => none)
  | _ => none
theorem xAss_ok {xt t : Nat} {co : Bool} (h : xAss L T x t co = some q) : Sim P ⟨dst, .typeAssert x xt t co, ty, pos, af, gd⟩ L H A q.1 := by
  unfold xAss at h
  split at h
  · rename_i t' v hx
    split at h
    · rename_i e he
      obtain ⟨h1, h2⟩ := condE' h
      cases h2
      simp only [Bool.and_eq_true] at h1
      have e1 := Nat.eq_of_beq_eq_true h1.2
      subst e1
      have hu := tget_u he
      have hp1 := h1.1
      generalize e.d = dd at hu hp1
      refine Sim.pure fun s w a hp => ?_
      obtain ⟨u, eu, hv⟩ := (hp.get (x := x) (by simp [Op.operands]) hx).ifcE
      cases co
      · refine ⟨u, ?_, hv⟩
        simp only [execOp, eu]
        cases dd <;> first | (cases hp1; done) | simp [Instr.typeAssert, Sem.run_bind, hu w]
      · refine ⟨.tuple #[u, .bool true], ?_, .tup (gs := [u, .bool true]) rfl fun j y g h1 h2 => ?_⟩
        · simp only [execOp, eu]
          cases dd <;> first | (cases hp1; done) | simp [Instr.typeAssert, Sem.run_bind, hu w]
        · match j, h1, h2 with
          | 0, h1, h2 => simp at h1 h2; subst h1 h2; exact hv
          | 1, h1, h2 => simp at h1 h2; subst h1 h2; exact .im (.v _)
    · cases h
  · cases h
def xMkF (L : Fr) (fn : Fn) (fi ca : List Operand) : Option Got := match fn with
  | .func f => (match rdL L fi with
    | some v1 => (match rdL L ca with
      | some v2 => some (got (.fn f v1 v2))
      | none => none)
    | none => none)
  | _ => none
theorem xMkF_ok {fn : Fn} {fi ca : List Operand} (h : xMkF L fn fi ca = some q) : Sim P ⟨dst, .makeFunc fn fi.toArray ca.toArray, ty, pos, af, gd⟩ L H A q.1 := by
  unfold xMkF at h
  split at h
  · rename_i f
    split at h
    · rename_i v1 h1
      split at h
      · rename_i v2 h2
        cases h
        refine Sim.pure fun s w a hp => ⟨_, e_makeFunc (evs_self a fi) (evs_self a ca), ?_⟩
        have k1 := rdL_ok (s := s) (a := a) h1 fun x hx y hy => hp.rd x (by simp [Op.operands, hx]) y hy
        have k2 := rdL_ok (s := s) (a := a) h2 fun x hx y hy => hp.rd x (by simp [Op.operands, hx]) y hy
        exact .fn k1.1 k2.1 k1.2 k2.2
      · cases h
    · cases h
  · cases h
def xExt (L : Fr) (x : Operand) (i : Nat) : Option Got := match rdx L x with
  | some (.tup vs) => (match vs[i]? with | some v => some (got v) | none => none)
  | _ => none
theorem xExt_ok {i : Nat} (h : xExt L x i = some q) : Sim P ⟨dst, .extract x i, ty, pos, af, gd⟩ L H A q.1 := by
  unfold xExt at h
  split at h
  · rename_i vs hx
    split at h
    · rename_i v hv
      cases h
      refine Sim.pure fun s w a hp => ?_
      obtain ⟨gs, e, hl⟩ := (hp.get (by simp [Op.operands]) hx).tupE
      obtain ⟨g, hg, hr⟩ := hl.get hv
      exact ⟨g, e_extract e hg, hr⟩
    · cases h
  · cases h
def cellsV (ag : Bool) (sz : Nat) (cs : List AV) : Option AV := match ag with
  | true => bif Nat.beq (cs.take sz).length sz then some (.agg (cs.take sz)) else none
  | false => cs[0]?
def xField (L : Fr) (T : List (TE P)) (t : Nat) (x : Operand) (f : Nat) : Option Got := match rdx L x with
  | some (.agg cs) => (match tget T t with
    | some e => (match e.d with
      | .struct fs => (match fs.toList[f]? with
        | some fd => (match tget T fd.type with
          | some e2 => (match cellsV e2.ag e2.sz (cs.drop fd.offset) with | some v => some (got v) | none => none)
          | none => none)
        | none => none)
      | _ => none)
    | none => none)
  | _ => none
theorem xField_ok {t f : Nat} (h : xField L T t x f = some q) : Sim P ⟨dst, .field t x f, ty, pos, af, gd⟩ L H A q.1 := by
  unfold xField at h
  split at h
  · rename_i cs hx
    split at h
    · rename_i e he
      split at h
      · rename_i fs hfs
        have hu := tget_u he
        rw [hfs] at hu
        split at h
        · rename_i fd hfd
          split at h
          · rename_i e2 he2
            split at h
            · rename_i v hv
              cases h
              refine Sim.pure fun s w a hp => ?_
              obtain ⟨gs, eg, hl⟩ := (hp.get (by simp [Op.operands]) hx).aggE
              have hfd' : fs[f]? = some fd := by simpa using hfd
              unfold cellsV at hv
              cases hag : e2.ag
              · rw [hag] at hv
                simp only [List.getElem?_drop, Nat.add_zero] at hv
                obtain ⟨g, hg, hr⟩ := hl.get hv
                exact ⟨g, e_field1 eg hu hfd' (hag ▸ tget_a he2) hg, hr⟩
              · rw [hag] at hv
                obtain ⟨h1, h2⟩ := condE' hv
                cases h2
                have k := (hl.drop fd.offset).take e2.sz
                exact ⟨_, e_fieldA eg hu hfd' (hag ▸ tget_a he2) (tget_s he2) rfl, .agg k.1 k.2⟩
            · cases h
          · cases h
        · cases h
      · cases h
    · cases h
  · cases h
end

def splice (cs : List AV) (off : Nat) (vs : List AV) : List AV := cs.take off ++ vs ++ cs.drop (off + vs.length)
def segD : List Sg → Nat → Option (List Sg)
  | [], off => bif Nat.beq off 0 then some [] else none
  | x :: r, off => bif Nat.beq off 0 then some (x :: r) else (match x with
    | .c _ => segD r (off - 1)
    | .a k n _ => bif Nat.ble (n * k) off then segD r (off - n * k) else none)
def segT : List Sg → List AV
  | .c x :: r => x :: segT r
  | _ => []
def segS : List Sg → Nat → List AV → Option (List Sg)
  | [], _, vs => (match vs with
    | [] => some []
    | _ => none)
  | x :: r, off, vs => (match vs with
    | [] => some (x :: r)
    | v :: vt => (match x with
      | .c y => bif Nat.beq off 0 then (match segS r 0 vt with
        | some r' => some (.c v :: r')
        | none => none) else (match segS r (off - 1) (v :: vt) with
        | some r' => some (.c y :: r')
        | none => none)
      | .a k n xs => bif Nat.ble (n * k) off then (match segS r (off - n * k) (v :: vt) with
        | some r' => some (.a k n xs :: r')
        | none => none) else none))
def segA : List Sg → Nat → Option (Nat × Nat × Nat × List (List AV))
  | .a k n xs :: _, 0 => some (0, k, n, xs)
  | .c _ :: r, j + 1 => (match segA r j with
    | some (b, q) => some (b + 1, q)
    | none => none)
  | .a k n _ :: r, j + 1 => (match segA r j with
    | some (b, q) => some (b + n * k, q)
    | none => none)
  | _, _ => none
def segP : List Sg → Nat → List (List AV) → List Sg
  | .a k n _ :: r, 0, ys => .a k n ys :: r
  | x :: r, j + 1, ys => x :: segP r j ys
  | l, _, _ => l
def segF : List Sg → List AV
  | [] => []
  | .c x :: r => x :: segF r
  | .a _ _ xs :: r => xs.flatten ++ segF r
def allK (k : Nat) : List (List AV) → Bool
  | [] => true
  | x :: r => Nat.beq x.length k && pureA.pureL x && allK k r
def segB : List Sg → Bool
  | [] => true
  | .c _ :: r => segB r
  | .a k n xs :: r => Nat.beq xs.length n && allK k xs && segB r
section
variable {s : Ms}
theorem segD_ok : ∀ {ss : List Sg} {gs : List Value} {off : Nat} {r : List Sg}, SegR s ss gs → segD ss off = some r → SegR s r (gs.drop off)
  | [], gs, off, r, h, e => by
    simp only [segD] at e
    obtain ⟨h1, e⟩ := condE' e
    cases e
    have h : gs = [] := h
    subst h
    simp [SegR]
  | x :: t, gs, off, r, h, e => by
    simp only [segD] at e
    cases hb : Nat.beq off 0
    · rw [hb] at e
      simp only [cond_false] at e
      have h0 : off ≠ 0 := fun e => by subst e; cases hb
      cases x with
      | c y =>
        obtain ⟨g, gt, rfl, _, h3⟩ := h
        have := segD_ok h3 e
        rwa [show List.drop off (g :: gt) = gt.drop (off - 1) by
          cases off with
          | zero => exact absurd rfl h0
          | succ m => simp]
      | a k n xs =>
        obtain ⟨us, gt, rfl, h2, h3⟩ := h
        obtain ⟨h4, e⟩ := condE' e
        have h4 := Nat.le_of_ble_eq_true h4
        have := segD_ok h3 e
        rwa [List.drop_append, h2.1, List.drop_eq_nil_of_le (by rw [h2.1]; exact h4), List.nil_append]
    · rw [hb] at e
      have := Nat.eq_of_beq_eq_true hb
      subst this
      cases e
      simpa using h
theorem segT_ok : ∀ {ss : List Sg} {gs : List Value}, SegR s ss gs → L2 (V s) (segT ss) (gs.take (segT ss).length)
  | [], gs, h => by
    have h : gs = [] := h
    subst h
    exact .nil
  | .a k n xs :: r, gs, h => by simp only [segT, List.length_nil, List.take_zero]; exact .nil
  | .c x :: r, gs, ⟨g, t, e, hv, h⟩ => by
    subst e
    simp only [segT, List.length_cons, List.take_succ_cons]
    exact .cons hv (segT_ok h)
theorem segS_ok : ∀ {ss : List Sg} {gs : List Value} {off : Nat} {vs : List AV} {us : List Value} {ss' : List Sg}, SegR s ss gs → L2 (V s) vs us → segS ss off vs = some ss' → (us = [] ∨ off + us.length ≤ gs.length) ∧ SegR s ss' (gs.take off ++ us ++ gs.drop (off + us.length))
  | [], gs, off, vs, us, ss', h, hv, e => by
    simp only [segS] at e
    split at e
    · cases e
      have h : gs = [] := h
      subst h
      have : us = [] := List.eq_nil_of_length_eq_zero hv.1.symm
      subst this
      simp [SegR]
    · cases e
  | x :: r, gs, off, vs, us, ss', h, hv, e => by
    simp only [segS] at e
    split at e
    · cases e
      have : us = [] := List.eq_nil_of_length_eq_zero hv.1.symm
      subst this
      exact ⟨.inl rfl, by simpa using h⟩
    · rename_i v vt
      obtain ⟨u, ut, rfl, hu, hvt⟩ := hv.uncons
      cases x with
      | c y =>
        obtain ⟨g, gt, rfl, h2, h3⟩ := h
        simp only at e
        cases hb : Nat.beq off 0
        · rw [hb] at e
          simp only [cond_false] at e
          have h0 : off ≠ 0 := fun e => by subst e; cases hb
          split at e
          · rename_i r' hr
            cases e
            obtain ⟨m1, m2⟩ := segS_ok h3 (L2.cons hu hvt) hr
            have m1 := m1.resolve_left (by simp)
            simp only [List.length_cons] at m1 m2 ⊢
            obtain ⟨m, rfl⟩ : ∃ m, off = m + 1 := ⟨off - 1, by omega⟩
            refine ⟨.inr (by omega), g, _, ?_, h2, m2⟩
            simp only [Nat.add_sub_cancel, List.take_succ_cons, List.cons_append, List.append_assoc]
            rw [show m + 1 + (ut.length + 1) = (m + (ut.length + 1)) + 1 by omega, List.drop_succ_cons]
          · cases e
        · rw [hb] at e
          have := Nat.eq_of_beq_eq_true hb
          subst this
          simp only [cond_true] at e
          split at e
          · rename_i r' hr
            cases e
            obtain ⟨m1, m2⟩ := segS_ok h3 hvt hr
            simp only [Nat.zero_add, List.take_zero, List.nil_append, List.length_cons] at m1 m2 ⊢
            refine ⟨.inr ?_, u, _, rfl, hu, ?_⟩
            · rcases m1 with m1 | m1
              · subst m1; simp
              · omega
            · rw [List.drop_succ_cons]; exact m2
          · cases e
      | a k n xs =>
        obtain ⟨ws, gt, rfl, h2, h3⟩ := h
        simp only at e
        have h9 := condE' e
        clear e
        obtain ⟨h4, e⟩ := h9
        have h4 := Nat.le_of_ble_eq_true h4
        split at e
        · rename_i r' hr
          cases e
          obtain ⟨m1, m2⟩ := segS_ok h3 (L2.cons hu hvt) hr
          have m1 := m1.resolve_left (by simp)
          simp only [List.length_cons] at m1 m2 ⊢
          have hw := h2.1
          refine ⟨.inr (by simp only [List.length_append]; omega), ws, _, ?_, h2, m2⟩
          rw [List.take_append, List.drop_append, List.take_of_length_le (by omega), List.drop_eq_nil_of_le (by omega)]
          simp only [List.nil_append, List.append_assoc]
          rw [hw, show off + (ut.length + 1) - n * k = off - n * k + (ut.length + 1) by omega]
        · cases e
theorem segA_ok : ∀ {ss : List Sg} {gs : List Value} {j b k n : Nat} {xs : List (List AV)}, SegR s ss gs → segA ss j = some (b, k, n, xs) → ∃ p us t, gs = p ++ (us ++ t) ∧ p.length = b ∧ ArrR s.J k n xs us ∧ ∀ ys us', us'.length = us.length → ArrR s.J k n ys us' → SegR s (segP ss j ys) (p ++ (us' ++ t))
  | [], gs, j, b, k, n, xs, h, e => by cases e
  | .a k' n' xs' :: r, gs, 0, b, k, n, xs, h, e => by
    cases e
    obtain ⟨us, t, rfl, h1, h2⟩ := h
    exact ⟨[], us, t, rfl, rfl, h1, fun ys us' _ h3 => ⟨us', t, rfl, h3, h2⟩⟩
  | .c x :: r, gs, 0, b, k, n, xs, h, e => by cases e
  | .c x :: r, gs, j + 1, b, k, n, xs, h, e => by
    simp only [segA] at e
    split at e
    · rename_i b0 q he
      cases e
      obtain ⟨g, gt, rfl, h2, h3⟩ := h
      obtain ⟨p, us, t, rfl, e2, e3, e4⟩ := segA_ok h3 he
      exact ⟨g :: p, us, t, rfl, by simp [e2], e3, fun ys us' hl h5 => ⟨g, _, rfl, h2, e4 ys us' hl h5⟩⟩
    · cases e
  | .a k' n' xs' :: r, gs, j + 1, b, k, n, xs, h, e => by
    simp only [segA] at e
    split at e
    · rename_i b0 q he
      cases e
      obtain ⟨ws, gt, rfl, h2, h3⟩ := h
      obtain ⟨p, us, t, rfl, e2, e3, e4⟩ := segA_ok h3 he
      exact ⟨ws ++ p, us, t, by simp, by rw [List.length_append, h2.1, e2]; omega, e3, fun ys us' hl h5 => ⟨ws, _, by simp, h2, e4 ys us' hl h5⟩⟩
    · cases e
theorem ArrR.set {J : Imm} {k n j r : Nat} {xs : List (List AV)} {us ws : List Value} {ocs vs : List AV} (h : ArrR J k n xs us) (hx : xs[j]? = some ocs) (hl : r + vs.length ≤ k) (hv : L2 (VI J) vs ws) :
    j * k + r + ws.length ≤ us.length ∧ ArrR J k n (xs.set j (splice ocs r vs)) (us.take (j * k + r) ++ ws ++ us.drop (j * k + r + ws.length)) := by
  obtain ⟨hsz, hlen, hk, hV⟩ := h
  have hj : j < n := by rw [← hlen]; exact (List.getElem?_eq_some_iff.1 hx).1
  have hol := hk _ _ hx
  have hvl := hv.1
  have hb1 : j * k + k ≤ us.length := by
    have e1 : (j + 1) * k ≤ n * k := Nat.mul_le_mul_right k (by omega)
    have e2 : (j + 1) * k = j * k + k := Nat.succ_mul j k
    omega
  refine ⟨by omega, ?_, by simp [hlen], ?_, ?_⟩
  · simp only [List.length_append, List.length_take, List.length_drop]; omega
  · intro i x hi
    rw [List.getElem?_set] at hi
    split at hi
    · split at hi
      · cases hi
        simp only [splice, List.length_append, List.length_take, List.length_drop]; omega
      · cases hi
    · exact hk i x hi
  · intro i x m y g hi hy hg
    rw [List.getElem?_set] at hi
    by_cases hji : j = i
    · rw [if_pos hji] at hi; subst hji
      rw [if_pos (by omega)] at hi; cases hi
      have hm : m < k := by
        have := (List.getElem?_eq_some_iff.1 hy).1
        simp only [splice, List.length_append, List.length_take, List.length_drop] at this; omega
      simp only [splice] at hy
      rw [List.getElem?_append, List.getElem?_append] at hy hg
      simp only [List.length_append, List.length_take] at hy hg
      by_cases c1 : m < r
      · rw [if_pos (by omega), if_pos (by omega)] at hy hg
        rw [List.getElem?_take, if_pos (by omega)] at hy hg
        exact hV _ _ _ _ _ hx hy hg
      · by_cases c2 : m < r + vs.length
        · rw [if_pos (by omega), if_neg (by omega)] at hy hg
          refine hv.2 (m - r) y g ?_ ?_
          · rw [show m - r = m - min r ocs.length by omega]; exact hy
          · rw [show m - r = j * k + m - min (j * k + r) us.length by omega]; exact hg
        · rw [if_neg (by omega)] at hy hg
          rw [List.getElem?_drop] at hy hg
          refine hV _ _ m y g hx ?_ ?_
          · rw [show r + vs.length + (m - (min r ocs.length + vs.length)) = m by omega] at hy; exact hy
          · rw [show j * k + r + ws.length + (j * k + m - (min (j * k + r) us.length + ws.length)) = j * k + m by omega] at hg; exact hg
    · rw [if_neg hji] at hi
      have hkx := hk _ _ hi
      have hm : m < k := by rw [← hkx]; exact (List.getElem?_eq_some_iff.1 hy).1
      have hlt : i * k + m < j * k + r ∨ j * k + r + ws.length ≤ i * k + m := by
        rcases Nat.lt_or_gt_of_ne hji with c | c
        · right
          have e1 : (j + 1) * k ≤ i * k := Nat.mul_le_mul_right k (by omega)
          have e2 : (j + 1) * k = j * k + k := Nat.succ_mul j k
          omega
        · left
          have e1 : (i + 1) * k ≤ j * k := Nat.mul_le_mul_right k (by omega)
          have e2 : (i + 1) * k = i * k + k := Nat.succ_mul i k
          omega
      refine hV _ _ m y g hi hy ?_
      rw [List.getElem?_append, List.getElem?_append] at hg
      simp only [List.length_append, List.length_take] at hg
      rcases hlt with c | c
      · rw [if_pos (by omega), if_pos (by omega), List.getElem?_take, if_pos (by omega)] at hg; exact hg
      · rw [if_neg (by omega), List.getElem?_drop] at hg
        rw [show j * k + r + ws.length + (i * k + m - (min (j * k + r) us.length + ws.length)) = i * k + m by omega] at hg; exact hg
theorem seg_set {p us t ws : List Value} {m : Nat} (h : m + ws.length ≤ us.length) : (p ++ (us ++ t)).take (p.length + m) ++ ws ++ (p ++ (us ++ t)).drop (p.length + m + ws.length) = p ++ ((us.take m ++ ws ++ us.drop (m + ws.length)) ++ t) := by
  rw [List.take_append, List.take_of_length_le (by omega), Nat.add_sub_cancel_left, List.take_append_of_le_length (by omega)]
  rw [List.drop_append, List.drop_eq_nil_of_le (by omega), show p.length + m + ws.length - p.length = m + ws.length by omega, List.drop_append_of_le_length (by omega)]
  simp [List.append_assoc]
theorem seg_sub {p us t : List Value} {a l : Nat} (h : a + l ≤ us.length) : ((p ++ (us ++ t)).drop (p.length + a)).take l = (us.drop a).take l := by
  rw [List.drop_append, List.drop_eq_nil_of_le (by omega), List.nil_append, Nat.add_sub_cancel_left, List.drop_append_of_le_length (by omega), List.take_append_of_le_length (by simp; omega)]
theorem allK_ok {k : Nat} : ∀ {xs : List (List AV)} {gs : List Value}, allK k xs = true → L2 (V s) xs.flatten gs → gs.length = xs.length * k ∧ ArrR s.J k xs.length xs gs
  | [], gs, h, hl => by
    have : gs = [] := List.eq_nil_of_length_eq_zero (by rw [← hl.1]; rfl)
    subst this
    exact ⟨by simp, by simp, rfl, fun i x h => by simp at h, fun i x j y g h => by simp at h⟩
  | x :: r, gs, h, hl => by
    simp only [allK, Bool.and_eq_true] at h
    obtain ⟨⟨h1, h2⟩, h3⟩ := h
    have h1 := Nat.eq_of_beq_eq_true h1
    have d1 := hl.take x.length
    have d2 := hl.drop x.length
    rw [List.flatten_cons] at d1 d2
    rw [List.take_left'] at d1
    rw [List.drop_left'] at d2
    · obtain ⟨e1, e2⟩ := allK_ok h3 d2
      have hx := d1.1
      have hgl : gs.length = (x :: r).length * k := by
        simp only [List.length_drop, List.length_take] at e1 hx
        simp only [List.length_cons, Nat.succ_mul]
        omega
      refine ⟨hgl, hgl, rfl, fun i y hi => ?_, fun i y j z g hi hj hg => ?_⟩
      · cases i with
        | zero => simp at hi; subst hi; exact h1
        | succ i => exact e2.2.2.1 i y (by simpa using hi)
      · cases i with
        | zero =>
          simp at hi; subst hi
          have hjl := (List.getElem?_eq_some_iff.1 hj).1
          refine (d1.2 j z g hj ?_).pure (pureL_at h2 hj)
          rw [List.getElem?_take, if_pos hjl]
          simpa using hg
        | succ i =>
          refine e2.2.2.2 i y j z g (by simpa using hi) hj ?_
          rw [List.getElem?_drop, ← hg]
          congr 1
          rw [Nat.succ_mul]; omega
    · rfl
    · rfl
theorem segF_ok : ∀ {ss : List Sg} {gs : List Value}, segB ss = true → L2 (V s) (segF ss) gs → SegR s ss gs
  | [], gs, h, hl => List.eq_nil_of_length_eq_zero hl.1.symm
  | .c x :: r, gs, h, hl => by
    obtain ⟨g, t, rfl, h1, h2⟩ := hl.uncons
    exact ⟨g, t, rfl, h1, segF_ok h h2⟩
  | .a k n xs :: r, gs, h, hl => by
    simp only [segB, Bool.and_eq_true] at h
    obtain ⟨⟨h1, h2⟩, h3⟩ := h
    have h1 := Nat.eq_of_beq_eq_true h1
    subst h1
    have d1 := hl.take xs.flatten.length
    have d2 := hl.drop xs.flatten.length
    simp only [segF] at d1 d2
    rw [List.take_left'] at d1
    rw [List.drop_left'] at d2
    · exact ⟨_, _, (List.take_append_drop xs.flatten.length gs).symm, (allK_ok h2 d1).2, segF_ok h3 d2⟩
    · rfl
    · rfl
end

inductive Out where
  | ret (v : AV) (H : List AO) (A : List (List AV))
  | pan (v : AV) (H : List AO) (A : List (List AV))
structure ASt where
  L : List (Nat × AV)
  H : List AO
  A : List (List AV)
inductive Ex where
  | normal
  | exit (id : Nat)
  | ret
  | pan (v : AV)
inductive IK where
  | pf
  | br (b : Bool)
  | cells (j : Nat) (cs : List AV)
  | upd (cs : List AV) (xs : List (List AV))
  | box (cs : List AV)
  | list (n : Nat) (xs : List (List AV))
  | kvs (m : List (Int × AV))
  | val (x : Option AV)
  | node (n : Nat) (A : List (List AV))
  | nl
  | call (σ : List Nat) (o : Out)
  | auto
  | fz (d : Nat) (h : Nat)
  | ldb (ds : List AV)
  | on (t : Nat) (k : IK)
  | sub (S1 : ASt) (x : Ex) (S2 : ASt)
  | subc (S1 : ASt) (x : Ex) (S2 : ASt)
  | subb (S1 : ASt) (x : Ex) (S2 : ASt)
  | lend (hs : List Nat) (o : Out)
  | inl
  | pk (b : Bool)
  | subg (r : Nat) (S1 : ASt) (x : Ex) (S2 : ASt)
  | here (r : Nat)
  | adL (t : Nat) (o : Option Nat) (k : Nat)
  | adB (h i : Nat) (o : Option Nat) (k : Nat)
  | frz (h : Nat) (ts : List Nat) (bs : List (Nat × Nat))
  | nzm (k : Nat)
  | nlm (e k : Nat)
  | nzb (is : List (Nat × Nat))
  | ron (t : Nat) (i : Option Nat) (m : Nat)
  | eqs
  | ext (v : AV)
  | cutn (t n : Nat) (ys : List (List AV))
  | rn (σ ts : List Nat)
  | aps (zs : List (List AV))
  | seg (ss : List Sg)
  | kp (ks : List Nat) (k : IK)
  | sgx (j e r : Nat) (x : List AV)
  | sgu (j e r : Nat) (x : List AV) (ys : List (List AV))
  | isn (i : Nat)
  | exm
  | nln
  | valD (v : AV) (b : Bool)
  | calln (σ : List Nat) (o : Out)

theorem nblt0 {a b : Nat} (h : Nat.blt a b = true) : a < b := Nat.le_of_ble_eq_true h
def valC : AV → Option (List AV)
  | .agg cs => some cs
  | v => bif oneA v then some [v] else none
def onesA : List AV → Bool
  | [] => true
  | x :: r => oneA x && onesA r
theorem onesA_at {cs : List AV} (h : onesA cs = true) : ∀ x ∈ cs, oneA x = true := by
  induction cs with
  | nil => simp
  | cons c r ih =>
    simp only [onesA, Bool.and_eq_true] at h
    intro x hx
    rcases List.mem_cons.1 hx with rfl | hx
    · exact h.1
    · exact ih h.2 x hx
theorem valC_ok {s : Ms} {v : AV} {g : Value} {cs : List AV} (hv : V s v g) (h : valC v = some cs) : L2 (V s) cs g.cells.toList := by
  have key : oneA v = true → cs = [v] → L2 (V s) cs g.cells.toList := by
    intro h1 h2
    have := hv.one h1
    subst h2
    have e : g.cells.toList = [g] := by cases g <;> first | rfl | cases this
    rw [e]; exact .cons hv .nil
  unfold valC at h
  split at h
  · cases h
    obtain ⟨gs, rfl, hl⟩ := hv.aggE
    exact hl
  · obtain ⟨h1, h2⟩ := condE' h
    cases h2
    exact key h1 rfl
theorem L2.ones {s : Ms} {cs : List AV} {gs : List Value} (h : L2 (V s) cs gs) (k : onesA cs = true) : ∀ u ∈ gs, one u = true := by
  intro u hu
  obtain ⟨i, hi⟩ := List.getElem?_of_mem hu
  have hlt : i < cs.length := by rw [h.1]; exact (List.getElem?_eq_some_iff.1 hi).1
  have hc : cs[i]? = some cs[i] := by simp [hlt]
  exact (h.2 i _ _ hc hi).one (onesA_at k _ (List.getElem_mem hlt))
theorem L2.pure {s : Ms} {cs : List AV} {gs : List Value} (h : L2 (V s) cs gs) (k : pureA.pureL cs = true) : L2 (VI s.J) cs gs :=
  ⟨h.1, fun j y g a b => (h.2 j y g a b).pure (pureL_at k a)⟩
def atA (H : List AO) (A : List (List AV)) (v : AV) (it : Option IK) : Option (List AV × List Nat × Bool × Option Prop × List (Nat × Nat)) := match v with
  | .ref h off => (match hget H h with
    | .box cs => (match it with
      | some (.ldb ds) => some (ds, [h], false, some ((cs.drop off).take ds.length = ds), [])
      | _ => some (cs.drop off, [h], false, none, []))
    | .seg ss => (match it with
      | some (.sgx j e r x) => (match segA ss j with
        | some (b, k, n, xs) => some (x.drop r, [h], false, some (xs[e]? = some x), [(off, b + e * k + r)])
        | none => none)
      | _ => (match segD ss off with
        | some t => some (segT t, [h], false, none, [])
        | none => none))
    | _ => none)
  | .ptr cs => some (cs, [], false, none, [])
  | .el h n j r => (match hget H h with
    | .arr _ _ _ n' xs => (match it with
      | some (.cells _ cs) => some (cs.drop r, [h], false, some (xs[j]? = some cs), [(n, n')])
      | _ => none)
    | _ => none)
  | .nd (some i) off => (match it with
    | some (.cells _ cs) => some (cs.drop off, [], true, some (A[i]? = some cs), [])
    | _ => none)
  | _ => none
theorem cellsAt_drop {w : World} {b : Nat} {gs : List Value} {e : TypeId} {fr : Nat × Nat} (h : w.heap[b]? = some (.cells gs.toArray e fr)) (off : Nat) : CellsAt w ⟨b, off, none⟩ (gs.drop off) := by
  intro j u hu
  rw [add_none]
  refine cell_at h ?_
  simpa [List.getElem?_drop] using hu
theorem cellsAt_pre {w : World} {b : Nat} {gs more : List Value} {e : TypeId} {fr : Nat × Nat} (h : w.heap[b]? = some (.cells (gs ++ more).toArray e fr)) (off : Nat) : CellsAt w ⟨b, off, none⟩ (gs.drop off) := by
  intro j u hu
  refine cellsAt_drop h off j u ?_
  rw [List.getElem?_drop] at hu ⊢
  rw [List.getElem?_append_left (List.getElem?_eq_some_iff.1 hu).1]; exact hu
theorem cellsAt_take {w : World} {a : Addr} {vs : List Value} (h : CellsAt w a vs) (n : Nat) : CellsAt w a (vs.take n) := by
  intro j u hu
  rw [List.getElem?_take] at hu
  split at hu
  · exact h j u hu
  · cases hu
theorem atA_ok {H : List AO} {A : List (List AV)} {s : Ms} {w : World} {v : AV} {g : Value} {it : Option IK} {cs : List AV} {fp : List Nat} {fa : Bool} {p : Option Prop} {eq : List (Nat × Nat)}
    (h : atA H A v it = some (cs, fp, fa, p, eq)) (hW : Wd s w) (hv : V s v g) (hf : ∀ h ∈ fp, s.C h = hget H h) (ha : fa = true → s.A = A) (hp : okp p) (he : ∀ e ∈ eq, e.1 = e.2) :
    ∃ a gs, g = .pointer (some a) ∧ CellsAt w a gs ∧ L2 (V s) cs gs := by
  cases v <;> try (cases h; done)
  case ref hh off =>
    simp only [atA] at h
    split at h
    · rename_i cs0 hc
      have main : ∀ {hf' : ∀ h ∈ [hh], s.C h = hget H h}, ∃ a gs, g = .pointer (some a) ∧ CellsAt w a gs ∧ L2 (V s) (cs0.drop off) gs := by
        intro hf'
        have hC := (hf' hh (by simp)).trans hc
        obtain ⟨b, sz, hr, rfl⟩ := hv.refE hC
        obtain ⟨o, ho, hO⟩ := hW.obj _ _ _ hr
        rw [hC] at hO
        obtain ⟨gs, e, rfl, hl, _, h2⟩ := hO
        exact ⟨_, gs.drop off, rfl, cellsAt_drop ho off, h2.drop off⟩
      split at h
      · cases h
        obtain ⟨a, gs, e1, e2, e3⟩ := main (hf' := hf)
        have := hp _ rfl
        refine ⟨a, gs.take cs.length, e1, cellsAt_take e2 _, ?_⟩
        have k := e3.take cs.length
        rw [this] at k; exact k
      · cases h
        exact main (hf' := hf)
    · rename_i ss hc
      have base : ∀ {hf' : ∀ h ∈ [hh], s.C h = hget H h}, ∃ b gs e, g = .pointer (some ⟨b, off, none⟩) ∧ w.heap[b]? = some (.cells gs.toArray e (0, 0)) ∧ SegR s ss gs := by
        intro hf'
        have hC := (hf' hh (by simp)).trans hc
        obtain ⟨b, sz, hr, rfl⟩ := hv.refB (by rw [hC]; rfl)
        obtain ⟨o, ho, hO⟩ := hW.obj _ _ _ hr
        rw [hC] at hO
        obtain ⟨gs, e, rfl, hl, _, h2⟩ := hO
        exact ⟨b, gs, e, rfl, ho, h2⟩
      split at h
      · rename_i j e r x
        split at h
        · rename_i b k n xs hA
          cases h
          obtain ⟨bb, gs, te, rfl, ho, hS⟩ := base (hf' := hf)
          have hoff := he _ (List.mem_singleton.2 rfl)
          simp only at hoff
          have hx := hp _ rfl
          obtain ⟨p0, us, t, rfl, hpl, hAr, _⟩ := segA_ok hS hA
          obtain ⟨h1, h2, h3, h4⟩ := hAr
          have hl := h3 _ _ hx
          have hj : e < n := by rw [← h2]; exact (List.getElem?_eq_some_iff.1 hx).1
          have hlen : e * k + k ≤ us.length := by
            have e1 : (e + 1) * k ≤ n * k := Nat.mul_le_mul_right k (by omega)
            have e2 : (e + 1) * k = e * k + k := Nat.succ_mul e k
            omega
          have hcs : L2 (V s) x ((us.drop (e * k)).take k) := by
            refine ⟨by simp; omega, fun i y g a b => ?_⟩
            rw [List.getElem?_take] at b
            split at b
            · rw [List.getElem?_drop] at b; exact .im (h4 _ _ _ _ _ hx a b)
            · cases b
          refine ⟨_, ((us.drop (e * k)).take k).drop r, rfl, ?_, hcs.drop r⟩
          intro i u hu
          rw [add_none]
          refine cell_at ho ?_
          rw [List.getElem?_drop, List.getElem?_take] at hu
          split at hu
          · rw [List.getElem?_drop] at hu
            simp only [List.getElem?_toArray]
            rw [hoff, ← hpl, List.getElem?_append_right (by omega), List.getElem?_append_left (by omega), ← hu]
            congr 1; omega
          · cases hu
        · cases h
      · split at h
        · rename_i t hD
          cases h
          obtain ⟨bb, gs, te, rfl, ho, hS⟩ := base (hf' := hf)
          exact ⟨_, _, rfl, cellsAt_take (cellsAt_drop ho off) _, segT_ok (segD_ok hS hD)⟩
        · cases h
    · cases h
  case ptr cs0 =>
    cases h
    have := hv.ptrE
    cases this with
    | @ptr cs b off gs hj hb h =>
      obtain ⟨e, fr, more, ho⟩ := hW.imm _ _ hj
      refine ⟨_, (gs.drop off).take cs.length, rfl, cellsAt_take (cellsAt_pre ho off) _, by simp; omega, fun j y g a b => ?_⟩
      rw [List.getElem?_take] at b
      split at b
      · rw [List.getElem?_drop] at b; exact .im (h j y g a b)
      · cases b
  case el hh n j r =>
    simp only [atA] at h
    split at h
    · rename_i z te k n' xs hc
      split at h
      · rename_i jj cs1
        cases h
        have hn := he _ (List.mem_singleton.2 rfl)
        simp only at hn; subst hn
        have hC := (hf hh (by simp)).trans hc
        obtain ⟨b, sz, hr, rfl⟩ := hv.elE hC
        obtain ⟨o, ho, hO⟩ := hW.obj _ _ _ hr
        rw [hC] at hO
        obtain ⟨gs, cap, rfl, _, h1, h2, h3, h4, h5, h6, h7, h8⟩ := hO
        have hx := hp _ rfl
        have hl := h7 _ _ hx
        have hj : j < n := by rw [← h6]; exact (List.getElem?_eq_some_iff.1 hx).1
        have hlen : j * k + k ≤ gs.length := by
          have e1 : (j + 1) * k ≤ cap * k := Nat.mul_le_mul_right k (by omega)
          have e2 : (j + 1) * k = j * k + k := Nat.succ_mul j k
          omega
        have hcs : L2 (V s) cs1 ((gs.drop (j * k)).take k) := by
          refine ⟨by simp; omega, fun i y g a b => ?_⟩
          rw [List.getElem?_take] at b
          split at b
          · rw [List.getElem?_drop] at b; exact .im (h8 _ _ _ _ _ hx a b)
          · cases b
        refine ⟨_, ((gs.drop (j * k)).take k).drop r, rfl, ?_, hcs.drop r⟩
        intro i u hu
        rw [add_none]
        refine cell_at ho ?_
        rw [List.getElem?_drop, List.getElem?_take] at hu
        split at hu
        · rw [List.getElem?_drop] at hu
          simp only [List.getElem?_toArray]
          rw [show j * k + r + i = j * k + (r + i) by omega]; exact hu
        · cases hu
      · cases h
    · cases h
  case nd i off =>
    cases i with
    | none => cases h
    | some i =>
    simp only [atA] at h
    split at h
    · cases h
      obtain ⟨b, hb, rfl⟩ := hv.ndE
      obtain ⟨gs, e, cs2, ho, _, hA, hl⟩ := hW.node _ _ hb
      have hx := hp _ rfl
      rw [ha rfl] at hA
      rw [hx] at hA
      cases hA
      exact ⟨_, _, rfl, cellsAt_drop ho _, hl.drop _⟩
    · cases h

section
variable {P : Program} {L : Fr} {H : List AO} {A : List (List AV)} {T : List (TE P)} {it : Option IK}
variable {dst : Option Tmp} {ty : TypeId} {pos : String} {af : Array Edge} {gd : Option (Nat × Bool)} {x y z : Operand} {q : Got}
def nrmA : AV → AV
  | .v (.pointer none) => .nd none 0
  | x => x
theorem nrmA_ok {s : Ms} {x : AV} {g : Value} (h : V s x g) : V s (nrmA x) g := by
  unfold nrmA
  split
  · rw [h.vE]; exact .nd0
  · exact h
theorem nrmL_ok {s : Ms} {cs : List AV} {gs : List Value} (h : L2 (V s) cs gs) : L2 (V s) (cs.map nrmA) gs := by
  refine ⟨by simpa using h.1, fun j y g a b => ?_⟩
  rw [List.getElem?_map, Option.map_eq_some_iff] at a
  obtain ⟨x, hx, rfl⟩ := a
  exact nrmA_ok (h.2 j x g hx b)
def xLoad (L : Fr) (H : List AO) (A : List (List AV)) (T : List (TE P)) (it : Option IK) (t : Nat) (x : Operand) : Option Got := match rdx L x with
  | some v => (match atA H A v it with
    | some (cs, fp, fa, p, eq) => (match tget T t with
      | some e => (match cellsV e.ag e.sz cs with
        | some u => some (⟨u, [], none, fp, fa⟩, p, eq)
        | none => none)
      | none => none)
    | none => none)
  | none => none
theorem xLoad_ok {t : Nat} (h : xLoad L H A T it t x = some q) (hq : okg q) : Sim P ⟨dst, .load t x, ty, pos, af, gd⟩ L H A q.1 := by
  unfold xLoad at h
  split at h
  · rename_i v hv
    split at h
    · rename_i cs fp fa p eq hat
      split at h
      · rename_i e he
        split at h
        · rename_i u hu
          cases h
          refine Sim.pure fun s w a hp => ?_
          obtain ⟨ad, gs, e1, e2, e3⟩ := atA_ok hat hp.wd (hp.get (by simp [Op.operands]) hv) hp.fp (fun e => hp.ar (.inl e)) hq.1 hq.2
          unfold cellsV at hu
          cases hag : e.ag
          · rw [hag] at hu
            obtain ⟨g, hg, hr⟩ := e3.get hu
            refine ⟨g, e_load1 e1 (hag ▸ tget_a he) ?_, hr⟩
            have := e2 0 g hg
            simpa [Addr.add] using this
          · rw [hag] at hu
            obtain ⟨h1, h2⟩ := condE' hu
            cases h2
            have k := e3.take e.sz
            refine ⟨_, e_loadA e1 (hag ▸ tget_a he) (tget_s he) ?_ (cellsAt_take e2 e.sz), .agg k.1 k.2⟩
            rw [← k.1]; exact Nat.eq_of_beq_eq_true h1
        · cases h
      · cases h
    · cases h
  · cases h

theorem L2.splice {R : AV → Value → Prop} {cs vs : List AV} {gs us : List Value} (h : L2 R cs gs) (k : L2 R vs us) (off : Nat) : L2 R (X.splice cs off vs) (gs.take off ++ us ++ gs.drop (off + us.length)) := by
  unfold X.splice
  rw [k.1]
  exact ((h.take off).app k).app (h.drop _)
theorem put_rho_ne {s : Ms} {h : Nat} {r : RS} {o : AO} : ∀ k, k ≠ h → (s.put h r o).ρ k = s.ρ k := fun k hk => put_ρ' hk
theorem Post.put {s s1 : Ms} {w w' : World} {h : Nat} {r : RS} {o : AO} {v : AV} {fp : List Nat} {fa : Bool} {g : Value} (e : s1 = s.put h r o) (hW : Wd s1 w' ∧ Stp s w s1 w') (hv : V s1 v g) : Post s w ⟨v, [(h, o)], none, fp, fa⟩ s1 w' g := by
  subst e
  refine ⟨hW.1, hW.2, fun k => ?_, rfl, fun k hk => put_ρ' (fun e => hk _ (List.mem_singleton.2 rfl) e.symm), hv⟩
  simp only [upC, Ms.put]
  by_cases hk : k = h
  · subst hk; simp
  · rw [if_neg hk]
    have : Nat.beq k h = false := by
      cases hb : Nat.beq k h
      · rfl
      · exact absurd (Nat.eq_of_beq_eq_true hb) hk
    rw [this]; rfl
theorem ones_splice {gs us : List Value} (h : Ones gs) (h1 : ∀ u ∈ us, one u = true) (m n : Nat) : Ones (gs.take m ++ us ++ gs.drop n) := by
  intro u hu
  simp only [List.mem_append] at hu
  rcases hu with (hu | hu) | hu
  · exact h u (List.mem_of_mem_take hu)
  · exact h1 u hu
  · exact h u (List.mem_of_mem_drop hu)
theorem store_box {s : Ms} {w : World} (hW : Wd s w) {h off b sz : Nat} {cs vs : List AV} {us : List Value} (hC : s.C h = .box cs) (hr : s.ρ h = .at b sz) (hl : off + vs.length ≤ cs.length) (hv : L2 (V s) vs us) (h1 : ∀ u ∈ us, one u = true) :
    ∃ w', (storeCells ⟨b, off, none⟩ us 0).run P w = .ok () w' ∧ Wd (s.put h (.at b sz) (.box (splice cs off vs))) w' ∧ Stp s w (s.put h (.at b sz) (.box (splice cs off vs))) w' := by
  obtain ⟨o, ho, hO⟩ := hW.obj _ _ _ hr
  rw [hC] at hO
  obtain ⟨gs, e, rfl, hsz, hon, h2⟩ := hO
  obtain ⟨w', hrun, a1, a2, a3, a4, a5, a6⟩ := run_storeCells (P := P) us 0 off gs w ho h1 (by rw [← hv.1, ← h2.1]; omega)
  have hf : Fate s (s.put h (.at b sz) (.box (splice cs off vs))) h := .same (by rw [put_ρ, hr]) (by rw [put_C, hC]; trivial)
  refine ⟨w', hrun, Wd.put hW (fun _ => hf) a1 a2 a3 (by omega) (fun k hk hne => a5 k fun e => ?_) (fun b' sz' e => ?_) (fun b' sz' e => ?_)⟩
  · subst e; exact hne _ hr
  · injection e with e1 e2; subst e1; exact .inl ⟨_, hr⟩
  · injection e with e1 e2; subst e1 e2
    have hle : Le s (s.put h (.at b sz) (.box (splice cs off vs))) := Le.put (fun _ => hf)
    refine ⟨_, a6, _, _, rfl, ?_, ones_splice hon h1 _ _, ?_⟩
    · have := h2.1; have := hv.1
      simp only [Nat.add_zero, List.length_append, List.length_take, List.length_drop]
      omega
    · have := (h2.splice hv off).mono fun x g h => h.mono hle
      simpa using this
theorem store_seg {s : Ms} {w : World} (hW : Wd s w) {h off b sz : Nat} {ss ss' : List Sg} {gs us : List Value} {e : TypeId} (hC : s.C h = .seg ss) (hr : s.ρ h = .at b sz) (ho : w.heap[b]? = some (.cells gs.toArray e (0, 0))) (hsz : gs.length = sz) (hon : Ones gs) (hl : off + us.length ≤ gs.length) (h1 : ∀ u ∈ us, one u = true)
    (hS : SegR s ss' (gs.take off ++ us ++ gs.drop (off + us.length))) :
    ∃ w', (storeCells ⟨b, off, none⟩ us 0).run P w = .ok () w' ∧ Wd (s.put h (.at b sz) (.seg ss')) w' ∧ Stp s w (s.put h (.at b sz) (.seg ss')) w' := by
  obtain ⟨w', hrun, a1, a2, a3, a4, a5, a6⟩ := run_storeCells (P := P) us 0 off gs w ho h1 (by omega)
  have hf : Fate s (s.put h (.at b sz) (.seg ss')) h := .same (by rw [put_ρ, hr]) (by rw [put_C, hC]; trivial)
  refine ⟨w', hrun, Wd.put hW (fun _ => hf) a1 a2 a3 (by omega) (fun k hk hne => a5 k fun e => ?_) (fun b' sz' e => ?_) (fun b' sz' e => ?_)⟩
  · subst e; exact hne _ hr
  · injection e with e1 e2; subst e1; exact .inl ⟨_, hr⟩
  · injection e with e1 e2; subst e1 e2
    have hle : Le s (s.put h (.at b sz) (.seg ss')) := Le.put (fun _ => hf)
    refine ⟨_, a6, _, _, rfl, ?_, ones_splice hon h1 _ _, ?_⟩
    · simp only [Nat.add_zero, List.length_append, List.length_take, List.length_drop]
      omega
    · have := hS.mono hle
      simpa using this
def xStore (L : Fr) (H : List AO) (A : List (List AV)) (T : List (TE P)) (it : Option IK) (t : Nat) (x y : Operand) : Option Got := match rdx L x with
  | some p => (match rdx L y with
    | some v => (match valC v with
      | some vs => (match tget T t with
        | some e => bif Nat.beq vs.length e.sz && onesA vs then (match p with
          | .ref h off => (match hget H h with
            | .box cs => (match it with
              | some (.box ds) => some (⟨.v undef, [(h, .box ds)], none, [], false⟩, some (off + vs.length ≤ cs.length ∧ splice cs off vs = ds), [])
              | _ => bif Nat.ble (off + vs.length) cs.length then some (⟨.v undef, [(h, .box (splice cs off vs))], none, [], false⟩, none, []) else none)
            | .seg ss => (match it with
              | some (.sgu j e r x ys) => (match segA ss j with
                | some (b, k, n, xs) => bif Nat.ble (r + vs.length) k && pureA.pureL vs then some (⟨.v undef, [(h, .seg (segP ss j ys))], none, [], false⟩, some (xs[e]? = some x ∧ xs.set e (splice x r vs) = ys), [(off, b + e * k + r)]) else none
                | none => none)
              | _ => (match segS ss off vs with
                | some ss' => bif Nat.blt 0 vs.length then some (⟨.v undef, [(h, .seg ss')], none, [], false⟩, none, []) else none
                | none => none))
            | _ => none)
          | .el h n j r => (match hget H h with
            | .arr z e' k n' xs => bif Nat.ble (r + vs.length) k && pureA.pureL vs then (match it with
              | some (.upd ocs ys) => some (⟨.v undef, [(h, .arr z e' k n' ys)], none, [], false⟩, some (xs[j]? = some ocs ∧ xs.set j (splice ocs r vs) = ys), [(n, n')])
              | _ => none) else none
            | _ => none)
          | .nd (some i) off => (match it with
            | some (.upd ocs B) => bif Nat.ble (off + vs.length) ocs.length && (vs.map nrmA).all clnA then some (⟨.v undef, [], some B, [], true⟩, some (A[i]? = some ocs ∧ A.set i (splice ocs off (vs.map nrmA)) = B), []) else none
            | _ => none)
          | _ => none) else none
        | none => none)
      | none => none)
    | none => none)
  | none => none
theorem store_arr {s : Ms} {w : World} (hW : Wd s w) {h j r b sz te k n : Nat} {z : Bool} {xs : List (List AV)} {ocs vs : List AV} {us : List Value} (hC : s.C h = .arr z te k n xs) (hr : s.ρ h = .at b sz) (hx : xs[j]? = some ocs) (hl : r + vs.length ≤ k)
    (hv : L2 (VI s.J) vs us) (h1 : ∀ u ∈ us, one u = true) :
    ∃ w', (storeCells ⟨b, j * k + r, none⟩ us 0).run P w = .ok () w' ∧ Wd (s.put h (.at b sz) (.arr z te k n (xs.set j (splice ocs r vs)))) w' ∧ Stp s w (s.put h (.at b sz) (.arr z te k n (xs.set j (splice ocs r vs)))) w' := by
  obtain ⟨o, ho, hO⟩ := hW.obj _ _ _ hr
  rw [hC] at hO
  obtain ⟨gs, cap, rfl, hon, hsz, hcap, hmax, hn, hk0, hlen, hk, hV⟩ := hO
  have hj : j < n := by rw [← hlen]; exact (List.getElem?_eq_some_iff.1 hx).1
  have hol := hk _ _ hx
  have hb1 : j * k + k ≤ gs.length := by
    have e1 : (j + 1) * k ≤ cap * k := Nat.mul_le_mul_right k (by omega)
    have e2 : (j + 1) * k = j * k + k := Nat.succ_mul j k
    omega
  have hvl := hv.1
  obtain ⟨w', hrun, a1, a2, a3, a4, a5, a6⟩ := run_storeCells (P := P) us 0 (j * k + r) gs w ho h1 (by omega)
  have hf : Fate s (s.put h (.at b sz) (.arr z te k n (xs.set j (splice ocs r vs)))) h := .same (by rw [put_ρ, hr]) (by rw [put_C, hC]; exact ⟨id, rfl, rfl, rfl⟩)
  refine ⟨w', hrun, Wd.put hW (fun _ => hf) a1 a2 a3 (by omega) (fun k hk hne => a5 k fun e => ?_) (fun b' sz' e => ?_) (fun b' sz' e => ?_)⟩
  · subst e; exact hne _ hr
  · injection e with e1 e2; subst e1; exact .inl ⟨_, hr⟩
  · injection e with e1 e2; subst e1 e2
    have hgl : (gs.take (j * k + r + 0) ++ us ++ gs.drop (j * k + r + 0 + us.length)).length = gs.length := by
      simp only [List.length_append, List.length_take, List.length_drop]; omega
    have hones : Ones ((gs.take (j * k + r + 0) ++ us ++ gs.drop (j * k + r + 0 + us.length)).take (n * k)) := by
      have e1 : (j + 1) * k ≤ n * k := Nat.mul_le_mul_right k (by omega)
      have e2 : (j + 1) * k = j * k + k := Nat.succ_mul j k
      intro u hu
      obtain ⟨m, hm⟩ := List.getElem?_of_mem hu
      rw [List.getElem?_take] at hm
      split at hm
      · rename_i hmn
        rw [List.getElem?_append, List.getElem?_append] at hm
        simp only [List.length_append, List.length_take] at hm
        by_cases c1 : m < j * k + r
        · rw [if_pos (by omega), if_pos (by omega), List.getElem?_take, if_pos (by omega)] at hm
          exact hon u (List.mem_of_getElem? (i := m) (by rw [List.getElem?_take, if_pos hmn]; exact hm))
        · by_cases c2 : m < j * k + r + us.length
          · rw [if_pos (by omega), if_neg (by omega)] at hm
            exact h1 u (List.mem_of_getElem? hm)
          · rw [if_neg (by omega), List.getElem?_drop] at hm
            exact hon u (List.mem_of_getElem? (i := m) (by rw [List.getElem?_take, if_pos hmn]; rw [← hm]; congr 1; omega))
      · cases hm
    refine ⟨_, a6, _, cap, rfl, hones, by rw [hgl]; exact hsz, hcap, hmax, hn, hk0, by simp [hlen], ?_, ?_⟩
    · intro i x hi
      rw [List.getElem?_set] at hi
      split at hi
      · split at hi
        · cases hi
          simp only [splice, List.length_append, List.length_take, List.length_drop]; omega
        · cases hi
      · exact hk i x hi
    · intro i x m y g hi hy hg
      simp only [Nat.add_zero] at hg
      show VI s.J y g
      rw [List.getElem?_set] at hi
      by_cases hji : j = i
      · rw [if_pos hji] at hi; subst hji
        rw [if_pos (by omega)] at hi; cases hi
        have hm : m < k := by
          have := (List.getElem?_eq_some_iff.1 hy).1
          simp only [splice, List.length_append, List.length_take, List.length_drop] at this; omega
        simp only [splice] at hy
        rw [List.getElem?_append, List.getElem?_append] at hy hg
        simp only [List.length_append, List.length_take] at hy hg
        by_cases c1 : m < r
        · rw [if_pos (by omega), if_pos (by omega)] at hy hg
          rw [List.getElem?_take, if_pos (by omega)] at hy hg
          exact hV _ _ _ _ _ hx hy hg
        · by_cases c2 : m < r + vs.length
          · rw [if_pos (by omega), if_neg (by omega)] at hy hg
            refine hv.2 (m - r) y g ?_ ?_
            · rw [show m - r = m - min r ocs.length by omega]; exact hy
            · rw [show m - r = j * k + m - min (j * k + r) gs.length by omega]; exact hg
          · rw [if_neg (by omega)] at hy hg
            rw [List.getElem?_drop] at hy hg
            refine hV _ _ m y g hx ?_ ?_
            · rw [show r + vs.length + (m - (min r ocs.length + vs.length)) = m by omega] at hy; exact hy
            · rw [show j * k + r + us.length + (j * k + m - (min (j * k + r) gs.length + us.length)) = j * k + m by omega] at hg; exact hg
      · rw [if_neg hji] at hi
        have hkx := hk _ _ hi
        have hm : m < k := by rw [← hkx]; exact (List.getElem?_eq_some_iff.1 hy).1
        have hlt : i * k + m < j * k + r ∨ j * k + r + us.length ≤ i * k + m := by
          rcases Nat.lt_or_gt_of_ne hji with c | c
          · right
            have e1 : (j + 1) * k ≤ i * k := Nat.mul_le_mul_right k (by omega)
            have e2 : (j + 1) * k = j * k + k := Nat.succ_mul j k
            omega
          · left
            have e1 : (i + 1) * k ≤ j * k := Nat.mul_le_mul_right k (by omega)
            have e2 : (i + 1) * k = i * k + k := Nat.succ_mul i k
            omega
        refine hV _ _ m y g hi hy ?_
        rw [List.getElem?_append, List.getElem?_append] at hg
        simp only [List.length_append, List.length_take] at hg
        rcases hlt with c | c
        · rw [if_pos (by omega), if_pos (by omega), List.getElem?_take, if_pos (by omega)] at hg; exact hg
        · rw [if_neg (by omega), List.getElem?_drop] at hg
          rw [show j * k + r + us.length + (i * k + m - (min (j * k + r) gs.length + us.length)) = i * k + m by omega] at hg; exact hg
theorem run_storeAt {t : TypeId} {a : Addr} {v : Value} {us : List Value} {w w' : World} {sz : Nat} (hs : SZ P t sz) (hu : v.cells.toList = us) (hl : us.length = sz) (hr : (storeCells a us 0).run P w = .ok () w') :
    (Instr.storeAt t (.pointer (some a)) v).run P w = .ok () w' := by
  subst hu
  have h0 : v.cells.size = sz := by simpa using hl
  simp [Instr.storeAt, Instr.sureAddr, storeVar, Sem.run_bind, hs w, h0, hr]
theorem e_store {t : TypeId} {ad : Addr} {a : Act} {v : Value} {us : List Value} {w w' : World} {sz : Nat} (hx : a.eval x = .pointer (some ad)) (hy : a.eval y = v) (hs : SZ P t sz) (hu : v.cells.toList = us) (hl : us.length = sz)
    (hr : (storeCells ad us 0).run P w = .ok () w') : (execOp a.eval ⟨dst, .store t x y, ty, pos, af, gd⟩).run P w = .ok .skip w' := by
  simp only [execOp, hx, hy]
  rw [Sem.run_bind, run_storeAt hs hu hl hr]; rfl
theorem Post.undef {s : Ms} : V s (.v undef) undef := .im (.v _)
theorem xStore_ok {t : Nat} (h : xStore L H A T it t x y = some q) (hq : okg q) : Sim P ⟨dst, .store t x y, ty, pos, af, gd⟩ L H A q.1 := by
  unfold xStore at h
  split at h
  · rename_i p hp
    split at h
    · rename_i v hv
      split at h
      · rename_i vs hvs
        split at h
        · rename_i e he
          have h0 := condE' h
          clear h
          obtain ⟨h1, h⟩ := h0
          simp only [Bool.and_eq_true] at h1
          have hlen := Nat.eq_of_beq_eq_true h1.1
          have hones := h1.2
          cases p <;> try (cases h; done)
          case ref hh off =>
            simp only at h
            split at h
            · rename_i cs hc
              have main : ∀ ds, off + vs.length ≤ cs.length → splice cs off vs = ds → Sim P ⟨dst, .store t x y, ty, pos, af, gd⟩ L H A ⟨.v undef, [(hh, .box ds)], none, [], false⟩ := by
                rintro ds h2 rfl
                refine Sim.skip fun s w a hpre => ?_
                have hV := hpre.get (x := y) (by simp [Op.operands]) hv
                have hP := hpre.get (x := x) (by simp [Op.operands]) hp
                have hb := hpre.up _ (List.mem_singleton.2 rfl)
                have hlt : hh < H.length := by
                  rcases Nat.lt_or_ge hh H.length with c | c
                  · exact c
                  · simp [hget, List.getD, List.getElem?_eq_none c] at hc
                have hC := (hb.1 hlt).trans hc
                obtain ⟨b, sz, hr, ea⟩ := hP.refE hC
                have hL := valC_ok hV hvs
                obtain ⟨w', hrun, hres⟩ := store_box (P := P) hpre.wd hC hr h2 hL (hL.ones hones)
                exact ⟨_, w', e_store ea rfl (tget_s he) rfl (by rw [← hL.1]; exact hlen) hrun, Post.put rfl hres Post.undef⟩
              split at h
              · rename_i ds
                cases h
                obtain ⟨p1, p2⟩ := hq.1 _ rfl
                exact main _ p1 p2
              · have h0 := condE' h
                clear h
                obtain ⟨h2, h⟩ := h0
                cases h
                exact main _ (Nat.le_of_ble_eq_true h2) rfl
            · rename_i ss hc
              have main : ∀ ss' fp, fp = ([] : List Nat) → (∀ s gs us, SegR s ss gs → L2 (V s) vs us → off + us.length ≤ gs.length ∧ SegR s ss' (gs.take off ++ us ++ gs.drop (off + us.length))) → Sim P ⟨dst, .store t x y, ty, pos, af, gd⟩ L H A ⟨.v undef, [(hh, .seg ss')], none, fp, false⟩ := by
                rintro ss' fp rfl hseg
                refine Sim.skip fun s w a hpre => ?_
                have hV := hpre.get (x := y) (by simp [Op.operands]) hv
                have hP := hpre.get (x := x) (by simp [Op.operands]) hp
                have hb := hpre.up _ (List.mem_singleton.2 rfl)
                have hlt : hh < H.length := by
                  rcases Nat.lt_or_ge hh H.length with c | c
                  · exact c
                  · simp [hget, List.getD, List.getElem?_eq_none c] at hc
                have hC := (hb.1 hlt).trans hc
                obtain ⟨b, sz, hr, ea⟩ := hP.refB (by rw [hC]; rfl)
                have hL := valC_ok hV hvs
                obtain ⟨o, ho, hO⟩ := hpre.wd.obj _ _ _ hr
                rw [hC] at hO
                obtain ⟨gs, te, rfl, hsz, hon, h2⟩ := hO
                obtain ⟨m1, m2⟩ := hseg s gs _ h2 hL
                obtain ⟨w', hrun, hres⟩ := store_seg (P := P) hpre.wd hC hr ho hsz hon m1 (hL.ones hones) m2
                exact ⟨_, w', e_store ea rfl (tget_s he) rfl (by rw [← hL.1]; exact hlen) hrun, Post.put rfl hres Post.undef⟩
              split at h
              · rename_i j e r x0 ys
                split at h
                · rename_i b k n xs hA
                  have h0 := condE' h
                  clear h
                  obtain ⟨h2, h⟩ := h0
                  simp only [Bool.and_eq_true] at h2
                  cases h
                  obtain ⟨hx, rfl⟩ := hq.1 _ rfl
                  have hoff := hq.2 _ (List.mem_singleton.2 rfl)
                  simp only at hoff
                  refine main _ _ rfl fun s gs us hS hL => ?_
                  obtain ⟨p0, us0, t0, rfl, hpl, hAr, hP⟩ := segA_ok hS hA
                  obtain ⟨m1, m2⟩ := hAr.set hx (Nat.le_of_ble_eq_true h2.1) (hL.pure h2.2)
                  rw [hoff, ← hpl, Nat.add_assoc p0.length]
                  refine ⟨by simp only [List.length_append]; omega, ?_⟩
                  rw [seg_set m1]
                  exact hP _ _ (by simp only [List.length_append, List.length_take, List.length_drop]; omega) m2
                · cases h
              · split at h
                · rename_i ss' hSs
                  have h0 := condE' h
                  clear h
                  obtain ⟨h2, h⟩ := h0
                  cases h
                  refine main _ _ rfl fun s gs us hS hL => ?_
                  obtain ⟨m1, m2⟩ := segS_ok hS hL hSs
                  have h3 := nblt0 h2
                  refine ⟨m1.resolve_left fun e => ?_, m2⟩
                  have := hL.1
                  rw [e] at this
                  simp at this
                  rw [this] at h3; simp at h3
                · cases h
            · cases h
          case el hh n j r =>
            simp only at h
            split at h
            · rename_i z te k n' xs hc
              have h0 := condE' h
              clear h
              obtain ⟨h2, h⟩ := h0
              simp only [Bool.and_eq_true] at h2
              have h3 := Nat.le_of_ble_eq_true h2.1
              split at h
              · rename_i ocs ys
                cases h
                obtain ⟨hx, rfl⟩ := hq.1 _ rfl
                have hn := hq.2 _ (List.mem_singleton.2 rfl)
                simp only at hn; subst hn
                refine Sim.skip fun s w a hpre => ?_
                have hV := hpre.get (x := y) (by simp [Op.operands]) hv
                have hP := hpre.get (x := x) (by simp [Op.operands]) hp
                have hb := hpre.up _ (List.mem_singleton.2 rfl)
                have hlt : hh < H.length := by
                  rcases Nat.lt_or_ge hh H.length with c | c
                  · exact c
                  · simp [hget, List.getD, List.getElem?_eq_none c] at hc
                have hC := (hb.1 hlt).trans hc
                obtain ⟨b, sz, hr, ea⟩ := hP.elE hC
                have hL := valC_ok hV hvs
                obtain ⟨w', hrun, hres⟩ := store_arr (P := P) hpre.wd hC hr hx h3 (hL.pure h2.2) (hL.ones hones)
                exact ⟨_, w', e_store ea rfl (tget_s he) rfl (by rw [← hL.1]; exact hlen) hrun, Post.put rfl hres Post.undef⟩
              · cases h
            · cases h
          case nd i off =>
            cases i with
            | none => cases h
            | some i =>
            simp only at h
            split at h
            · rename_i ocs B
              have h0 := condE' h
              clear h
              obtain ⟨h2, h⟩ := h0
              simp only [Bool.and_eq_true] at h2
              have h9 := h2.2
              have h2 := Nat.le_of_ble_eq_true h2.1
              cases h
              obtain ⟨hx, rfl⟩ := hq.1 _ rfl
              refine Sim.skip fun s w a hpre => ?_
              have hV := hpre.get (x := y) (by simp [Op.operands]) hv
              have hP := hpre.get (x := x) (by simp [Op.operands]) hp
              have hA := hpre.ar (.inl rfl)
              obtain ⟨b, hb, ea⟩ := hP.ndE
              obtain ⟨gs, te, cs, ho, hon, hAi, hl⟩ := hpre.wd.node _ _ hb
              rw [hA, hx] at hAi; cases hAi
              have hL := valC_ok hV hvs
              have hLn := nrmL_ok hL
              have hu1 := hL.1
              have hu2 := hl.1
              obtain ⟨w', hrun, a1, a2, a3, a4, a5, a6⟩ := run_storeCells (P := P) (a.eval y).cells.toList 0 off gs w ho (hL.ones hones) (by omega)
              have hres := Wd.setNode (w' := w') hpre.wd hb a1 a2 a3 (by omega) a5 a6 (ones_splice hon (hL.ones hones) _ _) (by simpa using hl.splice hLn off) (fun x hx' => by
                simp only [splice, List.mem_append] at hx'
                rcases hx' with (hx' | hx') | hx'
                · exact hpre.wd.cln _ (List.mem_of_getElem? (by rw [hA]; exact hx)) _ (List.mem_of_mem_take hx')
                · exact List.all_eq_true.1 h9 x hx'
                · exact hpre.wd.cln _ (List.mem_of_getElem? (by rw [hA]; exact hx)) _ (List.mem_of_mem_drop hx'))
              refine ⟨_, w', e_store ea rfl (tget_s he) rfl (by rw [← hL.1]; exact hlen) hrun, ⟨hres.1, hres.2, fun _ => rfl, by simp [hA], fun _ _ => rfl, Post.undef⟩⟩
            · cases h
        · cases h
      · cases h
    · cases h
  · cases h
end

section
variable {P : Program} {L : Fr} {H : List AO} {A : List (List AV)} {T : List (TE P)} {it : Option IK}
variable {dst : Option Tmp} {ty : TypeId} {pos : String} {af : Array Edge} {gd : Option (Nat × Bool)} {x y z : Operand} {q : Got}
theorem Wd.new {s : Ms} {w : World} (hW : Wd s w) {h sz : Nat} {o : AO} {ob : Obj} (hu : s.ρ h = .unborn) (hO : ∀ s', Le s s' → OR s' o sz ob) :
    Wd (s.put h (.at w.heap.size sz) o) { w with heap := w.heap.push ob } ∧ Stp s w (s.put h (.at w.heap.size sz) o) { w with heap := w.heap.push ob } := by
  refine Wd.put (w' := { w with heap := w.heap.push ob }) hW (fun e => absurd hu e) rfl rfl rfl (by simp) (fun b hb _ => by rw [Array.getElem?_push, if_neg (by omega)]) (fun b sz' e => ?_) (fun b sz' e => ?_)
  · injection e with e1 e2; subst e1; exact .inr (Nat.le_refl _)
  · injection e with e1 e2; subst e1 e2
    exact ⟨ob, by simp, hO _ (Le.put fun e => absurd hu e)⟩
def newC (H : List AO) (A : List (List AV)) (it : Option IK) (cs : List AV) : Got := match it with
  | some (.node n B) => bif (cs.map nrmA).all clnA then (⟨.nd (some n) 0, [], some B, [], true⟩, some (A.length = n ∧ A ++ [cs.map nrmA] = B), []) else (⟨.ref H.length 0, [(H.length, .box cs)], none, [], false⟩, none, [])
  | some (.seg ss) => bif segB ss then (⟨.ref H.length 0, [(H.length, .seg ss)], none, [], false⟩, some (segF ss = cs), []) else (⟨.ref H.length 0, [(H.length, .box cs)], none, [], false⟩, none, [])
  | _ => (⟨.ref H.length 0, [(H.length, .box cs)], none, [], false⟩, none, [])
theorem newB_ok {o : Oper} {cs : List AV} {te : TypeId} (hrun : ∀ s w a, Pre s w L H A o a ⟨.ref H.length 0, [(H.length, .box cs)], none, [], false⟩ → ∃ gs, Ones gs ∧ L2 (V s) cs gs ∧ (execOp a.eval o).run P w = .ok (.value (.pointer (some ⟨w.heap.size, 0, none⟩))) { w with heap := w.heap.push (.cells gs.toArray te (0, 0)) }) :
    Sim P o L H A ⟨.ref H.length 0, [(H.length, .box cs)], none, [], false⟩ := by
  have hu : ∀ s w a, Pre s w L H A o a ⟨.ref H.length 0, [(H.length, .box cs)], none, [], false⟩ → s.ρ H.length = .unborn := fun s w a hp => (hp.up _ (List.mem_singleton.2 rfl)).2 (Nat.le_refl _)
  refine Sim.run fun s w a hp => ?_
  obtain ⟨gs, hon, hl, hx⟩ := hrun s w a hp
  have := Wd.new (sz := gs.length) (o := .box cs) (ob := .cells gs.toArray te (0, 0)) hp.wd (hu s w a hp) fun s' hle => ⟨gs, te, rfl, rfl, hon, hl.mono fun x g h => h.mono hle⟩
  exact ⟨_, _, _, hx, Post.put rfl this (.ref put_ρ (by rw [put_C]; rfl))⟩
theorem newC_ok {o : Oper} {cs : List AV} {te : TypeId} (hq : okg (newC H A it cs))
    (hrun : ∀ s w a, Pre s w L H A o a (newC H A it cs).1 → ∃ gs, Ones gs ∧ L2 (V s) cs gs ∧ (execOp a.eval o).run P w = .ok (.value (.pointer (some ⟨w.heap.size, 0, none⟩))) { w with heap := w.heap.push (.cells gs.toArray te (0, 0)) }) :
    Sim P o L H A (newC H A it cs).1 := by
  unfold newC at hq hrun ⊢
  cases it with
  | none => exact newB_ok hrun
  | some ik =>
    cases ik <;> try exact newB_ok hrun
    · rename_i n B
      simp only at hq hrun ⊢
      cases hcl : (cs.map nrmA).all clnA
      · rw [hcl] at hrun
        exact newB_ok hrun
      rw [hcl] at hrun hq
      simp only [cond_true] at hrun hq ⊢
      obtain ⟨hN, hB⟩ := hq.1 _ rfl
      refine Sim.run fun s w a hp => ?_
      obtain ⟨gs, hon, hl, hx⟩ := hrun s w a hp
      have hA := hp.ar (.inl rfl)
      have := Wd.addNode (e := te) hp.wd hon (nrmL_ok hl) (List.all_eq_true.1 hcl)
      refine ⟨_, _, _, hx, ⟨this.1, this.2, fun _ => rfl, ?_, fun _ _ => rfl, ?_⟩⟩
      · simp only [Option.getD_some]; rw [hA]; exact hB
      · refine .nd ?_
        rw [← hN, ← hA, ← hp.wd.len]; simp
    · rename_i ss
      simp only at hq hrun ⊢
      cases hb : segB ss
      · rw [hb] at hrun
        exact newB_ok hrun
      · rw [hb] at hrun hq
        simp only [cond_true] at hrun hq ⊢
        have hF := hq.1 _ rfl
        refine Sim.run fun s w a hp => ?_
        have hu := (hp.up _ (List.mem_singleton.2 rfl)).2 (Nat.le_refl _)
        obtain ⟨gs, hon, hl, hx⟩ := hrun s w a hp
        rw [← hF] at hl
        have := Wd.new (sz := gs.length) (o := .seg ss) (ob := .cells gs.toArray te (0, 0)) hp.wd hu fun s' hle => ⟨gs, te, rfl, rfl, hon, (segF_ok hb hl).mono hle⟩
        exact ⟨_, _, _, hx, Post.put rfl this (.ref put_ρ (by rw [put_C]; rfl))⟩
def zeroA (z : Value) : List AV := z.cells.toList.map cst1
theorem zeroA_ok (s : Ms) (z : Value) : L2 (V s) (zeroA z) z.cells.toList := (cstL s.J _).mono fun _ _ h => .im h
def xAlloc (H : List AO) (A : List (List AV)) (T : List (TE P)) (it : Option IK) (t : Nat) : Option Got := match tget T t with
  | some e => bif onesA (zeroA e.zv) then some (newC H A it (zeroA e.zv)) else none
  | none => none
theorem xAlloc_ok {t : Nat} (h : xAlloc H A T it t = some q) (hq : okg q) : Sim P ⟨dst, .alloc t, ty, pos, af, gd⟩ L H A q.1 := by
  unfold xAlloc at h
  split at h
  · rename_i e he
    obtain ⟨h1, h⟩ := condE' h
    cases h
    refine newC_ok (te := t) hq fun s w a hp => ⟨_, (zeroA_ok s e.zv).ones h1, zeroA_ok s e.zv, ?_⟩
    simp only [execOp]
    simp [Instr.alloc, newVar, newRow, newObj, Sem.run_bind, Sem.run, tget_z he w]
  · cases h
def xBox (L : Fr) (H : List AO) (A : List (List AV)) (it : Option IK) (x : Operand) : Option Got := match rdx L x with
  | some v => (match valC v with
    | some cs => bif onesA cs then some (newC H A it cs) else none
    | none => none)
  | none => none
theorem xBox_ok {t : Nat} (h : xBox L H A it x = some q) (hq : okg q) : Sim P ⟨dst, .box t x, ty, pos, af, gd⟩ L H A q.1 := by
  unfold xBox at h
  split at h
  · rename_i v hv
    split at h
    · rename_i cs hc
      obtain ⟨h1, h⟩ := condE' h
      cases h
      refine newC_ok (te := t) hq fun s w a hp => ⟨_, (valC_ok (hp.get (by simp [Op.operands]) hv) hc).ones h1, valC_ok (hp.get (by simp [Op.operands]) hv) hc, ?_⟩
      simp only [execOp]
      simp [Instr.box, newVar, newRow, newObj, Sem.run_bind, Sem.run]
    · cases h
  · cases h

def fillA (pl : Nat → Option (Nat × Nat)) (cs : List AV) : List (Nat × AV) → Option (List AV)
  | [] => some cs
  | (i, v) :: r => (match pl i with
    | some (off, sz) => (match valC v with
      | some vs => bif Nat.beq vs.length sz && Nat.ble (off + sz) cs.length then fillA pl (splice cs off vs) r else none
      | none => none)
    | none => none)
def rdP (L : Fr) : List (Nat × Operand) → Option (List (Nat × AV))
  | [] => some []
  | (i, x) :: r => (match rdx L x with
    | some v => (match rdP L r with
      | some vs => some ((i, v) :: vs)
      | none => none)
    | none => none)
theorem fillA_ok {s : Ms} {pl : Nat → Option (Nat × Nat)} {a : Act} : ∀ {ps : List (Nat × Operand)} {vs : List (Nat × AV)} {cs cs' : List AV} {gs : List Value}, rdP L ps = some vs →
    (∀ p ∈ ps, ∀ y, rdx L p.2 = some y → V s y (a.eval p.2)) → fillA pl cs vs = some cs' → L2 (V s) cs gs →
    ∃ gs', Instr.fill pl gs.toArray (ps.map fun p => (p.1, a.eval p.2)) = some gs'.toArray ∧ L2 (V s) cs' gs'
  | [], vs, cs, cs', gs, h1, _, h2, h3 => by
    cases h1; cases h2; exact ⟨gs, rfl, h3⟩
  | (i, x) :: r, vs, cs, cs', gs, h1, hv, h2, h3 => by
    simp only [rdP] at h1
    split at h1
    · rename_i v hvx
      split at h1
      · rename_i us hus
        cases h1
        simp only [fillA] at h2
        split at h2
        · rename_i off sz hpl
          split at h2
          · rename_i ws hws
            obtain ⟨h4, h2⟩ := condE' h2
            simp only [Bool.and_eq_true] at h4
            have e1 := Nat.eq_of_beq_eq_true h4.1
            have e2 := Nat.le_of_ble_eq_true h4.2
            have hV := valC_ok (hv (i, x) (by simp) v hvx) hws
            obtain ⟨gs', k1, k2⟩ := fillA_ok hus (fun p hp => hv p (by simp [hp])) h2 (h3.splice hV off)
            refine ⟨gs', ?_, k2⟩
            have l1 := hV.1
            have l2 := h3.1
            simp only [List.map_cons, Instr.fill, hpl]
            have hsz : (a.eval x).cells.size = sz := by rw [← e1, l1]; simp
            have hle : ¬ off + (a.eval x).cells.size > gs.toArray.size := by simp only [List.size_toArray]; omega
            simp only [hsz] at hle ⊢
            rw [if_neg (by simpa using hle)]
            rw [← k1]
            congr 1
            apply Array.ext'
            have := setFold (a.eval x).cells.toList 0 off gs.toArray (by simp; omega)
            simp only [Nat.add_zero] at this
            rw [← this]
            congr 1
            rw [← Array.foldl_toList]
            simp
          · cases h2
        · cases h2
      · cases h1
    · cases h1
def xBuild (L : Fr) (T : List (TE P)) (t : Nat) (ps : List (Nat × Operand)) : Option Got := match tget T t with
  | some e => (match e.d with
    | .struct fs => (match rdP L ps with
      | some vs => (match fillA (fun i => match fs.toList[i]? with
          | some f => (match tget T f.type with | some e2 => some (f.offset, e2.sz) | none => none)
          | none => none) (zeroA e.zv) vs with
        | some cs => bif fs.toList.all (fun f => (tget T f.type).isSome) then some (got (.agg cs)) else none
        | none => none)
      | none => none)
    | _ => none)
  | none => none
theorem mapM_sem {α β : Type} {f : α → Sem β} {g : α → β} {w : World} : ∀ {l : List α}, (∀ x ∈ l, (f x).run P w = .ok (g x) w) → (l.mapM f).run P w = .ok (l.map g) w
  | [], _ => rfl
  | x :: r, h => by
    rw [List.mapM_cons, Sem.run_bind, h x (by simp), Result.andThen_ok, Sem.run_bind, mapM_sem (fun y hy => h y (by simp [hy]))]
    rfl
theorem xBuild_ok {t : Nat} {ps : List (Nat × Operand)} (h : xBuild L T t ps = some q) : Sim P ⟨dst, .build t ps.toArray, ty, pos, af, gd⟩ L H A q.1 := by
  unfold xBuild at h
  split at h
  · rename_i e he
    split at h
    · rename_i fs hfs
      have hu := tget_u he
      rw [hfs] at hu
      split at h
      · rename_i vs hvs
        split at h
        · rename_i cs hcs
          obtain ⟨hall, h2⟩ := condE' h
          cases h2
          refine Sim.pure fun s w a hp => ?_
          have hz := zeroA_ok s e.zv
          obtain ⟨gs', k1, k2⟩ := fillA_ok (s := s) (a := a) hvs (fun p hpm y hy => hp.rd p.2 (by simp [Op.operands]; exact ⟨p.1, hpm⟩) y hy) hcs hz
          refine ⟨.agg gs'.toArray, ?_, .agg k2.1 k2.2⟩
          simp only [execOp]
          have e1 : ps.toArray.map (fun p => (p.1, a.eval p.2)) = (ps.map fun p => (p.1, a.eval p.2)).toArray := by simp
          rw [e1]
          have hpl : (fs.mapM fun f => do pure (f.offset, ← sizeOf f.type) : Sem (Array (Nat × Nat))).run P w = .ok (fs.toList.map fun f => (f.offset, ((tget T f.type).map (·.sz)).getD 0)).toArray w := by
            rw [← Array.toArray_toList (xs := fs)]
            rw [List.mapM_toArray]
            show (_ <$> _ : Sem _).run P w = _
            rw [show ∀ (m : Sem (List (Nat × Nat))), (List.toArray <$> m : Sem (Array (Nat × Nat))) = m >>= fun l => pure l.toArray from fun m => rfl]
            rw [Sem.run_bind, mapM_sem (g := fun f => (f.offset, ((tget T f.type).map (·.sz)).getD 0))]
            · simp
            · intro f hf
              have := List.all_eq_true.1 hall f (by simpa using hf)
              obtain ⟨e2, he2⟩ := Option.isSome_iff_exists.1 this
              rw [Sem.run_bind, tget_s he2 w, Result.andThen_ok]
              simp [he2]
          have hb : (Instr.build t (ps.map fun p => (p.1, a.eval p.2)).toArray).run P w = .ok (.agg gs'.toArray) w := by
            unfold Instr.build
            rw [Sem.run_bind, tget_z he w, Result.andThen_ok]
            show ((underlying t >>= _ : Sem Value)).run P w = _
            rw [Sem.run_bind, hu w, Result.andThen_ok]
            show ((_ >>= _ : Sem Value)).run P w = _
            rw [Sem.run_bind, hpl, Result.andThen_ok]
            have hfill : Instr.fill ((fs.toList.map fun f => (f.offset, ((tget T f.type).map (·.sz)).getD 0)).toArray[·]?) e.zv.cells (ps.map fun p => (p.1, a.eval p.2)).toArray.toList = some gs'.toArray := by
              rw [← k1]
              simp only [Array.toArray_toList]
              congr 1
              funext i
              simp only [List.getElem?_toArray, List.getElem?_map]
              cases hf : fs.toList[i]? with
              | none => rfl
              | some f =>
                have := List.all_eq_true.1 hall f (List.mem_of_getElem? hf)
                obtain ⟨e2, he2⟩ := Option.isSome_iff_exists.1 this
                simp [he2]
            simp only [hfill]
            rfl
          rw [Sem.run_bind, hb]; rfl
        · cases h
      · cases h
    · cases h
  · cases h
end

section
variable {P : Program} {L : Fr} {H : List AO} {A : List (List AV)} {T : List (TE P)} {it : Option IK}
variable {dst : Option Tmp} {ty : TypeId} {pos : String} {af : Array Edge} {gd : Option (Nat × Bool)} {x y z : Operand} {q : Got}
def fldA (H : List AO) (v : AV) (off : Nat) : Option (AV × List Nat × List (Nat × Nat)) := match v with
  | .ref h o => some (.ref h (o + off), [], [])
  | .ptr cs => some (.ptr (cs.drop off), [], [])
  | .el h n j r => (match hget H h with | .arr _ _ _ n' _ => some (.el h n j (r + off), [h], [(n, n')]) | _ => none)
  | .nd (some i) o => some (.nd (some i) (o + off), [], [])
  | _ => none
theorem addN (b o k : Nat) : (⟨b, o, none⟩ : Addr).add k = ⟨b, o + k, none⟩ := add_none b o k
theorem fldA_ok {s : Ms} {w : World} {v u : AV} {g : Value} {off : Nat} {fp : List Nat} {eq : List (Nat × Nat)} (h : fldA H v off = some (u, fp, eq)) (hW : Wd s w) (hv : V s v g) (hf : ∀ h ∈ fp, s.C h = hget H h) (he : ∀ e ∈ eq, e.1 = e.2)
    (hcs : ∀ cs, v = .ptr cs → off ≤ cs.length) : ∃ a, g = .pointer (some a) ∧ V s u (.pointer (some (a.add off))) := by
  cases v <;> try (cases h; done)
  case ref hh o =>
    simp only [fldA] at h
    cases h
    obtain ⟨b, rfl, hk⟩ := hv.refP
    refine ⟨_, rfl, ?_⟩
    rw [addN]; exact hk _
  case ptr cs0 =>
    simp only [fldA] at h
    cases h
    have hle := hcs _ rfl
    have := hv.ptrE
    cases this with
    | @ptr cs b o gs hj hb hh =>
      refine ⟨_, rfl, ?_⟩
      rw [addN]
      refine .im (.ptr hj (by simp; omega) fun j y g a b => ?_)
      rw [List.getElem?_drop] at a
      exact hh _ y g a (by rw [← b]; congr 1; omega)
  case el hh n j r =>
    simp only [fldA] at h
    split at h
    · rename_i z te k n' xs hc
      cases h
      have hn := he _ (List.mem_singleton.2 rfl)
      simp only at hn; subst hn
      have hC := (hf hh (by simp)).trans hc
      obtain ⟨b, sz, hr, rfl⟩ := hv.elE hC
      refine ⟨_, rfl, ?_⟩
      rw [addN, Nat.add_assoc]; exact .el hr hC
    · cases h
  case nd i o =>
    cases i with
    | none => cases h
    | some i =>
    simp only [fldA] at h
    cases h
    obtain ⟨b, hb, rfl⟩ := hv.ndE
    refine ⟨_, rfl, ?_⟩
    rw [addN]; exact .nd hb
def lenOk (v : AV) (off : Nat) : Bool := match v with
  | .ptr cs => Nat.ble off cs.length
  | _ => true
def xFA (L : Fr) (H : List AO) (T : List (TE P)) (t : Nat) (x : Operand) (f : Nat) : Option Got := match rdx L x with
  | some v => (match tget T t with
    | some e => (match e.d with
      | .struct fs => (match fs.toList[f]? with
        | some fd => (match tget T fd.type with
          | some e2 => bif !(Nat.beq e2.sz 0) && lenOk v fd.offset then (match fldA H v fd.offset with
            | some (u, fp, eq) => some (⟨u, [], none, fp, false⟩, none, eq)
            | none => none) else none
          | none => none)
        | none => none)
      | _ => none)
    | none => none)
  | none => none
theorem xFA_ok {t f : Nat} (h : xFA L H T t x f = some q) (hq : okg q) : Sim P ⟨dst, .fieldAddr t x f, ty, pos, af, gd⟩ L H A q.1 := by
  unfold xFA at h
  split at h
  · rename_i v hv
    split at h
    · rename_i e he
      split at h
      · rename_i fs hfs
        have hu := tget_u he
        rw [hfs] at hu
        split at h
        · rename_i fd hfd
          split at h
          · rename_i e2 he2
            obtain ⟨h1, h⟩ := condE' h
            simp only [Bool.and_eq_true] at h1
            split at h
            · rename_i u fp eq hf
              cases h
              refine Sim.pure fun s w a hp => ?_
              obtain ⟨ad, e1, e3⟩ := fldA_ok hf hp.wd (hp.get (by simp [Op.operands]) hv) hp.fp hq.2 (fun cs ec => by
                have := h1.2
                rw [ec] at this
                exact Nat.le_of_ble_eq_true this)
              refine ⟨_, e_fieldAddr e1 hu (by simpa using hfd) (tget_s he2) ?_ rfl, e3⟩
              cases hb : Nat.beq e2.sz 0
              · rfl
              · rw [hb] at h1; exact absurd h1.1 (by simp)
            · cases h
          · cases h
        · cases h
      · cases h
    · cases h
  · cases h
def xNilCk (L : Fr) (H : List AO) (it : Option IK) (x : Operand) : Option Got := match rdx L x with
  | some v => (match it with
    | some (.isn i) => (match v with
      | .nd o off => some (⟨.nd (some i) off, [], none, [], false⟩, some (o = some i), [])
      | _ => none)
    | _ => (match isn H v with
      | some (b, k, fp, eq) => bif !b && Nat.beq k 1 then some (⟨v, [], none, fp, false⟩, none, eq) else none
      | none => none))
  | none => none
theorem xNilCk_ok (h : xNilCk L H it x = some q) (hq : okg q) : Sim P ⟨dst, .nilCheck x, ty, pos, af, gd⟩ L H A q.1 := by
  unfold xNilCk at h
  split at h
  · rename_i v hv
    split at h
    · rename_i i
      split at h
      · rename_i o off
        cases h
        have ho := hq.1 _ rfl
        subst ho
        refine Sim.pure fun s w a hp => ?_
        have hV := hp.get (by simp [Op.operands]) hv
        generalize hg : a.eval x = g at *
        obtain ⟨b, hb, rfl⟩ := hV.ndE
        exact ⟨_, e_nilCheckP hg, hV⟩
      · cases h
    · split at h
      · rename_i b k fp eq hi
        obtain ⟨h1, h⟩ := condE' h
        simp only [Bool.and_eq_true] at h1
        have hk := Nat.eq_of_beq_eq_true h1.2
        have hb : b = false := by cases b <;> simp at h1 ⊢
        subst hk hb
        cases h
        refine Sim.pure fun s w a hp => ?_
        have hV := hp.get (by simp [Op.operands]) hv
        have hn := isn_ok hi hV hp.fp hq.2
        generalize hg : a.eval x = g at *
        cases hn
        exact ⟨_, e_nilCheckP hg, hV⟩
      · cases h
  · cases h

def xIxA (L : Fr) (H : List AO) (T : List (TE P)) (it : Option IK) (t : Nat) (x y : Operand) : Option Got := match rdx L y with
  | some (.v (.int _ i)) => (match tget T t with
    | some e => (match e.d with
      | .slice el => (match tget T el with
        | some e2 => (match rdx L x with
          | some (.ro _ k n xs) => (match it with
            | some (.cells j cs) => bif Nat.beq k e2.sz then some (got1 (.ptr cs, some (i = (j : Int) ∧ xs[j]? = some cs))) else none
            | _ => none)
          | some (.sl _ h n off len) => (match hget H h with
            | .arr _ _ k n' _ => bif Nat.beq k e2.sz then some (⟨.el h n (off + i.toNat) 0, [], none, [h], false⟩, some (0 ≤ i ∧ i < (len : Int)), [(n, n')]) else none
            | _ => none)
          | _ => none)
        | none => none)
      | .array m el => (match tget T el with
        | some e2 => (match rdx L x with
          | some (.ref h off) => some (⟨.ref h (off + i.toNat * e2.sz), [], none, [], false⟩, some (0 ≤ i ∧ i < (m : Int)), [])
          | some (.el h n j r) => (match hget H h with
            | .arr _ _ k n' _ => bif Nat.beq k e2.sz then some (⟨.el h n (j + i.toNat) 0, [], none, [h], false⟩, some (0 ≤ i ∧ i < (m : Int)), [(n, n'), (r, 0)]) else none
            | _ => none)
          | _ => none)
        | none => none)
      | _ => none)
    | none => none)
  | _ => none
theorem xIxA_ok {t : Nat} (h : xIxA L H T it t x y = some q) (hq : okg q) : Sim P ⟨dst, .indexAddr t x y, ty, pos, af, gd⟩ L H A q.1 := by
  unfold xIxA at h
  split at h
  · rename_i ik i hy
    split at h
    · rename_i e he
      split at h
      · rename_i el hel
        have hu := tget_u he
        rw [hel] at hu
        split at h
        · rename_i e2 he2
          split at h
          · rename_i c k0 n xs hx
            split at h
            · rename_i j cs
              obtain ⟨h1, h⟩ := condE' h
              cases h
              obtain ⟨hi, hxj⟩ := hq.1 _ rfl
              have hcl := Nat.eq_of_beq_eq_true h1
              refine Sim.pure fun s w a hp => ?_
              have hV := (hp.get (x := x) (by simp [Op.operands]) hx).roE
              have hI := (hp.get (x := y) (by simp [Op.operands]) hy).vE
              generalize hg : a.eval x = g at hV
              cases hV with
              | nil => simp at hxj
              | @ro c n xs b off k cap gs hn hj hb hc hl hk ho hh =>
                have hlt : j < n := by rw [← hn]; exact (List.getElem?_eq_some_iff.1 hxj).1
                have hkl := hk _ _ hxj
                subst hcl
                have e1 : (j + 1) * e2.sz ≤ n * e2.sz := Nat.mul_le_mul_right _ (by omega)
                have e4 : (j + 1) * e2.sz = j * e2.sz + e2.sz := Nat.succ_mul j _
                refine ⟨_, e_idx hg hI hu (tget_s he2) ⟨_, rfl, rfl⟩ ⟨by omega, by omega⟩, ?_⟩
                rw [addN, hi]
                have hb' := hb (by omega)
                refine .im (.ptr hj (by simp only [Int.toNat_natCast]; omega) fun m y g a b => ?_)
                simp only [Int.toNat_natCast] at b
                exact hh j cs m y g hxj a b
            · cases h
          · rename_i c hh n off len hx
            split at h
            · rename_i z te k n' xs hc
              obtain ⟨h1, h⟩ := condE' h
              have hkz := Nat.eq_of_beq_eq_true h1
              cases h
              have hi := hq.1 _ rfl
              have hn := hq.2 _ (List.mem_singleton.2 rfl)
              simp only at hn; subst hn; subst hkz
              refine Sim.pure fun s w a hp => ?_
              have hC := (hp.fp hh (by simp)).trans hc
              obtain ⟨b, sz, cap, o, hr, hl, _, _, _, ho, ea⟩ := ((hp.get (x := x) (by simp [Op.operands]) hx).slE' hC).resolve_right (fun h => by omega)
              have hI := (hp.get (x := y) (by simp [Op.operands]) hy).vE
              have ho' : o = off * e2.sz := by
                rcases ho with ho | ⟨_, ho⟩
                · exact ho
                · omega
              subst ho'
              refine ⟨_, e_idx ea hI hu (tget_s he2) ⟨_, rfl, rfl⟩ hi, ?_⟩
              rw [addN, ← Nat.add_mul]
              have := V.el (s := s) (j := off + i.toNat) (r := 0) hr hC
              exact this
            · cases h
          · cases h
        · cases h
      · rename_i m el hel
        have hu := tget_u he
        rw [hel] at hu
        split at h
        · rename_i e2 he2
          split at h
          · rename_i hh off hx
            cases h
            have hi := hq.1 _ rfl
            refine Sim.pure fun s w a hp => ?_
            obtain ⟨b, ea, hk⟩ := (hp.get (x := x) (by simp [Op.operands]) hx).refP
            have hI := (hp.get (x := y) (by simp [Op.operands]) hy).vE
            exact ⟨_, e_aidx ea hI hu (tget_s he2) hi, hk _⟩
          · rename_i hh n j r hx
            split at h
            · rename_i z te k n' xs hc
              have h0 := condE' h
              clear h
              obtain ⟨h1, h⟩ := h0
              have hkz := Nat.eq_of_beq_eq_true h1
              cases h
              have hi := hq.1 _ rfl
              have hn := hq.2 (n, n') (by simp)
              have hr0 := hq.2 (r, 0) (by simp)
              simp only at hn hr0; subst hn hr0 hkz
              refine Sim.pure fun s w a hp => ?_
              have hC := (hp.fp hh (by simp)).trans hc
              obtain ⟨b, sz, hr, ea⟩ := (hp.get (x := x) (by simp [Op.operands]) hx).elE hC
              have hI := (hp.get (x := y) (by simp [Op.operands]) hy).vE
              refine ⟨_, e_aidx ea hI hu (tget_s he2) hi, ?_⟩
              rw [Nat.add_zero, ← Nat.add_mul]
              have := V.el (s := s) (j := j + i.toNat) (r := 0) hr hC
              exact this
            · cases h
          · cases h
        · cases h
      · cases h
    · cases h
  · cases h
def xIx (L : Fr) (T : List (TE P)) (it : Option IK) (t : Nat) (x y : Operand) : Option Got := match rdx L y with
  | some (.v (.int _ i)) => (match tget T t with
    | some e => (match e.d with
      | .string => (match rdx L x with
        | some (.v (.string b)) => some (got1 (.v (.int .u8 (sb b i)), some (0 ≤ i ∧ i < (b.size : Int))))
        | _ => none)
      | .array m el => (match tget T el with
        | some e2 => (match rdx L x with
          | some (.agg cs) => (match it with
            | some (.cells j [v]) => bif !e2.ag && Nat.beq e2.sz 1 then some (got1 (v, some (i = (j : Int) ∧ j < m ∧ cs[j]? = some v))) else none
            | _ => none)
          | _ => none)
        | none => none)
      | _ => none)
    | none => none)
  | _ => none
theorem e_arrIx {t e : TypeId} {m : Nat} {gs : List Value} {i : Int} {k' : IntKind} {a : Act} {v : Value} {w : World} (hx : a.eval x = .agg gs.toArray) (hy : a.eval y = .int k' i) (hu : UT P t (.array m e)) (hA : AG P e false) (hs : SZ P e 1)
    (h0 : 0 ≤ i) (h1 : i < m) (hv : gs[i.toNat]? = some v) : (execOp a.eval ⟨dst, .index t x y, ty, pos, af, gd⟩).run P w = .ok (.value v) w := by
  simp only [execOp, hx, hy]
  simp [Instr.index, asIntOf, part, Sem.run_bind, hu w, hA w, hs w, h0, h1, hv]
theorem xIx_ok {t : Nat} (h : xIx L T it t x y = some q) (hq : okg q) : Sim P ⟨dst, .index t x y, ty, pos, af, gd⟩ L H A q.1 := by
  unfold xIx at h
  split at h
  · rename_i ik i hy
    split at h
    · rename_i e he
      have hu := tget_u he
      split at h
      · rename_i hd
        rw [hd] at hu
        split at h
        · rename_i b hx
          cases h
          have hi := hq.1 _ rfl
          exact Sim.pure fun s w a hp => ⟨_, e_indexs (hp.get (x := x) (by simp [Op.operands]) hx).vE (hp.get (x := y) (by simp [Op.operands]) hy).vE hu hi, .im (.v _)⟩
        · cases h
      · rename_i m el hd
        rw [hd] at hu
        split at h
        · rename_i e2 he2
          split at h
          · rename_i cs hx
            split at h
            · rename_i j v
              obtain ⟨h1, h⟩ := condE' h
              simp only [Bool.and_eq_true] at h1
              cases h
              obtain ⟨hi, hm, hc⟩ := hq.1 _ rfl
              refine Sim.pure fun s w a hp => ?_
              obtain ⟨gs, eg, hl⟩ := (hp.get (x := x) (by simp [Op.operands]) hx).aggE
              obtain ⟨g, hg, hr⟩ := hl.get hc
              have hag : e2.ag = false := by have := h1.1; simpa using this
              exact ⟨g, e_arrIx eg (hp.get (x := y) (by simp [Op.operands]) hy).vE hu (hag ▸ tget_a he2) (Nat.eq_of_beq_eq_true h1.2 ▸ tget_s he2) (by omega) (by omega) (by rw [hi]; exact hg), hr⟩
            · cases h
          · cases h
        · cases h
      · cases h
    · cases h
  · cases h
end

section
variable {P : Program} {L : Fr} {H : List AO} {A : List (List AV)} {T : List (TE P)} {it : Option IK}
variable {dst : Option Tmp} {ty : TypeId} {pos : String} {af : Array Edge} {gd : Option (Nat × Bool)} {x y z : Operand} {q : Got}
def xLen (L : Fr) (H : List AO) (T : List (TE P)) (t : Nat) (x : Operand) : Option Got := match tget T t with
  | some e => (match e.d with
    | .slice _ => (match rdx L x with
      | some (.ro _ _ n _) => some (got (.v (.int .i64 n)))
      | some (.v (.slice none 0 0)) => some (got (.v (.int .i64 0)))
      | some (.sl _ h n _ len) => (match hget H h with
        | .arr _ _ _ n' _ => some (⟨.v (.int .i64 len), [], none, [h], false⟩, none, [(n, n')])
        | _ => none)
      | _ => none)
    | .string => (match rdx L x with
      | some (.v (.string s)) => some (got (.v (.int .i64 s.size)))
      | _ => none)
    | _ => none)
  | none => none
theorem slLen {s : Ms} {c h n off len e k : Nat} {z : Bool} {xs : List (List AV)} {g : Value} (H : V s (.sl c h n off len) g) (hC : s.C h = .arr z e k n xs) : ∃ a cap, g = .slice a len cap := by
  rcases H.slE' hC with ⟨b, sz, cap, o, _, _, _, _, _, _, rfl⟩ | ⟨_, _, _, _, rfl, rfl⟩
  · exact ⟨_, _, rfl⟩
  · exact ⟨_, _, rfl⟩
theorem roLen {J : Imm} {c : Bool} {k n : Nat} {xs : List (List AV)} {g : Value} (H : VI J (.ro c k n xs) g) : ∃ a cap, g = .slice a n cap := by cases H <;> exact ⟨_, _, rfl⟩
theorem e_len {t : TypeId} {a : Act} {w : World} {v : Value} (hr : (builtin .len #[t] ty (([x] : List Operand).map fun | .const _ => true | _ => false).toArray [a.eval x].toArray).run P w = .ok (.value v) w) :
    (execOp a.eval ⟨dst, .call { callee := .builtin .len, args := #[x], argTypes := #[t] }, ty, pos, af, gd⟩).run P w = .ok (.value v) w := e_builtin (xs := [x]) (.cons rfl .nil) hr
theorem xLen_ok {t : Nat} (h : xLen L H T t x = some q) (hq : okg q) : Sim P ⟨dst, .call { callee := .builtin .len, args := #[x], argTypes := #[t] }, ty, pos, af, gd⟩ L H A q.1 := by
  have hm : ∀ {o : Op}, o = .call { callee := .builtin .len, args := #[x], argTypes := #[t] } → x ∈ o.operands.toList := by rintro o rfl; simp [Op.operands, Call.operands]
  unfold xLen at h
  split at h
  · rename_i e he
    have hu := tget_u he
    split at h
    · rename_i el hd
      rw [hd] at hu
      split at h
      · rename_i c k n xs hx
        cases h
        refine Sim.pure fun s w a hp => ?_
        obtain ⟨ad, cap, eg⟩ := roLen (hp.get (x := x) (hm rfl) hx).roE
        exact ⟨_, e_len (by rw [eg]; exact r_lens hu), .im (.v _)⟩
      · rename_i hx
        cases h
        refine Sim.pure fun s w a hp => ?_
        have eg := (hp.get (x := x) (hm rfl) hx).vE
        exact ⟨_, e_len (by rw [eg]; exact r_lens hu), .im (.v _)⟩
      · rename_i c hh n off len hx
        split at h
        · rename_i z te k n' xs hc
          cases h
          have hn := hq.2 _ (List.mem_singleton.2 rfl)
          simp only at hn; subst hn
          refine Sim.pure fun s w a hp => ?_
          obtain ⟨ad, cap, eg⟩ := slLen (hp.get (x := x) (hm rfl) hx) ((hp.fp hh (by simp)).trans hc)
          exact ⟨_, e_len (by rw [eg]; exact r_lens hu), .im (.v _)⟩
        · cases h
      · cases h
    · rename_i hd
      rw [hd] at hu
      split at h
      · rename_i b hx
        cases h
        refine Sim.pure fun s w a hp => ?_
        have eg := (hp.get (x := x) (hm rfl) hx).vE
        exact ⟨_, e_len (by rw [eg]; exact r_lenstr hu), .im (.v _)⟩
      · cases h
    · cases h
  · cases h
def xMM (L : Fr) (b : Builtin) (x y : Operand) : Option Got := match rdx L x with
  | some (.v (.int .i64 m)) => (match rdx L y with
    | some (.v (.int .i64 n)) => (match b with
      | .max => some (got (.v (.int .i64 (if n > m then n else m))))
      | .min => some (got (.v (.int .i64 (if n < m then n else m))))
      | _ => none)
    | _ => none)
  | _ => none
theorem xMM_ok {b : Builtin} {ts : Array TypeId} (h : xMM L b x y = some q) : Sim P ⟨dst, .call { callee := .builtin b, args := #[x, y], argTypes := ts }, ty, pos, af, gd⟩ L H A q.1 := by
  unfold xMM at h
  split at h
  · rename_i m hx
    split at h
    · rename_i n hy
      have hmx : x ∈ (Op.call { callee := .builtin b, args := #[x, y], argTypes := ts }).operands.toList := by simp [Op.operands, Call.operands]
      have hmy : y ∈ (Op.call { callee := .builtin b, args := #[x, y], argTypes := ts }).operands.toList := by simp [Op.operands, Call.operands]
      cases b <;> first | (cases h; done) | skip
      · cases h
        refine Sim.pure fun s w a hp => ⟨_, e_builtin (xs := [x, y]) (.cons (hp.get hmx hx).vE (.cons (hp.get hmy hy).vE .nil)) (r_max rfl), .im (.v _)⟩
      · cases h
        refine Sim.pure fun s w a hp => ⟨_, e_builtin (xs := [x, y]) (.cons (hp.get hmx hx).vE (.cons (hp.get hmy hy).vE .nil)) (r_min rfl), .im (.v _)⟩
    · cases h
  · cases h

def bnd (L : Fr) (d : Int) : Option Operand → Option Int
  | none => some d
  | some o => (match rdx L o with | some (.v (.int _ i)) => some i | _ => none)
theorem bnd_ok {s : Ms} {a : Act} {d i : Int} {o : Option Operand} (h : bnd L d o = some i) (hr : ∀ u, o = some u → ∀ y, rdx L u = some y → V s y (a.eval u)) :
    (∃ k, o.map a.eval = some (.int k i)) ∨ (o = none ∧ i = d) := by
  cases o with
  | none => cases h; exact .inr ⟨rfl, rfl⟩
  | some u =>
    simp only [bnd] at h
    split at h
    · rename_i k j hj
      cases h
      exact .inl ⟨k, by simp [(hr u rfl _ hj).vE]⟩
    · cases h
def xSl (L : Fr) (H : List AO) (T : List (TE P)) (it : Option IK) (t : Nat) (x : Operand) (lo hi mx : Option Operand) : Option Got := match tget T t with
  | some e => (match e.d with
    | .string => (match mx with
      | none => (match rdx L x with
        | some (.v (.string s)) => (match bnd L 0 lo with
          | some l => (match bnd L s.size hi with
            | some h => some (got1 (.v (.string (s.extract l.toNat h.toNat)), some (0 ≤ l ∧ l ≤ h ∧ h ≤ (s.size : Int))))
            | none => none)
          | none => none)
        | _ => none)
      | some _ => none)
    | .slice el => (match tget T el with
      | some e2 => (match rdx L x with
        | some (.ro _ k0 n xs) => bif Nat.beq k0 e2.sz then (match bnd L 0 lo with
          | some l => (match bnd L n hi with
            | some h => (match it with
              | some (.list n' ys) => (match mx with
                | none => some (got1 (.ro false e2.sz n' ys, some (0 ≤ l ∧ l ≤ h ∧ h ≤ (n : Int) ∧ n' = h.toNat - l.toNat ∧ (xs.drop l.toNat).take n' = ys)))
                | some m => (match hi with
                  | some _ => (match lo with
                    | some _ => (match rdx L m with
                      | some (.v (.int _ k)) => some (got1 (.ro true e2.sz n' ys, some (0 ≤ l ∧ l ≤ h ∧ h ≤ (n : Int) ∧ k = h ∧ n' = h.toNat - l.toNat ∧ (xs.drop l.toNat).take n' = ys)))
                      | _ => none)
                    | none => none)
                  | none => none))
              | _ => none)
            | none => none)
          | none => none) else none
        | some (.sl c hh n off len) => (match hget H hh with
          | .arr _ _ k n' _ => bif Nat.beq k e2.sz then (match bnd L 0 lo with
            | some l => (match bnd L len hi with
              | some h => (match mx with
                | none => (match lo with
                  | none => some (⟨.sl c hh n off h.toNat, [], none, [hh], false⟩, some (0 ≤ h ∧ h ≤ (len : Int)), [(n, n'), (c, 0)])
                  | some _ => some (⟨.sl 2 hh n (off + l.toNat) (h.toNat - l.toNat), [], none, [hh], false⟩, some (0 ≤ l ∧ l ≤ h ∧ h ≤ ((bif Nat.beq c 0 then n - off else len : Nat) : Int)), [(n, n')]))
                | some m => (match hi with
                  | some _ => (match lo with
                    | some _ => (match rdx L m with
                      | some (.v (.int _ k)) => some (⟨.sl 2 hh n (off + l.toNat) (h.toNat - l.toNat), [], none, [hh], false⟩, some (0 ≤ l ∧ l ≤ h ∧ h ≤ k ∧ k ≤ ((bif Nat.beq c 0 then n - off else len : Nat) : Int)), [(n, n')])
                      | _ => none)
                    | none => none)
                  | none => none))
              | none => none)
            | none => none) else none
          | _ => none)
        | _ => none)
      | none => none)
    | _ => none)
  | none => none
theorem ro_part {s : Ms} {g : Value} {c : Bool} {sz n m l h : Nat} {xs ys : List (List AV)} (H : VI s.J (.ro c sz n xs) g) (hl : l ≤ h) (hh : h ≤ n) (hm : m = h - l) (hy : (xs.drop l).take m = ys) :
    ∃ A cap, g = .slice A n cap ∧ n ≤ cap ∧ V s (.ro false sz m ys) (.slice (if cap = l then A else A.map (·.add (l * sz))) m (cap - l)) ∧ V s (.ro true sz m ys) (.slice (if h = l then A else A.map (·.add (l * sz))) m m) := by
  subst hy
  cases H with
  | @nil _ _ cap A hc =>
    have h0 : h = 0 := by omega
    have l0 : l = 0 := by omega
    subst h0 l0 hm
    refine ⟨A, cap, rfl, Nat.zero_le _, ?_, ?_⟩
    · simpa using (.im (.nil fun e => by cases e) : V s (.ro false sz 0 []) (.slice (if cap = 0 then A else A.map (·.add (0 * sz))) 0 (cap - 0)))
    · simpa using (.im (.nil fun _ => rfl) : V s (.ro true sz 0 []) (.slice (if 0 = 0 then A else A.map (·.add (0 * sz))) 0 0))
  | @ro c n xs b off k cap gs hn hj hb hc hl' hk ho0 hh' =>
    refine ⟨_, cap, rfl, hl', ?_⟩
    have hlen : ((xs.drop l).take m).length = m := by simp; omega
    have main : ∀ {c' : Bool} {cp o : Nat}, (c' = true → cp = m) → m ≤ cp → (o = off + l * sz ∨ (m = 0 ∧ o = off)) → V s (.ro c' sz m ((xs.drop l).take m)) (.slice (some ⟨b, o, none⟩) m cp) := by
      intro c' cp o h1 h2 h3
      refine .im (.ro hlen hj ?_ h1 h2 ?_ (fun j g hj' hg => ?_) ?_)
      · intro hm0
        have hb' := hb (by omega)
        rcases h3 with rfl | ⟨rfl, rfl⟩
        · have e1 : (l + m) * sz ≤ n * sz := Nat.mul_le_mul_right sz (by omega)
          have e2 : (l + m) * sz = l * sz + m * sz := Nat.add_mul l m sz
          omega
        · exact absurd rfl hm0
      · intro i x hi
        rw [List.getElem?_take] at hi
        split at hi
        · rw [List.getElem?_drop] at hi; exact hk _ _ hi
        · cases hi
      · have e1 : (l + m) * sz ≤ n * sz := Nat.mul_le_mul_right sz (by omega)
        have e2 : (l + m) * sz = l * sz + m * sz := Nat.add_mul l m sz
        rcases h3 with rfl | ⟨rfl, rfl⟩
        · exact ho0 (l * sz + j) g (by omega) (by rw [← hg]; congr 1; omega)
        · rw [Nat.zero_mul] at hj'; omega
      · intro i x j y g hi hj' hg
        rw [List.getElem?_take] at hi
        split at hi
        · rw [List.getElem?_drop] at hi
          refine hh' _ _ j y g hi hj' ?_
          rcases h3 with rfl | ⟨rfl, rfl⟩
          · have e2 : (l + i) * sz = l * sz + i * sz := Nat.add_mul l i sz
            rw [← hg]; congr 1; omega
          · omega
        · cases hi
    constructor
    · by_cases e : cap = l
      · rw [if_pos e]
        exact main (fun h => by cases h) (by omega) (.inr ⟨by omega, rfl⟩)
      · rw [if_neg e]
        simp only [Option.map_some, addN]
        exact main (fun h => by cases h) (by omega) (.inl rfl)
    · by_cases e : h = l
      · rw [if_pos e]
        exact main (fun _ => rfl) (Nat.le_refl _) (.inr ⟨by omega, rfl⟩)
      · rw [if_neg e]
        simp only [Option.map_some, addN]
        exact main (fun _ => rfl) (Nat.le_refl _) (.inl rfl)
theorem e_cutG {t e : TypeId} {A : Option Addr} {c m sz : Nat} {lo hi : Option Operand} {l h : Int} (hu : UT P t (.slice e)) (hs : SZ P e sz) (hb : 0 ≤ l ∧ l ≤ h ∧ h ≤ (c : Int)) {ac : Act} {w : World} (hx : ac.eval x = .slice A m c)
    (h1 : (∃ k, lo.map ac.eval = some (.int k l)) ∨ (lo = none ∧ l = 0)) (h2 : (∃ k, hi.map ac.eval = some (.int k h)) ∨ (hi = none ∧ h = (m : Int))) :
    (execOp ac.eval ⟨dst, .slice t x lo hi none, ty, pos, af, gd⟩).run P w = .ok (.value (.slice (vA sz A c l.toNat) (h.toNat - l.toNat) (c - l.toNat))) w := by
  rcases h1 with ⟨k1, h1⟩ | h1 <;> rcases h2 with ⟨k2, h2⟩ | h2
  · exact e_view (kl := k1) (kh := k2) hu hs hb hx (.inl h1) (.inl h2)
  · exact e_view (kl := k1) (kh := .i64) hu hs hb hx (.inl h1) (.inr h2)
  · exact e_view (kl := .i64) (kh := k2) hu hs hb hx (.inr h1) (.inl h2)
  · exact e_view (kl := .i64) (kh := .i64) hu hs hb hx (.inr h1) (.inr h2)
theorem e_strG {t : TypeId} {s : ByteArray} {lo hi : Option Operand} {l h : Int} (hu : UT P t .string) (hb : 0 ≤ l ∧ l ≤ h ∧ h ≤ s.size) {a : Act} {w : World} (hx : a.eval x = .string s)
    (h1 : (∃ k, lo.map a.eval = some (.int k l)) ∨ (lo = none ∧ l = 0)) (h2 : (∃ k, hi.map a.eval = some (.int k h)) ∨ (hi = none ∧ h = s.size)) :
    (execOp a.eval ⟨dst, .slice t x lo hi none, ty, pos, af, gd⟩).run P w = .ok (.value (.string (s.extract l.toNat h.toNat))) w := by
  rcases h1 with ⟨k1, h1⟩ | h1 <;> rcases h2 with ⟨k2, h2⟩ | h2
  · exact e_slices (kl := k1) (kh := k2) hx hu (.inl h1) (.inl h2) hb rfl
  · exact e_slices (kl := k1) (kh := .i64) hx hu (.inl h1) (.inr h2) hb rfl
  · exact e_slices (kl := .i64) (kh := k2) hx hu (.inr h1) (.inl h2) hb rfl
  · exact e_slices (kl := .i64) (kh := .i64) hx hu (.inr h1) (.inr h2) hb rfl
theorem sl_room {s : Ms} {w : World} {c hh n off len cap b sz e k : Nat} {z : Bool} {xs : List (List AV)} (hW : Wd s w) (hr : s.ρ hh = .at b sz) (hC : s.C hh = .arr z e k n xs) (k1 : off + len ≤ n) (k2 : len ≤ cap) (k3 : c = 0 → (off + cap) * k = sz) :
    ((bif Nat.beq c 0 then n - off else len : Nat) : Int) ≤ (cap : Int) ∧ off + (bif Nat.beq c 0 then n - off else len) ≤ n := by
  obtain ⟨ob, ho, hO⟩ := hW.obj _ _ _ hr
  rw [hC] at hO
  obtain ⟨gs, cap', _, _, _, hcap, _, hnc, hk0, _⟩ := hO
  cases hq : Nat.beq c 0
  · simp only [cond_false]; omega
  · have e := k3 (Nat.eq_of_beq_eq_true hq)
    rw [hcap] at e
    have := Nat.eq_of_mul_eq_mul_right hk0 e
    simp only [cond_true]; omega
theorem xSl_ok {t : Nat} {lo hi mx : Option Operand} (h : xSl L H T it t x lo hi mx = some q) (hq : okg q) :
    Sim P ⟨dst, .slice t x lo hi mx, ty, pos, af, gd⟩ L H A q.1 := by
  have mx0 : x ∈ (Op.slice t x lo hi mx).operands.toList := by simp [Op.operands]
  have mlo : ∀ u, lo = some u → u ∈ (Op.slice t x lo hi mx).operands.toList := by rintro u rfl; simp [Op.operands]
  have mhi : ∀ u, hi = some u → u ∈ (Op.slice t x lo hi mx).operands.toList := by rintro u rfl; simp [Op.operands]
  have mmx : ∀ u, mx = some u → u ∈ (Op.slice t x lo hi mx).operands.toList := by rintro u rfl; simp [Op.operands]
  unfold xSl at h
  split at h
  · rename_i e he
    have hu := tget_u he
    split at h
    · rename_i hd
      rw [hd] at hu
      split at h
      · split at h
        · rename_i b hx
          split at h
          · rename_i l hl
            split at h
            · rename_i h' hh
              cases h
              have hb := hq.1 _ rfl
              exact Sim.pure fun s w a hp => ⟨_, e_strG hu hb (hp.get mx0 hx).vE (bnd_ok hl fun u e y hy => hp.rd u (mlo u e) y hy) (bnd_ok hh fun u e y hy => hp.rd u (mhi u e) y hy), .im (.v _)⟩
            · cases h
          · cases h
        · cases h
      · cases h
    · rename_i el hd
      rw [hd] at hu
      split at h
      · rename_i e2 he2
        split at h
        · rename_i c k0 n xs hx
          have h0 := condE' h
          clear h
          obtain ⟨h1, h⟩ := h0
          have hkz := Nat.eq_of_beq_eq_true h1
          subst hkz
          split at h
          · rename_i l hl
            split at h
            · rename_i h' hh
              split at h
              · rename_i n' ys
                split at h
                · cases h
                  obtain ⟨b0, b1, b2, b3, b4⟩ := hq.1 _ rfl
                  refine Sim.pure fun s w a hp => ?_
                  obtain ⟨Ad, cap, eg, hc, hv, _⟩ := ro_part (hp.get mx0 hx).roE (l := l.toNat) (h := h'.toNat) (by omega) (by omega) b3 b4
                  refine ⟨_, e_cutG hu (tget_s he2) ⟨b0, b1, by omega⟩ eg (bnd_ok hl fun u e y hy => hp.rd u (mlo u e) y hy) (bnd_ok hh fun u e y hy => hp.rd u (mhi u e) y hy), ?_⟩
                  rw [← b3]; exact hv
                · rename_i m
                  split at h
                  · rename_i hi'
                    split at h
                    · rename_i lo'
                      split at h
                      · rename_i ik k hk
                        cases h
                        obtain ⟨b0, b1, b2, rfl, b3, b4⟩ := hq.1 _ rfl
                        refine Sim.pure fun s w a hp => ?_
                        obtain ⟨Ad, cap, eg, hc, _, hv⟩ := ro_part (hp.get mx0 hx).roE (l := l.toNat) (h := k.toNat) (by omega) (by omega) b3 b4
                        obtain ⟨k1, q1⟩ := (bnd_ok hl fun u e y hy => hp.rd u (mlo u e) y hy).resolve_right (by simp)
                        obtain ⟨k2, q2⟩ := (bnd_ok hh fun u e y hy => hp.rd u (mhi u e) y hy).resolve_right (by simp)
                        have q3 := (hp.get (mmx m rfl) hk).vE
                        have hrun := e_slice3 (P := P) (dst := dst) (ty := ty) (pos := pos) (af := af) (gd := gd) (x := x) (t := t) (lo := lo') (hi := hi') (mx := m) (l := l) (h := k) (k := k) (kl := k1) (kh := k2) (km := ik) hu (tget_s he2) ⟨b0, b1, Int.le_refl _, by omega⟩ (ac := a) (w := w) eg (by simpa using q1) (by simpa using q2) q3
                        refine ⟨_, hrun, ?_⟩
                        rw [← b3]; exact hv
                      · cases h
                    · cases h
                  · cases h
              · cases h
            · cases h
          · cases h
        · rename_i c hh n off len hx
          split at h
          · rename_i z te k n' xs hc
            have h0 := condE' h
            clear h
            obtain ⟨h1, h⟩ := h0
            have hkz := Nat.eq_of_beq_eq_true h1
            subst hkz
            split at h
            · rename_i l hl
              split at h
              · rename_i h' hh2
                split at h
                · split at h
                  · cases h
                    have hb := hq.1 _ rfl
                    have hn := hq.2 (n, n') (by simp)
                    have hc0 := hq.2 (c, 0) (by simp)
                    simp only at hn hc0; subst hn hc0
                    cases hl
                    refine Sim.pure fun s w a hp => ?_
                    rcases (hp.get mx0 hx).slE' ((hp.fp hh (by simp)).trans hc) with ⟨b, sz, cap, o, hr, k1, k2, k3, k4, k5, eg⟩ | ⟨rfl, hnl, rfl, rfl, rfl, eg⟩
                    · have hrun := e_cutG (w := w) (dst := dst) (ty := ty) (pos := pos) (af := af) (gd := gd) (lo := none) (hi := hi) (l := 0) (h := h') hu (tget_s he2) ⟨Int.le_refl _, hb.1, by omega⟩ eg (.inr ⟨rfl, rfl⟩) (bnd_ok hh2 fun u e y hy => hp.rd u (mhi u e) y hy)
                      refine ⟨_, hrun, ?_⟩
                      have e0 : vA e2.sz (some ⟨b, o, none⟩) cap (0 : Int).toNat = some ⟨b, o, none⟩ := by
                        unfold vA
                        split
                        · rfl
                        · simp [Addr.add]
                      rw [e0]
                      simp only [Int.toNat_zero, Nat.sub_zero]
                      exact .sl hr ((hp.fp hh (by simp)).trans hc) (by omega) (by omega) k3 (fun e => by cases e) (k5.imp id fun e => by omega)
                    · have hrun := e_cutG (w := w) (dst := dst) (ty := ty) (pos := pos) (af := af) (gd := gd) (lo := none) (hi := hi) (l := 0) (h := h') hu (tget_s he2) ⟨Int.le_refl _, hb.1, hb.2⟩ eg (.inr ⟨rfl, rfl⟩) (bnd_ok hh2 fun u e y hy => hp.rd u (mhi u e) y hy)
                      refine ⟨_, hrun, ?_⟩
                      have h0 : h'.toNat = 0 := by omega
                      have e0 : vA e2.sz none 0 (0 : Int).toNat = none := by unfold vA; split <;> rfl
                      rw [e0, h0]
                      exact .sl0 hnl ((hp.fp hh (by simp)).trans hc)
                  · rename_i lo'
                    cases h
                    have hb := hq.1 _ rfl
                    have hn := hq.2 (n, n') (by simp)
                    simp only at hn; subst hn
                    refine Sim.pure fun s w a hp => ?_
                    rcases (hp.get mx0 hx).slE' ((hp.fp hh (by simp)).trans hc) with ⟨b, sz, cap, o, hr, k1, k2, k3, k4, k5, eg⟩ | ⟨rfl, hnl, rfl, rfl, rfl, eg⟩
                    · obtain ⟨m1, m2⟩ := sl_room hp.wd hr ((hp.fp hh (by simp)).trans hc) k1 k2 k3
                      have hrun := e_cutG (w := w) (dst := dst) (ty := ty) (pos := pos) (af := af) (gd := gd) (lo := some lo') (hi := hi) (l := l) (h := h') hu (tget_s he2) ⟨hb.1, hb.2.1, Int.le_trans hb.2.2 m1⟩ eg (bnd_ok hl fun u e y hy => hp.rd u (mlo u e) y hy) (bnd_ok hh2 fun u e y hy => hp.rd u (mhi u e) y hy)
                      refine ⟨_, hrun, ?_⟩
                      unfold vA
                      have main : ∀ o', (o' = (off + l.toNat) * e2.sz ∨ h'.toNat - l.toNat = 0) → V s (.sl 2 hh n (off + l.toNat) (h'.toNat - l.toNat)) (.slice (some ⟨b, o', none⟩) (h'.toNat - l.toNat) (cap - l.toNat)) := by
                        intro o' ho'
                        exact .sl hr ((hp.fp hh (by simp)).trans hc) (by omega) (by omega) (fun e => by cases e) (fun e => by cases e) (ho'.imp id fun e => ⟨rfl, e⟩)
                      split
                      · exact main _ (.inr (by omega))
                      · simp only [Option.map_some, addN]
                        refine main _ ?_
                        rcases k5 with k5 | ⟨rfl, k5⟩
                        · exact .inl (by rw [k5, Nat.add_mul])
                        · have hb2 := hb.2.2
                          simp only [show Nat.beq 2 0 = false from rfl, cond_false] at hb2
                          exact .inr (by omega)
                    · have hb2 : h' ≤ 0 := by
                        have := hb.2.2
                        cases hq0 : Nat.beq c 0 <;> rw [hq0] at this <;> simpa using this
                      have hrun := e_cutG (w := w) (dst := dst) (ty := ty) (pos := pos) (af := af) (gd := gd) (lo := some lo') (hi := hi) (l := l) (h := h') hu (tget_s he2) ⟨hb.1, hb.2.1, by omega⟩ eg (bnd_ok hl fun u e y hy => hp.rd u (mlo u e) y hy) (bnd_ok hh2 fun u e y hy => hp.rd u (mhi u e) y hy)
                      refine ⟨_, hrun, ?_⟩
                      have h0 : h'.toNat = 0 := by omega
                      have l0 : l.toNat = 0 := by omega
                      have e0 : vA e2.sz none 0 0 = none := by unfold vA; split <;> rfl
                      rw [h0, l0, e0]
                      exact .sl0 hnl ((hp.fp hh (by simp)).trans hc)
                · rename_i m
                  split at h
                  · rename_i hi'
                    split at h
                    · rename_i lo'
                      split at h
                      · rename_i ik km hk
                        cases h
                        have hb := hq.1 _ rfl
                        have hn := hq.2 (n, n') (by simp)
                        simp only at hn; subst hn
                        refine Sim.pure fun s w a hp => ?_
                        obtain ⟨kl, q1⟩ := (bnd_ok hl fun u e y hy => hp.rd u (mlo u e) y hy).resolve_right (by simp)
                        obtain ⟨kh, q2⟩ := (bnd_ok hh2 fun u e y hy => hp.rd u (mhi u e) y hy).resolve_right (by simp)
                        have q3 := (hp.get (mmx m rfl) hk).vE
                        rcases (hp.get mx0 hx).slE' ((hp.fp hh (by simp)).trans hc) with ⟨b, sz, cap, o, hr, k1, k2, k3, k4, k5, eg⟩ | ⟨rfl, hnl, rfl, rfl, rfl, eg⟩
                        · obtain ⟨m1, m2⟩ := sl_room hp.wd hr ((hp.fp hh (by simp)).trans hc) k1 k2 k3
                          have hrun := e_slice3 (P := P) (dst := dst) (ty := ty) (pos := pos) (af := af) (gd := gd) (x := x) (t := t) (lo := lo') (hi := hi') (mx := m) (l := l) (h := h') (k := km) (kl := kl) (kh := kh) (km := ik) hu (tget_s he2) ⟨hb.1, hb.2.1, hb.2.2.1, Int.le_trans hb.2.2.2 m1⟩ (ac := a) (w := w) eg (by simpa using q1) (by simpa using q2) q3
                          refine ⟨_, hrun, ?_⟩
                          have main : ∀ o', (o' = (off + l.toNat) * e2.sz ∨ h'.toNat - l.toNat = 0) → V s (.sl 2 hh n (off + l.toNat) (h'.toNat - l.toNat)) (.slice (some ⟨b, o', none⟩) (h'.toNat - l.toNat) (km.toNat - l.toNat)) := by
                            intro o' ho'
                            exact .sl hr ((hp.fp hh (by simp)).trans hc) (by omega) (by omega) (fun e => by cases e) (fun e => by cases e) (ho'.imp id fun e => ⟨rfl, e⟩)
                          split
                          · exact main _ (.inr (by omega))
                          · simp only [Option.map_some, addN]
                            refine main _ ?_
                            rcases k5 with k5 | ⟨rfl, k5⟩
                            · exact .inl (by rw [k5, Nat.add_mul])
                            · have hb2 := hb.2.2.2
                              simp only [show Nat.beq 2 0 = false from rfl, cond_false] at hb2
                              exact .inr (by omega)
                        · have hb2 : km ≤ 0 := by
                            have := hb.2.2.2
                            cases hq0 : Nat.beq c 0 <;> rw [hq0] at this <;> simpa using this
                          have hrun := e_slice3 (P := P) (dst := dst) (ty := ty) (pos := pos) (af := af) (gd := gd) (x := x) (t := t) (lo := lo') (hi := hi') (mx := m) (l := l) (h := h') (k := km) (kl := kl) (kh := kh) (km := ik) hu (tget_s he2) ⟨hb.1, hb.2.1, hb.2.2.1, hb2⟩ (ac := a) (w := w) eg (by simpa using q1) (by simpa using q2) q3
                          refine ⟨_, hrun, ?_⟩
                          have h0 : h'.toNat = 0 := by omega
                          have l0 : l.toNat = 0 := by omega
                          have km0 : km.toNat = 0 := by omega
                          rw [h0, l0, km0]
                          simp only [if_true]
                          exact .sl0 hnl ((hp.fp hh (by simp)).trans hc)
                      · cases h
                    · cases h
                  · cases h
              · cases h
            · cases h
          · cases h
        · cases h
      · cases h
    · cases h
  · cases h
end

section
variable {P : Program} {L : Fr} {H : List AO} {A : List (List AV)} {T : List (TE P)} {it : Option IK}
variable {dst : Option Tmp} {ty : TypeId} {pos : String} {af : Array Edge} {gd : Option (Nat × Bool)} {x y z : Operand} {q : Got}
def RowR (J : Imm) (k : Nat) (xs : List (List AV)) (gs : List Value) : Prop :=
  gs.length = xs.length * k ∧ (∀ (i : Nat) (x : List AV), xs[i]? = some x → x.length = k) ∧ ∀ (i : Nat) (x : List AV) (j : Nat) (y : AV) (g : Value), xs[i]? = some x → x[j]? = some y → gs[i * k + j]? = some g → VI J y g
theorem RowR.nil {J : Imm} {k : Nat} : RowR J k [] [] := ⟨by simp, fun i x h => by simp at h, fun i x j y g h => by simp at h⟩
theorem RowR.cons {J : Imm} {k : Nat} {x : List AV} {xs : List (List AV)} {us gs : List Value} (h : L2 (VI J) x us) (hk : x.length = k) (t : RowR J k xs gs) : RowR J k (x :: xs) (us ++ gs) := by
  obtain ⟨t1, t2, t3⟩ := t
  have hu : us.length = k := by rw [← h.1]; exact hk
  refine ⟨by simp [t1, hu, Nat.add_mul]; omega, ?_, ?_⟩
  · intro i y hi
    cases i with
    | zero => simp at hi; subst hi; exact hk
    | succ i => exact t2 i y (by simpa using hi)
  · intro i y j z g hi hj hg
    cases i with
    | zero =>
      simp at hi; subst hi
      have hj' : j < k := by rw [← hk]; exact (List.getElem?_eq_some_iff.1 hj).1
      rw [List.getElem?_append_left (by omega)] at hg
      exact h.2 j z g hj (by simpa using hg)
    | succ i =>
      have e : (i + 1) * k = i * k + k := Nat.succ_mul i k
      rw [List.getElem?_append_right (by omega)] at hg
      refine t3 i y j z g (by simpa using hi) hj ?_
      rw [show (i + 1) * k + j - us.length = i * k + j by omega] at hg; exact hg
theorem RowR.app {J : Imm} {k : Nat} {xs ys : List (List AV)} {gs us : List Value} (h : RowR J k xs gs) (t : RowR J k ys us) : RowR J k (xs ++ ys) (gs ++ us) := by
  obtain ⟨h1, h2, h3⟩ := h
  obtain ⟨t1, t2, t3⟩ := t
  refine ⟨by simp [h1, t1, Nat.add_mul], ?_, ?_⟩
  · intro i x hi
    rw [List.getElem?_append] at hi
    split at hi
    · exact h2 _ _ hi
    · exact t2 _ _ hi
  · intro i x j y g hi hj hg
    rw [List.getElem?_append] at hi
    have hkx : x.length = k := by
      split at hi
      · exact h2 _ _ hi
      · exact t2 _ _ hi
    have hj' : j < k := by rw [← hkx]; exact (List.getElem?_eq_some_iff.1 hj).1
    split at hi
    · rename_i hlt
      have e1 : (i + 1) * k ≤ xs.length * k := Nat.mul_le_mul_right k (by omega)
      have e2 : (i + 1) * k = i * k + k := Nat.succ_mul i k
      rw [List.getElem?_append_left (by omega)] at hg
      exact h3 _ _ _ _ _ hi hj hg
    · rename_i hge
      have e1 : xs.length * k ≤ i * k := Nat.mul_le_mul_right k (by omega)
      have e2 : (i - xs.length) * k = i * k - xs.length * k := Nat.sub_mul i xs.length k
      rw [List.getElem?_append_right (by omega)] at hg
      refine t3 _ _ j _ g hi hj ?_
      rw [← hg]; congr 1; omega
theorem RowR.take {J : Imm} {k : Nat} {xs : List (List AV)} {gs us : List Value} (h : RowR J k xs gs) (e : us.take gs.length = gs) :
    ∀ (i : Nat) (x : List AV) (j : Nat) (y : AV) (g : Value), xs[i]? = some x → x[j]? = some y → us[i * k + j]? = some g → VI J y g := by
  intro i x j y g hi hj hg
  have hkx := h.2.1 _ _ hi
  have hj' : j < k := by rw [← hkx]; exact (List.getElem?_eq_some_iff.1 hj).1
  have hlt := (List.getElem?_eq_some_iff.1 hi).1
  have e1 : (i + 1) * k ≤ xs.length * k := Nat.mul_le_mul_right k (by omega)
  have e2 : (i + 1) * k = i * k + k := Nat.succ_mul i k
  refine h.2.2 i x j y g hi hj ?_
  rw [← e, List.getElem?_take, if_pos (by rw [h.1]; omega)]; exact hg
theorem RowR.of {J : Imm} {k : Nat} {xs : List (List AV)} {gs : List Value} (hl : xs.length * k ≤ gs.length) (hk : ∀ (i : Nat) (x : List AV), xs[i]? = some x → x.length = k)
    (h : ∀ (i : Nat) (x : List AV) (j : Nat) (y : AV) (g : Value), xs[i]? = some x → x[j]? = some y → gs[i * k + j]? = some g → VI J y g) : RowR J k xs (gs.take (xs.length * k)) := by
  refine ⟨by simp; omega, hk, fun i x j y g hi hj hg => ?_⟩
  rw [List.getElem?_take] at hg
  split at hg
  · exact h i x j y g hi hj hg
  · cases hg
theorem RowR.ones {J : Imm} {k : Nat} {xs : List (List AV)} {gs : List Value} (h : RowR J k xs gs) (ho : ∀ x ∈ xs, onesA x = true) (h0 : 0 < k) : ∀ u ∈ gs, one u = true := by
  intro u hu
  obtain ⟨m, hm⟩ := List.getElem?_of_mem hu
  have hml := (List.getElem?_eq_some_iff.1 hm).1
  have hlt : m / k < xs.length := by rw [Nat.div_lt_iff_lt_mul h0, ← h.1]; exact hml
  have hx : xs[m / k]? = some xs[m / k] := by simp [hlt]
  have hkx := h.2.1 _ _ hx
  have hj : m % k < xs[m / k].length := by rw [hkx]; exact Nat.mod_lt _ h0
  have hy : (xs[m / k])[m % k]? = some (xs[m / k])[m % k] := by simp [hj]
  have := h.2.2 _ _ _ _ u hx hy (by rw [Nat.div_add_mod' m k]; exact hm)
  exact this.one (onesA_at (ho _ (List.getElem_mem hlt)) _ (List.getElem_mem hj))
def elems (k : Nat) : Nat → List (Nat × AV) → Option (List (List AV))
  | _, [] => some []
  | i, (j, v) :: r => (match valC v with
    | some vs => bif Nat.beq i j && Nat.beq vs.length k && pureA.pureL vs && onesA vs then (match elems k (i + 1) r with
      | some xs => some (vs :: xs)
      | none => none) else none
    | none => none)
theorem elems_ok {s : Ms} {a : Act} {k : Nat} : ∀ {ps : List (Nat × Operand)} {vs : List (Nat × AV)} {i : Nat} {xs : List (List AV)}, rdP L ps = some vs → (∀ p ∈ ps, ∀ y, rdx L p.2 = some y → V s y (a.eval p.2)) → elems k i vs = some xs →
    partsOk k i (ps.map fun p => (p.1, a.eval p.2)) = true ∧ RowR s.J k xs ((ps.map fun p => (p.1, a.eval p.2)).flatMap fun p => p.2.cells.toList) ∧ xs.length = ps.length ∧ ∀ x ∈ xs, onesA x = true
  | [], vs, i, xs, h1, _, h2 => by cases h1; cases h2; exact ⟨rfl, RowR.nil, rfl, by simp⟩
  | (j, x) :: r, vs, i, xs, h1, hv, h2 => by
    simp only [rdP] at h1
    split at h1
    · rename_i v hvx
      split at h1
      · rename_i us hus
        cases h1
        simp only [elems] at h2
        split at h2
        · rename_i ws hws
          obtain ⟨h4, h2⟩ := condE' h2
          simp only [Bool.and_eq_true] at h4
          obtain ⟨⟨⟨e1, e2⟩, e3⟩, e4⟩ := h4
          split at h2
          · rename_i xs' hxs
            cases h2
            obtain ⟨k1, k2, k3, k4⟩ := elems_ok hus (fun p hp => hv p (by simp [hp])) hxs
            have hV := valC_ok (hv (j, x) (by simp) v hvx) hws
            have e1 := Nat.eq_of_beq_eq_true e1
            have e2 := Nat.eq_of_beq_eq_true e2
            refine ⟨?_, ?_, by simp [k3], ?_⟩
            · simp only [List.map_cons, partsOk, Bool.and_eq_true, k1, and_true]
              subst e1
              refine ⟨Nat.beq_refl _, ?_⟩
              have := hV.1
              rw [e2] at this
              rw [this]; simp
            · simp only [List.map_cons, List.flatMap_cons]
              exact RowR.cons (hV.pure e3) e2 k2
            · intro z hz
              rcases List.mem_cons.1 hz with rfl | hz
              · exact e4
              · exact k4 z hz
          · cases h2
        · cases h2
      · cases h1
    · cases h1
def xBuildS (L : Fr) (H : List AO) (T : List (TE P)) (t m : Nat) (ps : List (Nat × Operand)) : Option Got := match tget T t with
  | some e => (match e.d with
    | .slice el => (match tget T el with
      | some e2 => (match rdP L ps with
        | some vs => (match elems e2.sz 0 vs with
          | some xs => bif Nat.beq ps.length m && !(Nat.beq e2.sz 0) && Nat.ble (m * e2.sz) 16777216 then some (⟨.sl 0 H.length m 0 m, [(H.length, .arr false el e2.sz m xs)], none, [], false⟩, none, []) else none
          | none => none)
        | none => none)
      | none => none)
    | _ => none)
  | none => none
theorem xBuildS_ok {t m : Nat} {ps : List (Nat × Operand)} (h : xBuildS L H T t m ps = some q) : Sim P ⟨dst, .buildSlice t m ps.toArray, ty, pos, af, gd⟩ L H A q.1 := by
  unfold xBuildS at h
  split at h
  · rename_i e he
    split at h
    · rename_i el hd
      have hu := tget_u he
      rw [hd] at hu
      split at h
      · rename_i e2 he2
        split at h
        · rename_i vs hvs
          split at h
          · rename_i xs hxs
            obtain ⟨h1, h⟩ := condE' h
            simp only [Bool.and_eq_true] at h1
            obtain ⟨⟨hm, hz⟩, hsmall⟩ := h1
            have hm := Nat.eq_of_beq_eq_true hm
            have hsmall := Nat.le_of_ble_eq_true hsmall
            have hk0 : 0 < e2.sz := by
              rcases Nat.eq_zero_or_pos e2.sz with e | e
              · rw [e] at hz; simp at hz
              · exact e
            cases h
            refine Sim.run fun s w a hp => ?_
            obtain ⟨k1, k2, k3, k4⟩ := elems_ok (s := s) (a := a) hvs (fun p hpm y hy => hp.rd p.2 (by simp [Op.operands]; exact ⟨p.1, hpm⟩) y hy) hxs
            let gs := (ps.map fun p => (p.1, a.eval p.2)).flatMap fun p => p.2.cells.toList
            have hgl : gs.length = m * e2.sz := by rw [k2.1, k3, hm]
            have hun := (hp.up _ (List.mem_singleton.2 rfl)).2 (Nat.le_refl _)
            have hfill : Instr.fill (fun i => some (i * e2.sz, e2.sz)) ((Array.range (m * e2.sz)).map (e2.zv.cells[· % e2.zv.cells.size]!)) (ps.map fun p => (p.1, a.eval p.2)) = some gs.toArray := by
              have := fill_parts e2.sz (ps.map fun p => (p.1, a.eval p.2)) 0 [] ((Array.range (m * e2.sz)).map (e2.zv.cells[· % e2.zv.cells.size]!)) k1 (by simp) (by simp) (by simp [hm])
              rw [this]; rfl
            have hfill0 : m = 0 → Instr.fill (fun i => some (i * e2.sz, e2.sz)) ((Array.range (m * e2.sz)).map ((#[] : Array Value)[· % (#[] : Array Value).size]!)) (ps.map fun p => (p.1, a.eval p.2)) = some gs.toArray := by
              intro hm0
              have := fill_parts e2.sz (ps.map fun p => (p.1, a.eval p.2)) 0 [] ((Array.range (m * e2.sz)).map ((#[] : Array Value)[· % (#[] : Array Value).size]!)) k1 (by simp) (by simp) (by simp [hm])
              rw [this]; rfl
            have hres := Wd.new (sz := gs.length) (o := .arr false el e2.sz m xs) (ob := .cells gs.toArray el (0, 0)) hp.wd hun (fun s' hle => by
              have hmm : m ≤ m * e2.sz := Nat.le_mul_of_pos_right _ hk0
              refine ⟨gs, m, rfl, fun u hu => k2.ones k4 hk0 u (List.mem_of_mem_take hu), rfl, hgl, by simp only [maxLen]; omega, Nat.le_refl _, hk0, by rw [k3, hm], k2.2.1, fun i x j y g a b c => (k2.2.2 i x j y g a b c).mono hle.J⟩)
            refine ⟨_, _, .slice (some ⟨w.heap.size, 0, none⟩) m m, ?_, Post.put rfl hres ?_⟩
            · simp only [execOp]
              have e1 : ps.toArray.map (fun p => (p.1, a.eval p.2)) = (ps.map fun p => (p.1, a.eval p.2)).toArray := by simp
              rw [e1]
              have h2 : ¬ (m * e2.sz > 2 ^ 24) := by omega
              by_cases hm0 : m = 0
              · have h3 : m * e2.sz = 0 := by rw [hm0]; simp
                have hf := hfill0 hm0
                simp only [Instr.buildSlice, Sem.run_bind, hu w, tget_s he2 w, Result.andThen_ok, if_neg h2, Sem.run_pure, if_pos h3, hf]
                simp [newRow, newObj, Sem.run, Sem.run_bind]
              · have h3 : ¬ (m * e2.sz = 0) := by have := Nat.mul_pos (Nat.pos_of_ne_zero hm0) hk0; omega
                simp only [Instr.buildSlice, Sem.run_bind, hu w, tget_s he2 w, Result.andThen_ok, if_neg h2, Sem.run_pure, if_neg h3, tget_z he2 w, hfill]
                simp [newRow, newObj, Sem.run, Sem.run_bind]
            · have := V.sl (s := s.put H.length (.at w.heap.size gs.length) (.arr false el e2.sz m xs)) (c := 0) (h := H.length) (n := m) (off := 0) (len := m) (cap := m) (o := 0) put_ρ put_C (by omega) (Nat.le_refl _) (fun _ => by rw [hgl]; simp) (fun e => by cases e) (.inl (by simp))
              exact this
          · cases h
        · cases h
      · cases h
    · cases h
  · cases h
end
end Go.Proofs.Ytbdbmklkgjbehaa.X
