/- Contracts over a small memory, copies, loops; no conditions beyond the hypotheses named. -/
import Derived.Test.YtggpohgoebicjaaGreatDoorEvD
set_option linter.all false
namespace Go.Ev

/-! ## pieces of a body -/
/-- what is known of the slots of an activation -/
def EnR (ν : Nu) (e : En) (x : Act) : Prop := x.defers = [] ∧ e.m = x.tmps.size ∧ ∀ t v, getEn e t = some v → ∃ y, x.tmps[t]? = some y ∧ lvR ν v y

theorem EnR.act {ν : Nu} {e : En} {x : Act} (h : EnR ν e x) : ∃ a, KE e a ∧ ActR ν a x := by
  obtain ⟨h0, h1, h2⟩ := h
  let f : Nat → LV := fun t => match getEn e t with
    | some v => v
    | none => .o (.c (.v (x.tmps.getD t undef)))
  refine ⟨(List.range x.tmps.size).map f, ⟨by simp [h1], fun t v ht => ?_⟩, h0, ?_⟩
  · obtain ⟨y, hy, _⟩ := h2 t v ht
    have hlt : t < x.tmps.size := (Array.getElem?_eq_some_iff.1 hy).1
    simp [hlt, f, ht]
  · refine All2.of_get (by simp) fun i u y hu hy => ?_
    have hlt : i < x.tmps.size := by have := (List.getElem?_eq_some_iff.1 hy).1; simpa using this
    simp [hlt] at hu
    subst hu
    have hy' : x.tmps[i]? = some y := by simpa using hy
    show lvR ν (match getEn e i with | some v => v | none => .o (.c (.v (x.tmps.getD i undef)))) y
    cases hg : getEn e i with
    | some v =>
      obtain ⟨y', h3, h4⟩ := h2 i v hg
      rw [hy'] at h3; cases h3; exact h4
    | none =>
      rw [Array.getD_eq_getD_getElem?, hy']
      exact rfl

/-- slots that are asked for -/
def slotsI (R : Nat → Ren) : Env → List SeenV
  | [] => []
  | (_, v) :: l => lvI R v :: slotsI R l
noncomputable def slotsS (e : En) : Env → List SeenV
  | [] => []
  | (t, v) :: l => (match getEn e t with | some u => lvS v u | none => .bad) :: slotsS e l

/-- an activation of which some slots are known -/
def SlotsR (ν : Nu) (A : Env) (m : Nat) (x : Act) : Prop := x.defers = [] ∧ m = x.tmps.size ∧ ∀ t v, (t, v) ∈ A → ∃ y, x.tmps[t]? = some y ∧ lvR ν v y

theorem lookE_mem : ∀ {A : Env} {t : Nat} {v : LV}, lookE A t = some v → (t, v) ∈ A
  | [], t, v, h => by cases h
  | (d, u) :: A, t, v, h => by
    rw [lookE_cons] at h
    split at h
    · rename_i hd; subst hd; cases h; simp
    · exact List.mem_cons_of_mem _ (lookE_mem h)

theorem SlotsR.en {ν : Nu} {A : Env} {m : Nat} {x : Act} (h : SlotsR ν A m x) (k : Nat) : EnR ν ⟨k, m, [], A⟩ x := by
  refine ⟨h.1, h.2.1, fun t v ht => h.2.2 t v ?_⟩
  unfold getEn at ht
  simp only at ht
  split at ht
  · exact lookE_mem ht
  · cases ht

theorem slots_mem {R : Nat → Ren} {e : En} : ∀ {A : Env}, slotsS e A = slotsI R A → ∀ {t : Nat} {v : LV}, (t, v) ∈ A → ∃ u, getEn e t = some u ∧ lvS v u = lvI R v
  | [], _, t, v, hm => by simp at hm
  | (d, u) :: A, h, t, v, hm => by
    simp only [slotsS, slotsI, List.cons.injEq] at h
    rcases List.mem_cons.1 hm with he | hm
    · obtain ⟨rfl, rfl⟩ := Prod.mk.inj he
      cases hg : getEn e t with
      | none => rw [hg] at h; cases v <;> simp [lvI] at h
      | some u' => rw [hg] at h; exact ⟨u', rfl, h.1⟩
    · exact slots_mem h.2 hm

section
variable {P : Program} {gl : Nat → Option Nat} {T : FuncId → Option Prim} {M : FuncId → Nat}

theorem way_code (hm : P.follows .mixedOrders = true) (hN : NamesOK P) (hT : PrimOK P gl T) {fuel : Nat} {o : Way} {cd : Code} {k m : Nat} {A A0 : Env} {s : LW} {n : Nat} {L0 : List (Nat × Entry)} {x0 : LExit} {R : Nat → Ren} {c b : Bool}
    (h : wayCode P gl T M fuel o cd ⟨k, m, [], A⟩ s n (fun x e s => (x, e.m, memB R s L0, slotsS e A0, memS R s L0)) = some (c, x0, m, b, slotsI R A0, memI R L0))
    (hc : c = true) (hb : b = true) (hM : MapsFix R L0) (hA : apartL R L0 = true)
    {ν : Nu} {W : World} {x : Act} (hx : SlotsR ν A m x) (hrel : Rel ν s W) (hgl : GlobOK gl ν) (hfr : ∀ h, n ≤ h → ν h = none) {Q : Exit → Act → World → Prop}
    (hQ : ∀ ν1 W' x', ν.le ν1 → Rel (pullNu ν1 R) (ofList L0) W' → SlotsR (pullNu ν1 R) A0 m x' → Frame (Owned ν s) W (Owned (pullNu ν1 R) (ofList L0)) W' → Q x0.out x' W') : cd.wp P Q x W := by
  subst hc
  obtain ⟨a, ha, hax⟩ := (hx.en k).act
  obtain ⟨e, e', a', n', s', r, w, h1, hk, h2⟩ := wayCode_sound ha h
  simp only [Prod.mk.injEq] at h2
  obtain ⟨rfl, e0, e1, e2, e3⟩ := h2
  obtain ⟨_, hs⟩ := sound hm hN hT fuel cd a s n e a' n' s' r w h1
  refine (hs ν W x hax hrel hgl (fun h h3 _ => hfr h h3) Q fun ν1 W' x' k1 k2 k3 => ?_).wp
  refine hQ ν1 W' x' k1.le (k2.pull e3 (by rw [e1]; exact hb) hM hA) ⟨k3.defers, ?_, fun t v hm => ?_⟩ (k1.frame.mono (fun _ h => h) fun b hb => .inl (owned_pull e3 hb))
  · have h5 := k3.tmps.length
    simp only [Array.length_toList] at h5
    have h6 := hk.1
    omega
  · obtain ⟨u, g1, g2⟩ := slots_mem e2 hm
    obtain ⟨y, g3, g4⟩ := k3.tmps.get (hk.2 t u g1)
    exact ⟨y, by simpa using g3, lvI_R g2 g4⟩

theorem globOK_pull {ν ν1 : Nu} {R : Nat → Ren} (h : GlobOK gl ν) (hle : ν.le ν1) (hR : ∀ g h, gl g = some h → R h = .to h) : GlobOK gl (pullNu ν1 R) := fun g k hg => by
  obtain ⟨i, h1, h2⟩ := h g k hg
  exact ⟨i, by rw [pullNu_at (hR g k hg)]; exact hle _ _ h1, h2⟩

theorem wp_mono' {c : Code} {Q Q' : Exit → Act → World → Prop} {x : Act} {w : World} (h : c.wp P Q x w) (hq : ∀ e x w, Q e x w → Q' e x w) : c.wp P Q' x w :=
  fun b k cs => let ⟨e, a', w', h1, h2⟩ := h b k cs; ⟨e, a', w', hq _ _ _ h1, h2⟩

/-- a loop with a measure of how far it is -/
theorem loop_wp {c : Code} {Q : Exit → Act → World → Prop} (Inv : Nat → Act → World → Prop) (N : Nat)
    (hstep : ∀ i x w, i < N → Inv i x w → c.wp P (fun e x' w' => e = .normal ∧ Inv (i + 1) x' w') x w)
    (hlast : ∀ x w, Inv N x w → c.wp P (fun e x' w' => e ≠ .normal ∧ Q e x' w') x w)
    {x : Act} {w : World} (h0 : Inv 0 x w) : InLoop P c Q x w := by
  suffices H : ∀ d i x w, i + d = N → Inv i x w → InLoop P c Q x w from H N 0 x w (by omega) h0
  intro d
  induction d with
  | zero =>
    intro i x w hi hx
    have hi : i = N := by omega
    subst hi
    refine InLoop.round (wp_mono' (hlast x w hx) fun e x' w' ⟨h1, h2⟩ => ?_)
    cases e <;> first | exact (h1 rfl).elim | exact h2
  | succ d ih =>
    intro i x w hi hx
    refine InLoop.round (wp_mono' (hstep i x w (by omega) hx) fun e x' w' ⟨h1, h2⟩ => ?_)
    subst h1
    exact ih (i + 1) x' w' (by omega) h2

/-- a loop that may be left before its end -/
theorem loop_wp' {c : Code} {Q : Exit → Act → World → Prop} (Inv : Nat → Act → World → Prop) (N : Nat)
    (hstep : ∀ i x w, i < N → Inv i x w → c.wp P (fun e x' w' => (e = .normal ∧ Inv (i + 1) x' w') ∨ (e ≠ .normal ∧ Q e x' w')) x w)
    (hlast : ∀ x w, Inv N x w → c.wp P (fun e x' w' => e ≠ .normal ∧ Q e x' w') x w)
    {x : Act} {w : World} (h0 : Inv 0 x w) : InLoop P c Q x w := by
  suffices H : ∀ d i x w, i + d = N → Inv i x w → InLoop P c Q x w from H N 0 x w (by omega) h0
  intro d
  induction d with
  | zero =>
    intro i x w hi hx
    have hi : i = N := by omega
    subst hi
    refine InLoop.round (wp_mono' (hlast x w hx) fun e x' w' ⟨h1, h2⟩ => ?_)
    cases e <;> first | exact (h1 rfl).elim | exact h2
  | succ d ih =>
    intro i x w hi hx
    refine InLoop.round (wp_mono' (hstep i x w (by omega) hx) fun e x' w' hh => ?_)
    rcases hh with ⟨h1, h2⟩ | ⟨h1, h2⟩
    · subst h1
      exact ih (i + 1) x' w' (by omega) h2
    · cases e <;> first | exact (h1 rfl).elim | exact h2
end
end Go.Ev

namespace Go.Ev

/-! ## a contract over a small memory as a primitive -/
def capF (ρ : Nat → Nat) : Cap → Cap
  | .v x => .v x
  | .p h off => .p (ρ h) off
def cellF (ρ : Nat → Nat) : Cell → Cell
  | .v x => .v x
  | .p h off => .p (ρ h) off
  | .q h off len i => .q (ρ h) off len i
  | .e h i off => .e (ρ h) i off
  | .r h => .r (ρ h)
  | .s h lo len => .s (ρ h) lo len
  | .m h => .m (ρ h)
  | .f fn caps => .f fn (caps.map (capF ρ))
  | .u => .u
def v1F (ρ : Nat → Nat) : V1 → V1
  | .c x => .c (cellF ρ x)
  | .a cs => .a (cs.map (cellF ρ))
def lvF (ρ : Nat → Nat) : LV → LV
  | .o v => .o (v1F ρ v)
  | .t vs => .t (vs.map (v1F ρ))
def entF (ρ : Nat → Nat) : Entry → Entry
  | .cells t cs => .cells t (cs.map (cellF ρ))
  | .row ro t sz n f => .row ro t sz n fun j => (f j).map (cellF ρ)
  | .map f => .map fun k => (f k).map (cellF ρ)

section
variable {ν ν' : Nu} {ρ : Nat → Nat}

theorem atF_R (hn : ∀ h i, ν h = some i → ν' (ρ h) = some i) {h : Nat} {off : HI → Nat} {y : Value} (hy : atR ν h off y) : atR ν' (ρ h) off y := by
  obtain ⟨i, b, h1, h2⟩ := hy; exact ⟨i, b, hn _ _ h1, h2⟩
theorem capF_R (hn : ∀ h i, ν h = some i → ν' (ρ h) = some i) {c : Cap} {y : Value} (hy : capR ν c y) : capR ν' (capF ρ c) y := by
  cases c with
  | v x => exact hy
  | p h off => exact atF_R hn hy
theorem cellF_R (hn : ∀ h i, ν h = some i → ν' (ρ h) = some i) {c : Cell} {y : Value} (hy : cellR ν c y) : cellR ν' (cellF ρ c) y := by
  cases c with
  | v x => exact hy
  | p h off => exact atF_R hn hy
  | q h off l j => exact atF_R hn hy
  | e h j off => exact atF_R hn hy
  | r h => obtain ⟨i, A, h1, h2⟩ := hy; exact ⟨i, A, hn _ _ h1, h2⟩
  | s h lo len => obtain ⟨i, A, c, h1, h2⟩ := hy; exact ⟨i, A, c, hn _ _ h1, h2⟩
  | m h => obtain ⟨i, b, h1, h2⟩ := hy; exact ⟨i, b, hn _ _ h1, h2⟩
  | f fn caps =>
    obtain ⟨cs, h1, h2⟩ := hy
    refine ⟨cs, All2.map_left (h1.mono fun x y hxy => capF_R hn hxy), h2⟩
  | u => exact hy
theorem cellsF_R (hn : ∀ h i, ν h = some i → ν' (ρ h) = some i) {cs : List Cell} {ys : List Value} (hy : All2 (cellR ν) cs ys) : All2 (cellR ν') (cs.map (cellF ρ)) ys :=
  All2.map_left (hy.mono fun _ _ h => cellF_R hn h)
theorem hF_R (hn : ∀ h i, ν h = some i → ν' (ρ h) = some i) {cs : List Cell} {ys : List Value} (hy : All2 (hR ν) cs ys) : All2 (hR ν') (cs.map (cellF ρ)) ys :=
  All2.map_left (hy.mono fun _ _ h => ⟨cellF_R hn h.1, h.2⟩)
theorem v1F_R (hn : ∀ h i, ν h = some i → ν' (ρ h) = some i) {v : V1} {y : Value} (hy : v1R ν v y) : v1R ν' (v1F ρ v) y := by
  cases v with
  | c x => exact cellF_R hn hy
  | a cs => obtain ⟨ys, h1, h2⟩ := hy; exact ⟨ys, cellsF_R hn h1, h2⟩
theorem lvF_R (hn : ∀ h i, ν h = some i → ν' (ρ h) = some i) {v : LV} {y : Value} (hy : lvR ν v y) : lvR ν' (lvF ρ v) y := by
  cases v with
  | o v => exact v1F_R hn hy
  | t vs => obtain ⟨ys, h1, h2⟩ := hy; exact ⟨ys, All2.map_left (h1.mono fun _ _ h => v1F_R hn h), h2⟩
theorem entF_R (hn : ∀ h i, ν h = some i → ν' (ρ h) = some i) {i : HI} {e : Entry} {w : World} (h : entR ν i e w) : entR ν' i (entF ρ e) w := by
  cases e with
  | cells t cs => obtain ⟨b, cs', h1, h2, h3, h4⟩ := h; exact ⟨b, cs', h1, h2, h3, hF_R hn h4⟩
  | row ro t sz n f =>
    obtain ⟨k1, k2, k3, k4, k5, k6⟩ := h
    refine ⟨k1, k2, k3, k4, k5, ?_⟩
    cases hb : i.blk with
    | none => rw [hb] at k6; exact k6
    | some b =>
      simp only [hb] at k6
      obtain ⟨cur, t', fz, m1, m2, m3, m4⟩ := k6
      exact ⟨cur, t', fz, m1, m2, m3, fun j hj => let ⟨ys, q1, q2⟩ := m4 j hj; ⟨ys, hF_R hn q1, q2⟩⟩
  | map f =>
    obtain ⟨b, es', clock, h1, h2, h3⟩ := h
    refine ⟨b, es', clock, h1, h2, h3.keys, fun k => ?_⟩
    rcases h3.vals k with ⟨g1, g2⟩ | ⟨c, y, g1, g2, g3⟩
    · exact .inl ⟨by simp [g1], g2⟩
    · exact .inr ⟨cellF ρ c, y, by simp [g1], g2, cellF_R hn g3⟩
theorem entF_ro (e : Entry) : (entF ρ e).ro = e.ro := by cases e <;> rfl
end

/-- the places of the names 0 .. k-1 in a list -/
def idxOf (h : Nat) : List Nat → Nat → Option Nat
  | [], _ => none
  | g :: l, j => if h = g then some j else idxOf h l (j + 1)

theorem idxOf_some {h : Nat} : ∀ {l : List Nat} {j i : Nat}, idxOf h l j = some i → j ≤ i ∧ l[i - j]? = some h
  | [], j, i, e => by cases e
  | g :: l, j, i, e => by
    unfold idxOf at e
    split at e
    · rename_i hg; cases e; simp [hg]
    · obtain ⟨h1, h2⟩ := idxOf_some e
      refine ⟨by omega, ?_⟩
      rw [show i - j = (i - (j + 1)) + 1 by omega]
      simpa using h2
theorem idxOf_none {h : Nat} : ∀ {l : List Nat} {j : Nat}, idxOf h l j = none → h ∉ l
  | [], _, _ => by simp
  | g :: l, j, e => by
    unfold idxOf at e
    split at e
    · cases e
    · rename_i hg
      have := idxOf_none e
      simp [this, hg]
theorem idxOf_get {l : List Nat} (hnd : l.Nodup) : ∀ {i j h : Nat}, l[i]? = some h → idxOf h l j = some (i + j) := by
  induction l with
  | nil => intro i j h e; simp at e
  | cons g l ih =>
    intro i j h e
    obtain ⟨h1, h2⟩ := List.nodup_cons.1 hnd
    cases i with
    | zero => simp at e; simp [idxOf, e]
    | succ i =>
      simp at e
      have hm : h ∈ l := List.mem_of_getElem? e
      unfold idxOf
      rw [if_neg (fun hg : h = g => h1 (by rw [← hg]; exact hm)), ih h2 e]
      congr 1; omega

/-- the names of the small memory among those of the great one -/
def outName (hs : List Nat) (n j : Nat) : Nat := match hs[j]? with | some h => h | none => n + (j - hs.length)

/-- the great memory when the small one has become L0 -/
def pushed (hs : List Nat) (n m : Nat) (s : LW) (s0 : LW) : LW := fun g => match idxOf g hs 0 with
  | some j => (s0 j).map (entF (outName hs n))
  | none => if n ≤ g ∧ g < n + m then (s0 (hs.length + (g - n))).map (entF (outName hs n)) else s g

/-- what a call does with a small memory: the names below k are given, those from k on are new -/
def Small (P : Program) (gl : Nat → Option Nat) (f : FuncId) (args0 : List V1) (s0 : LW) (k : Nat) (v0 : LV) (s1 : LW) (m : Nat) : Prop :=
  ∀ ν W ys, All2 (v1R ν) args0 ys → Rel ν s0 W → GlobOK gl ν → (∀ h, k ≤ h → ν h = none) →
    CallDoes P f ys.toArray W fun y W' => ∃ ν', (∀ h i, h < k → ν h = some i → ν' h = some i) ∧ (∀ h, k + m ≤ h → ν' h = none) ∧ Rel ν' s1 W' ∧ lvR ν' v0 y ∧ Frame (Owned ν s0) W (Owned ν' s1) W'

theorem says_of_small {P : Program} {gl gl0 : Nat → Option Nat} {f : FuncId} {args0 args : List V1} {s0 s1 s s' : LW} {hs : List Nat} {v0 v : LV} {n m : Nat} (hC : Small P gl0 f args0 s0 hs.length v0 s1 m)
    (hnd : hs.Nodup) (hgl : ∀ g j, gl0 g = some j → ∃ h, hs[j]? = some h ∧ gl g = some h) (hn : ∀ (j h : Nat), hs[j]? = some h → h < n) (hfull : ∀ j, j < hs.length → ∃ e, s0 j = some e)
    (hs0 : ∀ j e, s0 j = some e → ∃ h, hs[j]? = some h ∧ s h = some (entF (outName hs n) e) ∧ e.ro = false)
    (hback : ∀ ν W, Rel ν s W → ∀ ys, All2 (v1R ν) args ys → Rel (fun j => (hs[j]?).bind ν) s0 W ∧ All2 (v1R fun j => (hs[j]?).bind ν) args0 ys)
    (hv : v = lvF (outName hs n) v0) (hs' : (∀ g, n ≤ g → g < n + m → s g = none) → ∀ g, s' g = pushed hs n m s s1 g) : Says P gl f args s n v (n + m) s' := by
  refine ⟨by omega, fun ν W ys hys hr hg hf => ?_⟩
  have hs' := hs' fun g g1 g2 => by
    cases hsg : s g with
    | none => rfl
    | some e => obtain ⟨i, q, _⟩ := hr.ent g e hsg; rw [hf g g1 g2] at q; cases q
  obtain ⟨hr0, hy0⟩ := hback ν W hr ys hys
  have hg0 : GlobOK gl0 fun j => (hs[j]?).bind ν := fun g j hj => by
    obtain ⟨h, h1, h2⟩ := hgl g j hj
    obtain ⟨i, k1, k2⟩ := hg g h h2
    exact ⟨i, by simp [h1, k1], k2⟩
  refine (hC _ W ys hy0 hr0 hg0 fun h hh => by rw [List.getElem?_eq_none (by omega)]; rfl).mono fun y W' ⟨ν1, e1, e2, e3, e4, e5⟩ => ?_
  -- the names of the great memory
  let ν2 : Nu := fun g => match idxOf g hs 0 with
    | some j => (match ν g with | some i => some i | none => ν1 j)
    | none => if n ≤ g ∧ g < n + m then ν1 (hs.length + (g - n)) else ν g
  have hle : ν.le ν2 := fun g i hi => by
    show (match idxOf g hs 0 with | some j => (match ν g with | some i => some i | none => ν1 j) | none => if n ≤ g ∧ g < n + m then ν1 (hs.length + (g - n)) else ν g) = some i
    cases hx : idxOf g hs 0 with
    | some j => simp only [hi]
    | none =>
      simp only []
      split
      · rename_i hh; rw [hf g hh.1 hh.2] at hi; cases hi
      · exact hi
  have hold : ∀ j h i, hs[j]? = some h → ν h = some i → ν1 j = some i := fun j h i h1 h2 => e1 j i (List.getElem?_eq_some_iff.1 h1).1 (by simp [h1, h2])
  have hname : ∀ j i, ν1 j = some i → ν2 (outName hs n j) = some i := by
    intro j i hi
    unfold outName
    cases hj : hs[j]? with
    | some h =>
      show (match idxOf h hs 0 with | some j => (match ν h with | some i => some i | none => ν1 j) | none => if n ≤ h ∧ h < n + m then ν1 (hs.length + (h - n)) else ν h) = some i
      rw [idxOf_get hnd hj]
      simp only [Nat.add_zero]
      cases hνh : ν h with
      | none => exact hi
      | some i' => have := hold j h i' hj hνh; rw [hi] at this; exact this.symm
    | none =>
      have hjl : hs.length ≤ j := by simpa using hj
      have hjm : j < hs.length + m := by
        rcases Nat.lt_or_ge j (hs.length + m) with hh | hh
        · exact hh
        · rw [e2 j hh] at hi; cases hi
      show (match idxOf (n + (j - hs.length)) hs 0 with | some j => _ | none => if n ≤ n + (j - hs.length) ∧ n + (j - hs.length) < n + m then ν1 (hs.length + (n + (j - hs.length) - n)) else ν _) = some i
      have hx : idxOf (n + (j - hs.length)) hs 0 = none := by
        cases hx : idxOf (n + (j - hs.length)) hs 0 with
        | none => rfl
        | some q => have := hn _ _ (idxOf_some hx).2; omega
      rw [hx]
      simp only []
      rw [if_pos ⟨by omega, by omega⟩, show hs.length + (n + (j - hs.length) - n) = j by omega]
      exact hi
  -- every entry of the new memory: from the small one, or untouched
  have hent : ∀ g e, s' g = some e → (∃ j e0 i, s1 j = some e0 ∧ e = entF (outName hs n) e0 ∧ g = outName hs n j ∧ ν1 j = some i ∧ ν2 g = some i) ∨ (idxOf g hs 0 = none ∧ ¬ (n ≤ g ∧ g < n + m) ∧ s g = some e ∧ ν2 g = ν g) := by
    intro g e he
    rw [hs' g] at he
    unfold pushed at he
    cases hx : idxOf g hs 0 with
    | some j =>
      rw [hx] at he
      simp only [Option.map_eq_some_iff] at he
      obtain ⟨e0, h1, rfl⟩ := he
      obtain ⟨i, g1, _⟩ := e3.ent j e0 h1
      have hj := (idxOf_some hx).2
      have hgo : g = outName hs n j := by simp only [Nat.sub_zero] at hj; simp [outName, hj]
      exact .inl ⟨j, e0, i, h1, rfl, hgo, g1, by rw [hgo]; exact hname j i g1⟩
    | none =>
      rw [hx] at he
      simp only [] at he
      split at he
      · rename_i hh
        simp only [Option.map_eq_some_iff] at he
        obtain ⟨e0, h1, rfl⟩ := he
        obtain ⟨i, g1, _⟩ := e3.ent _ e0 h1
        have hgo : g = outName hs n (hs.length + (g - n)) := by
          unfold outName
          rw [List.getElem?_eq_none (by omega)]
          simp only []; omega
        exact .inl ⟨_, e0, i, h1, rfl, hgo, g1, by conv => lhs; rw [hgo]
                                                   exact hname _ i g1⟩
      · rename_i hh
        refine .inr ⟨rfl, hh, he, ?_⟩
        show (match idxOf g hs 0 with | some j => (match ν g with | some i => some i | none => ν1 j) | none => if n ≤ g ∧ g < n + m then ν1 (hs.length + (g - n)) else ν g) = ν g
        rw [hx]; simp only []; rw [if_neg hh]
  -- a block of the great memory that is not of the small one
  have hfar : ∀ g e i b, idxOf g hs 0 = none → s g = some e → ν g = some i → i.blk = some b → ¬ Owned (fun j => (hs[j]?).bind ν) s0 b := by
    intro g e i b hx h1 h2 h3 ⟨j, e0, i0, k1, k2, k3⟩
    obtain ⟨h, q1, q2, q3⟩ := hs0 j e0 k1
    simp only [q1, Option.bind_some] at k2
    have hne : g ≠ h := fun hh => idxOf_none hx (hh ▸ List.mem_of_getElem? q1)
    have := (hr.sep g h e _ i i0 b h1 q2 h2 k2 h3 k3 hne).2
    rw [entF_ro, q3] at this; cases this
  refine ⟨ν2, ⟨hle, fun h h1 h2 => ?_, e5.os, e5.tape, e5.output, e5.size, fun b hb ho => e5.kept b hb fun ho' => ?_, fun b hb => ?_⟩, ⟨fun g e he => ?_, fun g g' e e' i i' b h1 h2 h3 h4 h5 h6 hne => ?_⟩, ?_⟩
  · show (match idxOf h hs 0 with | some j => (match ν h with | some i => some i | none => ν1 j) | none => if n ≤ h ∧ h < n + m then ν1 (hs.length + (h - n)) else ν h) = none
    cases hx : idxOf h hs 0 with
    | some j =>
      obtain ⟨q1, q2⟩ := idxOf_some hx
      simp only [Nat.sub_zero] at q2
      obtain ⟨e, q3⟩ := hfull j (List.getElem?_eq_some_iff.1 q2).1
      obtain ⟨h', r1, r2, _⟩ := hs0 j e q3
      rw [q2] at r1; cases r1
      obtain ⟨i, r3, _⟩ := hr.ent _ _ r2
      rw [h1] at r3; cases r3
    | none =>
      simp only []
      rw [if_neg (by omega)]
      exact h1
  · obtain ⟨j, e0, i0, k1, k2, k3⟩ := ho'
    obtain ⟨h, q1, q2, q3⟩ := hs0 j e0 k1
    simp only [q1, Option.bind_some] at k2
    exact ho ⟨h, _, i0, q2, k2, k3⟩
  · obtain ⟨g, e, i, k1, k2, k3⟩ := hb
    rcases hent g e k1 with ⟨j, e0, i', q1, q2, q3, q4, q5⟩ | ⟨q1, q2, q3, q4⟩
    · rw [k2] at q5; cases q5
      rcases e5.owned b ⟨j, e0, i, q1, q4, k3⟩ with ⟨j', e', i2, r1, r2, r3⟩ | hh
      · obtain ⟨h, t1, t2, t3⟩ := hs0 j' e' r1
        simp only [t1, Option.bind_some] at r2
        exact .inl ⟨h, _, i2, t2, r2, r3⟩
      · exact .inr hh
    · rw [q4] at k2; exact .inl ⟨g, e, i, q3, k2, k3⟩
  · rcases hent g e he with ⟨j, e0, i', q1, q2, q3, q4, q5⟩ | ⟨q1, q2, q3, q4⟩
    · obtain ⟨i2, r1, r2⟩ := e3.ent j e0 q1
      rw [q4] at r1; cases r1
      exact ⟨i', q5, by rw [q2]; exact entF_R hname r2⟩
    · obtain ⟨i, r1, r2⟩ := hr.ent g e q3
      refine ⟨i, by rw [q4]; exact r1, entR_keep hle r2 fun b hb => ?_⟩
      exact e5.kept b (hr.lt q3 r1 hb) (hfar g e i b q1 q3 r1 hb)
  · have far : ∀ g e i b, idxOf g hs 0 = none → s g = some e → ν g = some i → i.blk = some b → ∀ j e0 i0, s1 j = some e0 → ν1 j = some i0 → i0.blk = some b → False := by
      intro g e i b q1 q2 q3 q4 j e0 i0 r1 r2 r3
      rcases e5.owned b ⟨j, e0, i0, r1, r2, r3⟩ with hh | hh
      · exact hfar g e i b q1 q2 q3 q4 hh
      · exact absurd (hr.lt q2 q3 q4) (by omega)
    rcases hent g e h1 with ⟨j, e0, i1, q1, q2, q3, q4, q5⟩ | ⟨q1, q2, q3, q4⟩ <;> rcases hent g' e' h2 with ⟨j', e0', i1', r1, r2, r3, r4, r5⟩ | ⟨r1, r2, r3, r4⟩
    · rw [h3] at q5; cases q5
      rw [h4] at r5; cases r5
      have hjj : j ≠ j' := fun hh => hne (by rw [q3, r3, hh])
      have := e3.sep j j' e0 e0' _ _ b q1 r1 q4 r4 h5 h6 hjj
      rw [q2, r2, entF_ro, entF_ro]; exact this
    · rw [h3] at q5; cases q5
      rw [r4] at h4
      exact (far g' e' i' b r1 r3 h4 h6 j e0 _ q1 q4 h5).elim
    · rw [h4] at r5; cases r5
      rw [q4] at h3
      exact (far g e i b q1 q3 h3 h5 j' e0' _ r1 r4 h6).elim
    · rw [q4] at h3; rw [r4] at h4
      exact hr.sep g g' e e' i i' b q3 r3 h3 h4 h5 h6 hne
  · rw [hv]; exact lvF_R hname e4

theorem small_of_way {P : Program} {gl : Nat → Option Nat} {T : FuncId → Option Prim} {M : FuncId → Nat} (hm : P.follows .mixedOrders = true) (hN : NamesOK P) (hT : PrimOK P gl T) {fuel : Nat} {o : Way} {f : FuncId} {args : List V1} {v0 : LV}
    {s : LW} {L0 : List (Nat × Entry)} {k m : Nat} {R : Nat → Ren} {c b : Bool}
    (h : wayOut P gl T M fuel o f args s k (fun v s _ _ _ => (memB R s L0, lvS v0 v, memS R s L0)) = some (c, b, lvI R v0, memI R L0))
    (hc : c = true) (hb : b = true) (hM : MapsFix R L0) (hA : apartL R L0 = true) (hk : ∀ h, h < k → R h = .to h) (hm' : ∀ h, k + m ≤ h → R h = .off) : Small P gl f args s k v0 (ofList L0) m := by
  intro ν W ys hys hr hg hf
  refine (way_call hm hN hT h hc hb hM hA hys hr hg hf).mono fun y W' ⟨ν1, h1, h2, h3, h4⟩ => ⟨pullNu ν1 R, fun h i hh hi => ?_, fun h hh => ?_, h2, h3, h4⟩
  · rw [pullNu_at (hk h hh)]; exact h1 _ _ hi
  · simp [pullNu, hm' h hh]

/-- a contract whose result lies alone in new names -/
theorem CallDoes.of_says {P : Program} {gl : Nat → Option Nat} {f : FuncId} {args : List V1} {s s' : LW} {n n' : Nat} {v : LV} (h : Says P gl f args s n v n' s') {ν : Nu} {w : World} {ys : List Value} (hy : All2 (v1R ν) args ys) (hr : Rel ν s w) (hg : GlobOK gl ν) (hf : Fresh ν n n') :
    CallDoes P f ys.toArray w fun y w' => ∃ ν', Step ν s w ν' s' w' n n' ∧ Rel ν' s' w' ∧ lvR ν' v y := h.2 ν w ys hy hr hg hf

/-! ## entries of plain values -/
def PlainCs (l : List Cell) : Prop := ∀ c ∈ l, ∃ v, c = .v v
def PlainE : Entry → Prop
  | .cells _ cs => PlainCs cs
  | .row ro _ _ _ f => ro = false ∧ ∀ j, PlainCs (f j)
  | .map _ => False

theorem mapF_plain {ρ : Nat → Nat} : ∀ {l : List Cell}, PlainCs l → l.map (cellF ρ) = l
  | [], _ => rfl
  | c :: l, h => by
    obtain ⟨v, rfl⟩ := h c (by simp)
    rw [List.map_cons, mapF_plain fun c hc => h c (by simp [hc])]
    rfl
theorem entF_plain {ρ : Nat → Nat} {e : Entry} (h : PlainE e) : entF ρ e = e := by
  cases e with
  | cells t cs => simp only [entF]; rw [mapF_plain h]
  | row ro t sz n f => simp only [entF]; congr 1; funext j; exact mapF_plain (h.2 j)
  | map f => exact h.elim
theorem PlainE.ro {e : Entry} (h : PlainE e) : e.ro = false := by
  cases e with
  | cells t cs => rfl
  | row ro t sz n f => exact h.1
  | map f => rfl
theorem hR_plain {ν ν' : Nu} {cs : List Cell} (h : PlainCs cs) {ys : List Value} (hy : All2 (hR ν) cs ys) : All2 (hR ν') cs ys := by
  induction hy with
  | nil => exact .nil
  | cons h1 _ ih =>
    obtain ⟨v, rfl⟩ := h _ (List.mem_cons_self)
    exact .cons h1 (ih fun c hc => h c (List.mem_cons_of_mem _ hc))
theorem entR_plain {ν ν' : Nu} {i : HI} {e : Entry} {w : World} (hp : PlainE e) (h : entR ν i e w) : entR ν' i e w := by
  cases e with
  | cells t cs => obtain ⟨b, cs', h1, h2, h3, h4⟩ := h; exact ⟨b, cs', h1, h2, h3, hR_plain hp h4⟩
  | row ro t sz n f =>
    obtain ⟨k1, k2, k3, k4, k5, k6⟩ := h
    refine ⟨k1, k2, k3, k4, k5, ?_⟩
    cases hb : i.blk with
    | none => rw [hb] at k6; exact k6
    | some b =>
      simp only [hb] at k6
      obtain ⟨cur, t', fz, m1, m2, m3, m4⟩ := k6
      exact ⟨cur, t', fz, m1, m2, m3, fun j hj => let ⟨ys, q1, q2⟩ := m4 j hj; ⟨ys, hR_plain (hp.2 j) q1, q2⟩⟩
  | map f => exact hp.elim

theorem back_plain {ν : Nu} {s s0 : LW} {W : World} {hs : List Nat} (hnd : hs.Nodup) (hr : Rel ν s W) (hs0 : ∀ j e, s0 j = some e → ∃ h, hs[j]? = some h ∧ s h = some e) (hp : ∀ j e, s0 j = some e → PlainE e) : Rel (fun j => (hs[j]?).bind ν) s0 W := by
  refine ⟨fun j e he => ?_, fun j j' e e' i i' b h1 h2 h3 h4 h5 h6 hne => ?_⟩
  · obtain ⟨h, g1, g2⟩ := hs0 j e he
    obtain ⟨i, q1, q2⟩ := hr.ent h e g2
    exact ⟨i, by simp [g1, q1], entR_plain (hp j e he) q2⟩
  · obtain ⟨h, g1, g2⟩ := hs0 j e h1
    obtain ⟨h', g1', g2'⟩ := hs0 j' e' h2
    simp only [g1, Option.bind_some] at h3
    simp only [g1', Option.bind_some] at h4
    have hh : h ≠ h' := by
      rintro rfl
      obtain ⟨l1, e1⟩ := List.getElem?_eq_some_iff.1 g1
      obtain ⟨l2, e2⟩ := List.getElem?_eq_some_iff.1 g1'
      exact hne ((List.getElem_inj hnd).1 (e1.trans e2.symm))
    exact hr.sep h h' e e' i i' b g2 g2' h3 h4 h5 h6 hh

/-- a primitive over plain entries: the small memory holds the entries of the names hs -/
theorem says_of_plain {P : Program} {gl gl0 : Nat → Option Nat} {f : FuncId} {args0 args : List V1} {s0 s1 s s' : LW} {hs : List Nat} {v0 v : LV} {n m : Nat} (hC : Small P gl0 f args0 s0 hs.length v0 s1 m)
    (hnd : hs.Nodup) (hgl : ∀ g, gl0 g = none) (hn : ∀ (j h : Nat), hs[j]? = some h → h < n) (hfull : ∀ j, j < hs.length → ∃ e, s0 j = some e)
    (hs0 : ∀ j e, s0 j = some e → ∃ h, hs[j]? = some h ∧ s h = some e) (hp : ∀ j e, s0 j = some e → PlainE e)
    (hargs : ∀ (ν : Nu) ys, All2 (v1R ν) args ys → All2 (v1R fun j => (hs[j]?).bind ν) args0 ys)
    (hv : v = lvF (outName hs n) v0) (hs' : (∀ g, n ≤ g → g < n + m → s g = none) → ∀ g, s' g = pushed hs n m s s1 g) : Says P gl f args s n v (n + m) s' :=
  says_of_small hC hnd (fun g j hg => by rw [hgl g] at hg; cases hg) hn hfull
    (fun j e he => let ⟨h, g1, g2⟩ := hs0 j e he; ⟨h, g1, by rw [entF_plain (hp j e he)]; exact g2, (hp j e he).ro⟩)
    (fun ν W hr ys hy => ⟨back_plain hnd hr hs0 hp, hargs ν ys hy⟩) hv hs'
end Go.Ev

namespace Go.Ev

theorem zipSel_false : ∀ xs ys : List Cell, zipSel false xs ys = ys
  | [], [] => rfl
  | [], y :: ys => rfl
  | x :: xs, [] => rfl
  | x :: xs, y :: ys => by
    show selCell false x y :: zipSel false xs ys = y :: ys
    rw [zipSel_false xs ys, selCell_eq]
    rfl
theorem appF_zero (h g : Nat → List Cell) : appF 0 h g = g := by
  funext j
  simp [appF, zipSel_false]

noncomputable section
def dq (p : Prop) : Bool := @decide p (Classical.propDecidable p)
def askP (p : Prop) (x : Ac (LV × Nat)) : Ac (LV × Nat) := .br (dq p) x .stuck
end
theorem dq_iff {p : Prop} : dq p = true ↔ p := @decide_eq_true_iff p (Classical.propDecidable p)
theorem askP_out {p : Prop} {x : Ac (LV × Nat)} {s : LW} {z : Res (LV × Nat)} (h : (askP p x).out s = z) (hz : z ≠ none) : p ∧ x.out s = z := by
  unfold askP at h
  rw [Ac.out_br] at h
  cases hp : dq p with
  | true => simp only [hp, if_true] at h; exact ⟨dq_iff.1 hp, h⟩
  | false =>
    simp only [hp] at h
    simp at h; exact (hz h.symm).elim

/-- names 0 .. k-1 stay, the names behind them are those of a list -/
def RenL (k : Nat) (l : List Nat) (h : Nat) : Ren := match Nat.blt h k with
  | true => .to h
  | false => match getL l (h - k) with
    | some g => .to g
    | none => .off
  where getL : List Nat → Nat → Option Nat
  | [], _ => none
  | g :: _, 0 => some g
  | _ :: l, i + 1 => getL l i

theorem getL_none : ∀ (l : List Nat) (i : Nat), l.length ≤ i → RenL.getL l i = none
  | [], _, _ => rfl
  | _ :: l, 0, h => by simp at h
  | _ :: l, i + 1, h => getL_none l i (by simpa using h)
theorem RenL_old {k : Nat} {l : List Nat} {h : Nat} (hh : h < k) : RenL k l h = .to h := by
  have : Nat.blt h k = true := by simpa [Nat.blt] using Nat.ble_eq_true_of_le hh
  simp [RenL, this]
theorem RenL_off {k : Nat} {l : List Nat} {h : Nat} (hh : k + l.length ≤ h) : RenL k l h = .off := by
  have : Nat.blt h k = false := by
    cases hb : Nat.blt h k with
    | false => rfl
    | true => have := Nat.le_of_ble_eq_true hb; omega
  simp only [RenL, this]
  rw [getL_none l (h - k) (by omega)]

section
variable {P : Program} {T : FuncId → Option Prim} {M : FuncId → Nat}

/-- the seed of a primitive: a path over a small memory without variables of the text -/
theorem small_path {gl : Nat → Option Nat} (hm : P.follows .mixedOrders = true) (hN : NamesOK P) (hT : PrimOK P gl T) {fuel : Nat} {o : Way} {f : FuncId} {args : List V1} {v0 : LV}
    {s : LW} {L0 : List (Nat × Entry)} {k : Nat} {l : List Nat} {c b : Bool}
    (h : wayOut P gl T M fuel o f args s k (fun v s _ _ _ => (memB (RenL k l) s L0, lvS v0 v, memS (RenL k l) s L0)) = some (c, b, lvI (RenL k l) v0, memI (RenL k l) L0))
    (hc : c = true) (hb : b = true) (hM : MapsFix (RenL k l) L0) (hA : apartL (RenL k l) L0 = true) : Small P gl f args s k v0 (ofList L0) l.length :=
  small_of_way hm hN hT h hc hb hM hA (fun _ hh => RenL_old hh) fun _ hh => RenL_off hh

/-! ## copies -/
def plainL : Nat → List Cell → Bool
  | 0, [] => true
  | k + 1, .v _ :: cs => plainL k cs
  | _, _ => false
/-- the first n elements of a row are plain, of k cells each -/
def plainN (k : Nat) (f : Nat → List Cell) : Nat → Bool
  | 0 => true
  | n + 1 => match plainL k (f n) with | true => plainN k f n | false => false

theorem plainN_get {k : Nat} {f : Nat → List Cell} : ∀ {n : Nat}, plainN k f n = true → ∀ j, j < n → plainL k (f j) = true
  | 0, _, j, hj => by omega
  | n + 1, h, j, hj => by
    unfold plainN at h
    cases hp : plainL k (f n) with
    | false => rw [hp] at h; cases h
    | true =>
      rw [hp] at h
      by_cases hjn : j = n
      · subst hjn; exact hp
      · exact plainN_get h j (by omega)
theorem plainN_all {k : Nat} {f : Nat → List Cell} (h : ∀ j, plainL k (f j) = true) : ∀ n, plainN k f n = true
  | 0 => rfl
  | n + 1 => by unfold plainN; rw [h n]; exact plainN_all h n

/-- columns of values as a row -/
def rowOf : Nat → (Nat → Nat → Value) → Nat → List Cell
  | 0, _, _ => []
  | k + 1, x, j => .v (x 0 j) :: rowOf k (fun i => x (i + 1)) j
def colOf (f : Nat → List Cell) (i j : Nat) : Value := match (f j)[i]? with | some (.v x) => x | _ => undef

theorem rowOf_col : ∀ {k : Nat} {l : List Cell} {j : Nat} {x : Nat → Nat → Value}, plainL k l = true → (∀ i, x i j = match l[i]? with | some (.v y) => y | _ => undef) → rowOf k x j = l
  | 0, [], _, _, _, _ => rfl
  | 0, _ :: _, _, _, h, _ => by simp [plainL] at h
  | k + 1, [], _, _, h, _ => by simp [plainL] at h
  | k + 1, c :: cs, j, x, h, hx => by
    cases c <;> simp only [plainL] at h <;> try (cases h; done)
    rename_i v
    have h0 := hx 0
    simp at h0
    show Cell.v (x 0 j) :: rowOf k (fun i => x (i + 1)) j = _
    rw [h0, rowOf_col (l := cs) h fun i => by simpa using hx (i + 1)]

theorem rowOf_plain : ∀ (k : Nat) (x : Nat → Nat → Value) (j : Nat), PlainCs (rowOf k x j)
  | 0, _, _ => by intro c hc; simp [rowOf] at hc
  | k + 1, x, j => by
    intro c hc
    rcases List.mem_cons.1 hc with rfl | hc
    · exact ⟨_, rfl⟩
    · exact rowOf_plain k _ j c hc

noncomputable def cloneP (e : TypeId) (k : Nat) (by1 : Nat) : Prim := fun args n =>
  match args with
  | [.c (.v (.slice _ 0 _))] => .put n (some (.row false e k 0 fun _ => [])) (.ret (.o (.c (.r n)), n + 1))
  | [.c (.r h)] => .get h fun
    | .row false _ sz m f => (match Nat.beq sz k, Nat.blt h n with
      | true, true => chk (plainN k f m) (chk (decide (m * by1 ≤ 140737488355328)) (.put n (some (.row false e k m f)) (.ret (.o (.c (.r n)), n + 1))))
      | _, _ => .stuck)
    | _ => .stuck
  | [.c (.s h lo len)] => .get h fun
    | .row false _ sz m f => (match Nat.beq sz k, Nat.blt h n with
      | true, true => chk (plainN k f m) (chk (decide (len * by1 ≤ 140737488355328)) (.put n (some (.row false e k len fun j => f (lo + j))) (.ret (.o (.c (.r n)), n + 1))))
      | _, _ => .stuck)
    | _ => .stuck
  | _ => .stuck

/-- what has to be shown of a copy's code -/
structure CloneFacts (P : Program) (T : FuncId → Option Prim) (M : FuncId → Nat) (fid : FuncId) (e : TypeId) (z : List Cell) (k : Nat) (by1 : Nat) : Prop where
  row : ∀ (x : Nat → Nat → Value) (n : Nat) (t : TypeId), wayOut P (fun _ => none) T M 60 [(0, false), (1, true)] fid [.c (.r 0)] (ofList [(0, .row false t k n (rowOf k x))]) 1
      (fun v s _ _ _ => (memB (RenL 1 [2]) s [(0, .row false t k n (rowOf k x)), (1, .row false e k (0 + n) (appF 0 (fun _ => z) fun j => rowOf k x (0 + j)))], lvS (.o (.c (.r 1))) v,
        memS (RenL 1 [2]) s [(0, .row false t k n (rowOf k x)), (1, .row false e k (0 + n) (appF 0 (fun _ => z) fun j => rowOf k x (0 + j)))])) =
      some ((true && !decide (n = 0)) && decide ((0 + n) * by1 ≤ 140737488355328), true, lvI (RenL 1 [2]) (.o (.c (.r 1))), memI (RenL 1 [2]) [(0, .row false t k n (rowOf k x)), (1, .row false e k (0 + n) (appF 0 (fun _ => z) fun j => rowOf k x (0 + j)))])
  sub : ∀ (x : Nat → Nat → Value) (n lo len : Nat) (t : TypeId), wayOut P (fun _ => none) T M 60 [(0, false), (1, true)] fid [.c (.s 0 lo len)] (ofList [(0, .row false t k n (rowOf k x))]) 1
      (fun v s _ _ _ => (memB (RenL 1 [2]) s [(0, .row false t k n (rowOf k x)), (1, .row false e k (0 + len) (appF 0 (fun _ => z) fun j => rowOf k x (lo + j)))], lvS (.o (.c (.r 1))) v,
        memS (RenL 1 [2]) s [(0, .row false t k n (rowOf k x)), (1, .row false e k (0 + len) (appF 0 (fun _ => z) fun j => rowOf k x (lo + j)))])) =
      some ((true && !decide (len = 0)) && decide ((0 + len) * by1 ≤ 140737488355328), true, lvI (RenL 1 [2]) (.o (.c (.r 1))), memI (RenL 1 [2]) [(0, .row false t k n (rowOf k x)), (1, .row false e k (0 + len) (appF 0 (fun _ => z) fun j => rowOf k x (lo + j)))])
  nil : ∀ (c : Nat), wayOut P (fun _ => none) T M 60 [] fid [.c (.v (.slice none 0 c))] (ofList []) 0
      (fun v s _ _ _ => (memB (RenL 0 []) s [], lvS (.o (.c (.v (.slice none 0 0)))) v, memS (RenL 0 []) s [])) = some (true, true, lvI (RenL 0 []) (.o (.c (.v (.slice none 0 0)))), memI (RenL 0 []) [])
  emp : ∀ (a : Addr) (c : Nat), wayOut P (fun _ => none) T M 60 [] fid [.c (.v (.slice (some a) 0 c))] (ofList []) 0
      (fun v s _ _ _ => (memB (RenL 0 [1]) s [(0, .row false e k (0 + 0) (appF 0 (fun _ => z) fun _ => []))], lvS (.o (.c (.r 0))) v, memS (RenL 0 [1]) s [(0, .row false e k (0 + 0) (appF 0 (fun _ => z) fun _ => []))])) =
      some (true, true, lvI (RenL 0 [1]) (.o (.c (.r 0))), memI (RenL 0 [1]) [(0, .row false e k (0 + 0) (appF 0 (fun _ => z) fun _ => []))])
  pos : 0 < k

theorem upd_eq (s : LW) (h : Nat) (e : Option Entry) (g : Nat) : s.upd h e g = if g = h then e else s g := by
  by_cases hg : g = h
  · subst hg; rw [upd_same, if_pos rfl]
  · rw [upd_other _ _ hg, if_neg hg]

theorem row0_any {ν ν' : Nu} {s : LW} {w w' : World} {n n' h : Nat} {t : TypeId} {sz : Nat} {f f' : Nat → List Cell} (h1 : Step ν s w ν' (s.upd h (some (.row false t sz 0 f))) w' n n') (h2 : Rel ν' (s.upd h (some (.row false t sz 0 f))) w') :
    Step ν s w ν' (s.upd h (some (.row false t sz 0 f'))) w' n n' ∧ Rel ν' (s.upd h (some (.row false t sz 0 f'))) w' := by
  have back : ∀ k e, (s.upd h (some (.row false t sz 0 f'))) k = some e → ∃ e', (s.upd h (some (.row false t sz 0 f))) k = some e' ∧ e'.ro = e.ro ∧ ∀ i, entR ν' i e' w' → entR ν' i e w' := by
    intro k e he
    rw [upd_eq] at he
    split at he
    · rename_i hk
      cases he
      refine ⟨.row false t sz 0 f, by rw [upd_eq, if_pos hk], rfl, fun i hi => ?_⟩
      obtain ⟨k1, k2, k3, k4, k5, k6⟩ := hi
      refine ⟨k1, k2, k3, k4, k5, ?_⟩
      cases hb : i.blk with
      | none => rw [hb] at k6; exact k6
      | some b =>
        simp only [hb] at k6
        obtain ⟨cur, t', fz, m1, m2, m3, _⟩ := k6
        exact ⟨cur, t', fz, m1, m2, fun _ => m3 trivial, fun j hj => absurd hj (Nat.not_lt_zero j)⟩
    · rename_i hk
      exact ⟨e, by rw [upd_eq, if_neg hk]; exact he, rfl, fun _ h => h⟩
  refine ⟨{ h1 with owned := fun b ⟨k, e, i, g1, g2, g3⟩ => ?_ }, fun k e he => ?_, fun k k' e e' i i' b g1 g2 g3 g4 g5 g6 hne => ?_⟩
  · obtain ⟨e', q1, _, _⟩ := back k e g1
    exact h1.owned b ⟨k, e', i, q1, g2, g3⟩
  · obtain ⟨e', q1, _, q3⟩ := back k e he
    obtain ⟨i, r1, r2⟩ := h2.ent k e' q1
    exact ⟨i, r1, q3 i r2⟩
  · obtain ⟨a, q1, q2, _⟩ := back k e g1
    obtain ⟨a', q1', q2', _⟩ := back k' e' g2
    have := h2.sep k k' a a' i i' b q1 q1' g3 g4 g5 g6 hne
    rw [← q2, ← q2']; exact this

/-- a result that is nil, under a new name -/
theorem nil_named {ν ν' : Nu} {s : LW} {w w' : World} {n : Nat} {e : TypeId} {sz : Nat} {f : Nat → List Cell} (hsz : 0 < sz) (hf : Fresh ν n (n + 1)) (h1 : Step ν s w ν' s w' n n) (h2 : Rel ν' s w') :
    ∃ ν2, Step ν s w ν2 (s.upd n (some (.row false e sz 0 f))) w' n (n + 1) ∧ Rel ν2 (s.upd n (some (.row false e sz 0 f))) w' ∧ lvR ν2 (.o (.c (.r n))) (.slice none 0 0) := by
  have hn' : ν' n = none := h1.new n (hf n (Nat.le_refl _) (Nat.lt_succ_self _)) (.inr (Nat.le_refl _))
  have hf' : Fresh ν' n (n + 1) := fun k k1 k2 => by
    have : k = n := by omega
    subst this; exact hn'
  have key := bare_new (i := ⟨none, 0, 0, sz, 0⟩) (e := .row false e sz 0 f) h2 hf' rfl ⟨rfl, hsz, rfl, Nat.le_refl _, Nat.zero_le _, rfl, rfl⟩
  exact ⟨_, Step.trans (Nat.le_refl n) (Nat.le_succ n) h1 key.2, key.1, ⟨_, none, Nu.set_same _ _ _, rfl, fun h => (h rfl).elim⟩⟩


/-! ## rows that agree where they are -/
def SameE (e e' : Entry) : Prop := e = e' ∨ ∃ t sz n f f', e = .row false t sz n f ∧ e' = .row false t sz n f' ∧ ∀ j, j < n → f j = f' j
theorem SameE.ent {e e' : Entry} (h : SameE e e') : e'.ro = e.ro ∧ ∀ ν i w, entR ν i e w → entR ν i e' w := by
  rcases h with rfl | ⟨t, sz, n, f, f', rfl, rfl, hf⟩
  · exact ⟨rfl, fun _ _ _ h => h⟩
  · refine ⟨rfl, fun ν i w hi => ?_⟩
    obtain ⟨k1, k2, k3, k4, k5, k6⟩ := hi
    refine ⟨k1, k2, k3, k4, k5, ?_⟩
    cases hb : i.blk with
    | none => rw [hb] at k6; exact k6
    | some b =>
      simp only [hb] at k6
      obtain ⟨cur, t', fz, m1, m2, m3, m4⟩ := k6
      exact ⟨cur, t', fz, m1, m2, fun _ => m3 trivial, fun j hj => by rw [← hf j hj]; exact m4 j hj⟩
theorem Rel.swap {ν : Nu} {s : LW} {w : World} (hr : Rel ν s w) {h : Nat} {e e' : Entry} (hs : s h = some e) (he : SameE e e') : Rel ν (s.upd h (some e')) w := by
  have back : ∀ k a, (s.upd h (some e')) k = some a → ∃ b, s k = some b ∧ b.ro = a.ro ∧ ∀ i, entR ν i b w → entR ν i a w := by
    intro k a hk
    rw [upd_eq] at hk
    split at hk
    · rename_i hkh; subst hkh; cases hk; exact ⟨e, hs, he.ent.1.symm, fun i => he.ent.2 ν i w⟩
    · exact ⟨a, hk, rfl, fun _ h => h⟩
  refine ⟨fun k a hk => ?_, fun k k' a a' i i' b h1 h2 h3 h4 h5 h6 hne => ?_⟩
  · obtain ⟨b, q1, _, q3⟩ := back k a hk
    obtain ⟨i, r1, r2⟩ := hr.ent k b q1
    exact ⟨i, r1, q3 i r2⟩
  · obtain ⟨c, q1, q2, _⟩ := back k a h1
    obtain ⟨c', q1', q2', _⟩ := back k' a' h2
    have := hr.sep k k' c c' i i' b q1 q1' h3 h4 h5 h6 hne
    rw [← q2, ← q2']; exact this


/-- a copy of a part of a row, out of the copy of its columns -/
theorem clone_part {gl : Nat → Option Nat} {fid : FuncId} {e t : TypeId} {sz m lo q hh n : Nat} {f : Nat → List Cell} {c c0 : Cell} {s : LW} (hlt : hh < n) (hs : s hh = some (.row false t sz m f)) (hcol : ∀ j, j < m → rowOf sz (colOf f) j = f j)
    (hC : Small P (fun _ => none) fid [.c c0] (ofList [(0, .row false t sz m (rowOf sz (colOf f)))]) 1 (.o (.c (.r 1))) (ofList [(0, .row false t sz m (rowOf sz (colOf f))), (1, .row false e sz q fun j => rowOf sz (colOf f) (lo + j))]) 1)
    (harg : ∀ (ν : Nu) ys, All2 (v1R ν) [.c c] ys → All2 (v1R fun j => ([hh][j]?).bind ν) [.c c0] ys) {ν : Nu} {w : World} {ys : List Value} (hys : All2 (v1R ν) [.c c] ys) (hr : Rel ν s w) (hg : GlobOK gl ν) (hf : Fresh ν n (n + 1)) (hq : lo + q ≤ m) :
    CallDoes P fid ys.toArray w fun y w' => ∃ ν', Step ν s w ν' (s.upd n (some (.row false e sz q fun j => f (lo + j)))) w' n (n + 1) ∧ Rel ν' (s.upd n (some (.row false e sz q fun j => f (lo + j)))) w' ∧ lvR ν' (.o (.c (.r n))) y := by
  have hcol' : ∀ j, j < q → rowOf sz (colOf f) (lo + j) = f (lo + j) := fun j hj => hcol (lo + j) (by omega)
  have same1 : SameE (.row false t sz m f) (.row false t sz m (rowOf sz (colOf f))) := .inr ⟨t, sz, m, _, _, rfl, rfl, fun j hj => (hcol j hj).symm⟩
  have hr1 : Rel ν (s.upd hh (some (.row false t sz m (rowOf sz (colOf f))))) w := hr.swap hs same1
  have hs1 : (s.upd hh (some (.row false t sz m (rowOf sz (colOf f))))) hh = some (.row false t sz m (rowOf sz (colOf f))) := upd_same _ _ _
  have key : Says P gl fid [.c c] (s.upd hh (some (.row false t sz m (rowOf sz (colOf f))))) n (.o (.c (.r n))) (n + 1) ((s.upd hh (some (.row false t sz m (rowOf sz (colOf f))))).upd n (some (.row false e sz q fun j => rowOf sz (colOf f) (lo + j)))) := by
    refine says_of_plain (hs := [hh]) (n := n) (m := 1) (args := [.c c]) hC (by simp) (fun _ => rfl) (fun j h hj => ?_) (fun j hj => ?_) (fun j e' he => ?_) (fun j e' he => ?_) (fun ν' ys hy => harg ν' ys hy) (by simp [lvF, v1F, cellF, outName]) (fun _ g' => ?_)
    · cases j with
      | zero => simp at hj; omega
      | succ j => simp at hj
    · have : j = 0 := by simp at hj; exact hj
      subst this; exact ⟨_, rfl⟩
    · have := ofList_mem he
      simp at this
      obtain ⟨rfl, rfl⟩ := this
      exact ⟨hh, rfl, hs1⟩
    · have := ofList_mem he
      simp at this
      obtain ⟨rfl, rfl⟩ := this
      exact ⟨rfl, rowOf_plain _ _⟩
    · unfold pushed
      simp only [idxOf]
      rw [upd_eq]
      have hp2 : PlainE (Entry.row false e sz q fun j => rowOf sz (colOf f) (lo + j)) := ⟨rfl, fun _ => rowOf_plain _ _ _⟩
      have hp : ∀ t', PlainE (Entry.row false t' sz m (rowOf sz (colOf f))) := fun t' => ⟨rfl, rowOf_plain _ _⟩
      by_cases hgh : g' = hh
      · subst hgh
        rw [if_neg (by omega), if_pos rfl]
        have e0 : ofList [(0, Entry.row false t sz m (rowOf sz (colOf f))), (1, Entry.row false e sz q fun j => rowOf sz (colOf f) (lo + j))] 0 = some (Entry.row false t sz m (rowOf sz (colOf f))) := rfl
        simp only []
        rw [e0, Option.map_some, entF_plain (hp t), hs1]
      · rw [if_neg hgh]
        simp only []
        by_cases hgn : g' = n
        · subst hgn
          rw [if_pos rfl, if_pos ⟨Nat.le_refl _, Nat.lt_succ_self _⟩, Nat.sub_self]
          have e1 : ofList [(0, Entry.row false t sz m (rowOf sz (colOf f))), (1, Entry.row false e sz q fun j => rowOf sz (colOf f) (lo + j))] ([hh].length + 0) = some (Entry.row false e sz q fun j => rowOf sz (colOf f) (lo + j)) := rfl
          rw [e1, Option.map_some, entF_plain hp2]
        · rw [if_neg hgn, if_neg (by omega)]
  refine (key.2 ν w ys hys hr1 hg hf).mono fun y w' ⟨ν', k1, k2, k3⟩ => ?_
  -- the columns are forgotten
  have hne : hh ≠ n := by omega
  have k2a := k2.swap (h := n) (e' := .row false e sz q fun j => f (lo + j)) (upd_same _ _ _) (.inr ⟨e, sz, q, _, _, rfl, rfl, hcol'⟩)
  have k2b := k2a.swap (h := hh) (e' := .row false t sz m f) (by rw [upd_other _ _ hne, upd_other _ _ hne, upd_same]) (.inr ⟨t, sz, m, _, _, rfl, rfl, hcol⟩)
  have hmem : (((s.upd hh (some (.row false t sz m (rowOf sz (colOf f))))).upd n (some (.row false e sz q fun j => rowOf sz (colOf f) (lo + j)))).upd n (some (.row false e sz q fun j => f (lo + j)))).upd hh (some (.row false t sz m f)) = s.upd n (some (.row false e sz q fun j => f (lo + j))) := by
    funext g
    simp only [upd_eq]
    by_cases h1 : g = hh
    · subst h1; simp [hne, hs]
    · by_cases h2 : g = n
      · subst h2; simp [h1]
      · simp [h1, h2]
  rw [hmem] at k2b
  refine ⟨ν', ⟨k1.le, k1.new, k1.os, k1.tape, k1.output, k1.size, fun b hb ho => k1.kept b hb fun ⟨g, e0, i, q1, q2, q3⟩ => ?_, fun b ⟨g, e0, i, q1, q2, q3⟩ => ?_⟩, k2b, k3⟩
  · rw [upd_eq] at q1
    split at q1
    · rename_i hg'; subst hg'; exact ho ⟨g, _, i, hs, q2, q3⟩
    · exact ho ⟨g, e0, i, q1, q2, q3⟩
  · have : Owned ν' ((s.upd hh (some (.row false t sz m (rowOf sz (colOf f))))).upd n (some (.row false e sz q fun j => rowOf sz (colOf f) (lo + j)))) b := by
      rw [upd_eq] at q1
      split at q1
      · rename_i hg'; subst hg'; exact ⟨g, _, i, upd_same _ _ _, q2, q3⟩
      · rename_i hg'
        by_cases h1 : g = hh
        · subst h1; exact ⟨g, _, i, by rw [upd_other _ _ hg', upd_same], q2, q3⟩
        · exact ⟨g, e0, i, by rw [upd_other _ _ hg', upd_other _ _ h1]; exact q1, q2, q3⟩
    rcases k1.owned b this with ⟨g', e1, i', r1, r2, r3⟩ | hh'
    · rw [upd_eq] at r1
      split at r1
      · rename_i hg'; subst hg'; exact .inl ⟨g', _, i', hs, r2, r3⟩
      · exact .inl ⟨g', e1, i', r1, r2, r3⟩
    · exact .inr hh'
theorem clone_ok {gl : Nat → Option Nat} (hm : P.follows .mixedOrders = true) (hN : NamesOK P) (hT : PrimOK P (fun _ => none) T) {fid : FuncId} {e : TypeId} {z : List Cell} {k : Nat} {by1 : Nat}
    (F : CloneFacts P T M fid e z k by1) : PrimOK1 P gl fid (cloneP e k by1) := by
  -- an empty slice
  have emp : ∀ (A : Option Addr) (c : Nat) (s : LW) (n : Nat) (f : Nat → List Cell), Says P gl fid [.c (.v (.slice A 0 c))] s n (.o (.c (.r n))) (n + 1) (s.upd n (some (.row false e k 0 f))) := by
    intro A c s n f
    refine ⟨Nat.le_succ n, fun ν w ys hys hr hg hf => ?_⟩
    cases A with
    | none =>
      have hC := small_path hm hN hT (F.nil c) rfl rfl trivial rfl
      have hS : Says P gl fid [.c (.v (.slice none 0 c))] s n (.o (.c (.v (.slice none 0 0)))) (n + 0) s :=
        says_of_plain (hs := []) (n := n) (m := 0) (s := s) (s' := s) (args := [.c (.v (.slice none 0 c))]) hC List.nodup_nil (fun _ => rfl) (fun j h hj => by simp at hj) (fun j hj => by simp at hj) (fun j e he => by cases he) (fun j e he => by cases he)
          (fun ν' ys hy => by cases hy with | cons h1 h2 => cases h2; exact .cons h1 .nil) rfl (fun _ g => by
            unfold pushed
            simp only [idxOf]
            rw [if_neg (by omega)])
      refine (hS.2 ν w ys hys hr hg (fun k k1 k2 => by omega)).mono fun y w' ⟨ν', k1, k2, k3⟩ => ?_
      have hy : y = .slice none 0 0 := k3
      subst hy
      exact nil_named F.pos hf k1 k2
    | some a =>
      have hC := small_path hm hN hT (F.emp a c) rfl rfl trivial rfl
      have hS : Says P gl fid [.c (.v (.slice (some a) 0 c))] s n (.o (.c (.r n))) (n + 1) (s.upd n (some (.row false e k 0 fun _ => []))) :=
        says_of_plain (hs := []) (n := n) (m := 1) (s := s) (args := [.c (.v (.slice (some a) 0 c))]) hC List.nodup_nil (fun _ => rfl) (fun j h hj => by simp at hj) (fun j hj => by simp at hj) (fun j e he => by cases he) (fun j e he => by cases he)
          (fun ν' ys hy => by cases hy with | cons h1 h2 => cases h2; exact .cons h1 .nil) (by simp [lvF, v1F, cellF, outName]) (fun _ g => by
            unfold pushed
            simp only [idxOf, List.length_nil, Nat.zero_add]
            rw [upd_eq]
            by_cases hg : g = n
            · subst hg
              rw [if_pos rfl, if_pos ⟨Nat.le_refl _, Nat.lt_succ_self _⟩, Nat.sub_self]
              simp [ofList, entF, appF_zero]
            · rw [if_neg hg, if_neg (by omega)])
      refine (hS.2 ν w ys hys hr hg hf).mono fun y w' ⟨ν', k1, k2, k3⟩ => ?_
      obtain ⟨q1, q2⟩ := row0_any (f' := f) k1 k2
      exact ⟨ν', q1, q2, k3⟩
  intro args s n v n' s' r wf h
  unfold cloneP at h
  split at h
  · rename_i A c
    simp [Ac.out_put] at h
    obtain ⟨⟨rfl, rfl⟩, rfl, _⟩ := h
    exact emp A c s n _
  · rename_i hh
    rw [Ac.out_get] at h
    cases hs : s hh with
    | none => simp [hs] at h
    | some en =>
      simp only [hs] at h
      cases en with
      | cells _ _ => simp at h
      | map _ => simp at h
      | row ro t sz m f =>
        cases ro with
        | true => simp at h
        | false =>
          simp only [] at h
          cases hb : Nat.beq sz k with
          | false => simp [hb] at h
          | true =>
            cases hb2 : Nat.blt hh n with
            | false => simp [hb, hb2] at h
            | true =>
              have hszz := Nat.eq_of_beq_eq_true hb
              subst hszz
              have hlt : hh < n := Nat.le_of_ble_eq_true hb2
              simp only [hb, hb2, chk, Ac.out_br, decide_eq_true_eq] at h
              by_cases hpl : plainN sz f m = true
              case neg => simp [hpl] at h
              by_cases hbytes : m * by1 ≤ 140737488355328
              case neg => simp [hpl, hbytes] at h
              simp [hpl, hbytes, Ac.out_put] at h
              obtain ⟨⟨rfl, rfl⟩, rfl, _⟩ := h
              by_cases hm0 : m = 0
              · subst hm0
                refine ⟨Nat.le_succ n, fun ν w ys hys hr hg hf => ?_⟩
                cases hys with
                | cons h1 h2 =>
                  cases h2
                  obtain ⟨i, A, k1, rfl, kA⟩ := h1
                  obtain ⟨i', k2, k3⟩ := hr.ent _ _ hs
                  rw [k1] at k2; cases k2
                  have hl : i.len = 0 := k3.2.2.1
                  rw [hl]
                  exact (emp A i.cap s n _).2 ν w _ (.cons rfl .nil) hr hg hf
              · have hcol : ∀ j, j < m → rowOf sz (colOf f) j = f j := fun j hj => rowOf_col (plainN_get hpl j hj) fun i => rfl
                refine ⟨Nat.le_succ n, fun ν w ys hys hr hg hf => ?_⟩
                have hC := small_path hm hN hT (F.row (colOf f) m t) (by simp [hm0, hbytes]) rfl trivial rfl
                simp only [Nat.zero_add, appF_zero] at hC
                have := clone_part (lo := 0) (q := m) (c := .r hh) (c0 := .r 0) (e := e) (gl := gl) hlt hs hcol (by simpa using hC) (fun ν ys hy => by
                  cases hy with
                  | cons h1 h2 =>
                    cases h2
                    obtain ⟨i, A, k1, k2⟩ := h1
                    exact .cons ⟨i, A, by simpa using k1, k2⟩ .nil) hys hr hg hf (by omega)
                simpa using this
  · rename_i hh lo len
    rw [Ac.out_get] at h
    cases hs : s hh with
    | none => simp [hs] at h
    | some en =>
      simp only [hs] at h
      cases en with
      | cells _ _ => simp at h
      | map _ => simp at h
      | row ro t sz m f =>
        cases ro with
        | true => simp at h
        | false =>
          simp only [] at h
          cases hb : Nat.beq sz k with
          | false => simp [hb] at h
          | true =>
            cases hb2 : Nat.blt hh n with
            | false => simp [hb, hb2] at h
            | true =>
              have hszz := Nat.eq_of_beq_eq_true hb
              subst hszz
              have hlt : hh < n := Nat.le_of_ble_eq_true hb2
              simp only [hb, hb2, chk, Ac.out_br, decide_eq_true_eq] at h
              by_cases hpl : plainN sz f m = true
              case neg => simp [hpl] at h
              by_cases hbytes : len * by1 ≤ 140737488355328
              case neg => simp [hpl, hbytes] at h
              simp [hpl, hbytes, Ac.out_put] at h
              obtain ⟨⟨rfl, rfl⟩, rfl, _⟩ := h
              refine ⟨Nat.le_succ n, fun ν w ys hys hr hg hf => ?_⟩
              have hys0 := hys
              cases hys with
              | cons h1 h2 =>
                cases h2
                obtain ⟨i, A, c, k1, rfl, kc, kl, km, kA⟩ := h1
                obtain ⟨i', k2, k3⟩ := hr.ent _ _ hs
                rw [k1] at k2; cases k2
                by_cases hm0 : len = 0
                · subst hm0
                  exact (emp A c s n _).2 ν w _ (.cons rfl .nil) hr hg hf
                · have hcol : ∀ j, j < m → rowOf sz (colOf f) j = f j := fun j hj => rowOf_col (plainN_get hpl j hj) fun i => rfl
                  have hC := small_path hm hN hT (F.sub (colOf f) m lo len t) (by simp [hm0, hbytes]) rfl trivial rfl
                  simp only [Nat.zero_add, appF_zero] at hC
                  have hlm : i.len = m := k3.2.2.1
                  exact clone_part (lo := lo) (q := len) (c := .s hh lo len) (c0 := .s 0 lo len) (e := e) (gl := gl) hlt hs hcol hC (fun ν ys hy => by
                    cases hy with
                    | cons h1 h2 =>
                      cases h2
                      obtain ⟨i, A, c, k1, k2⟩ := h1
                      exact .cons ⟨i, A, c, by simpa using k1, k2⟩ .nil) hys0 hr hg hf (by omega)
  · simp at h
end
end Go.Ev

namespace Go.Ev

/-! ## bodies with loops, put together out of paths -/
structure St where
  A : Env
  L : List (Nat × Entry)
  n : Nat

def At (gl : Nat → Option Nat) (m : Nat) (S : St) (ν : Nu) (x : Act) (W : World) : Prop :=
  SlotsR ν S.A m x ∧ Rel ν (ofList S.L) W ∧ GlobOK gl ν ∧ ∀ h, S.n ≤ h → ν h = none

/-- from a state to a state; the names below k stay -/
def Tr (P : Program) (gl : Nat → Option Nat) (k m : Nat) (c : Code) (S : St) (e : LExit) (S' : St) : Prop :=
  ∀ ν x W, At gl m S ν x W → c.wp P (fun e' x' W' => e' = e.out ∧ ∃ ν', At gl m S' ν' x' W' ∧ (∀ h i, h < k → ν h = some i → ν' h = some i) ∧ Frame (Owned ν (ofList S.L)) W (Owned ν' (ofList S'.L)) W') x W

section
variable {P : Program} {gl : Nat → Option Nat} {T : FuncId → Option Prim} {M : FuncId → Nat} {k m : Nat}

theorem Tr.seq {c d : Code} {S S1 S' : St} {e : LExit} (h : Tr P gl k m c S .normal S1) (h' : Tr P gl k m d S1 e S') : Tr P gl k m (.seq c d) S e S' := by
  intro ν x W hS
  refine wp_seq (wp_mono' (h ν x W hS) fun e1 x1 W1 ⟨he, ν1, h1, h2, h3⟩ => ?_)
  subst he
  exact wp_mono' (h' ν1 x1 W1 h1) fun e2 x2 W2 ⟨he, ν2, g1, g2, g3⟩ => ⟨he, ν2, g1, fun q i hq hi => g2 q i hq (h2 q i hq hi), h3.trans g3⟩

theorem Tr.seq_out {c d : Code} {S S1 : St} {e : LExit} (hne : e ≠ .normal) (h : Tr P gl k m c S e S1) : Tr P gl k m (.seq c d) S e S1 := by
  intro ν x W hS
  refine wp_seq (wp_mono' (h ν x W hS) fun e1 x1 W1 hh => ?_)
  obtain ⟨rfl, hh⟩ := hh
  cases e with
  | normal => exact (hne rfl).elim
  | exit i => exact ⟨rfl, hh⟩
  | ret => exact ⟨rfl, hh⟩

theorem Tr.block {id : Nat} {c : Code} {S S1 : St} (h : Tr P gl k m c S (.exit id) S1) : Tr P gl k m (.block id c) S .normal S1 := by
  intro ν x W hS
  refine wp_block (wp_mono' (h ν x W hS) fun e1 x1 W1 hh => ?_)
  obtain ⟨rfl, hh⟩ := hh
  simp only [LExit.out, Exit.inBlock, if_true]
  exact ⟨trivial, hh⟩
theorem Tr.block_ret {id : Nat} {c : Code} {S S1 : St} (h : Tr P gl k m c S .ret S1) : Tr P gl k m (.block id c) S .ret S1 := by
  intro ν x W hS
  refine wp_block (wp_mono' (h ν x W hS) fun e1 x1 W1 hh => ?_)
  obtain ⟨rfl, hh⟩ := hh
  exact ⟨rfl, hh⟩
theorem Tr.block_normal {id : Nat} {c : Code} {S S1 : St} (h : Tr P gl k m c S .normal S1) : Tr P gl k m (.block id c) S .normal S1 := by
  intro ν x W hS
  refine wp_block (wp_mono' (h ν x W hS) fun e1 x1 W1 hh => ?_)
  obtain ⟨rfl, hh⟩ := hh
  exact ⟨rfl, hh⟩

theorem Tr.loop {c : Code} {e : LExit} (hne : e ≠ .normal) (S : Nat → St) (N : Nat) {S' : St} (hstep : ∀ i, i < N → Tr P gl k m c (S i) .normal (S (i + 1))) (hlast : Tr P gl k m c (S N) e S') : Tr P gl k m (.loop c) (S 0) e S' := by
  intro ν x W hS
  have hloop : InLoop P c (fun e' x' W' => e' = e.out ∧ ∃ ν', At gl m S' ν' x' W' ∧ (∀ h i, h < k → ν h = some i → ν' h = some i) ∧ Frame (Owned ν (ofList (S 0).L)) W (Owned ν' (ofList S'.L)) W') x W :=
    loop_wp (fun i x' W' => ∃ ν', At gl m (S i) ν' x' W' ∧ (∀ h i, h < k → ν h = some i → ν' h = some i) ∧ Frame (Owned ν (ofList (S 0).L)) W (Owned ν' (ofList (S i).L)) W') N
      (fun i x' W' hi ⟨ν', h1, h2, h3⟩ => wp_mono' (hstep i hi ν' x' W' h1) fun e2 x2 W2 ⟨he, ν2, g1, g2, g3⟩ => ⟨he, ν2, g1, fun q i hq hi => g2 q i hq (h2 q i hq hi), h3.trans g3⟩)
      (fun x' W' ⟨ν', h1, h2, h3⟩ => wp_mono' (hlast ν' x' W' h1) fun e2 x2 W2 ⟨he, ν2, g1, g2, g3⟩ =>
        ⟨(fun h => by rw [he] at h; cases e <;> first | exact hne rfl | cases h), he, ν2, g1, fun q i hq hi => g2 q i hq (h2 q i hq hi), h3.trans g3⟩)
      ⟨ν, hS, fun _ _ _ h => h, Frame.refl _ _⟩
  exact Goes.wp (c := .loop c) hloop

/-- a piece along a path -/
theorem Tr.way (hm : P.follows .mixedOrders = true) (hN : NamesOK P) (hT : PrimOK P gl T) {fuel : Nat} {o : Way} {cd : Code} {q : Nat} {S S' : St} {x0 : LExit} {l : List Nat} {c b : Bool}
    (h : wayCode P gl T M fuel o cd ⟨q, m, [], S.A⟩ (ofList S.L) S.n (fun x e s => (x, e.m, memB (RenL k l) s S'.L, slotsS e S'.A, memS (RenL k l) s S'.L)) = some (c, x0, m, b, slotsI (RenL k l) S'.A, memI (RenL k l) S'.L))
    (hc : c = true) (hb : b = true) (hM : MapsFix (RenL k l) S'.L) (hA : apartL (RenL k l) S'.L = true) (hn : S'.n = k + l.length) (hg : ∀ g h, gl g = some h → h < k) : Tr P gl k m cd S x0 S' := by
  intro ν x W ⟨h1, h2, h3, h4⟩
  refine way_code hm hN hT h hc hb hM hA h1 h2 h3 h4 fun ν1 W' x' g1 g2 g3 g4 => ⟨rfl, pullNu ν1 (RenL k l), ⟨g3, g2, globOK_pull h3 g1 (fun g h hh => RenL_old (hg g h hh)), fun h hh => ?_⟩, fun h i hh hi => ?_, g4⟩
  · simp [pullNu, RenL_off (show k + l.length ≤ h by omega)]
  · rw [pullNu_at (RenL_old hh)]; exact g1 _ _ hi

/-- a call, out of its body -/
theorem Tr.small {f : FuncId} {fn : Func} {c : Code} (hN : NamesOK P) (hf : P.funcs[f]? = some fn) (hb : fn.body = some c) {args : List V1} {L : List (Nat × Entry)} {S' : St} {e : LExit} (he : e = .normal ∨ e = .ret) {v0 : LV} {r : Nat}
    (hlen : Nat.ble args.length fn.ntmps = true) (h : Tr P gl k fn.ntmps c ⟨argsE 0 args, L, k⟩ e S') (hn : S'.n = k + r)
    (hres : runZ (resultsE P fn ⟨0, fn.ntmps, [], S'.A⟩) (ofList S'.L) [] [] (fun v _ _ _ => endZ v) [] true = some (true, v0)) : Small P gl f args (ofList L) k v0 (ofList S'.L) r := by
  intro ν W ys hys hr hg hfr
  have hrun : (callFunc f ys.toArray).run P W = .ok (.enter f ys.toArray) W := by
    have hnm := hN f fn hf
    simp only [beq_eq_false_iff_ne, ne_eq] at hnm
    simp [callFunc, hf, hnm, hb]
  unfold CallDoes
  rw [hrun]
  refine calls_of_wp hf hb ?_
  have hl := hys.length
  have hle := Nat.le_of_ble_eq_true hlen
  have hat : At gl fn.ntmps ⟨argsE 0 args, L, k⟩ ν (Act.mk (ys.toArray ++ Array.replicate (fn.ntmps - ys.toArray.size) undef) []) W := by
    refine ⟨⟨rfl, by simp; omega, fun t v hm => ?_⟩, hr, hg, hfr⟩
    have gen : ∀ (args : List V1) (i t : Nat) (v : LV), (t, v) ∈ argsE i args → i ≤ t ∧ ∃ u, args[t - i]? = some u ∧ v = .o u := by
      intro args
      induction args with
      | nil => intro i t v hm; simp [argsE] at hm
      | cons a args ih =>
        intro i t v hm
        rcases List.mem_cons.1 hm with h1 | h1
        · cases h1; exact ⟨Nat.le_refl _, a, by simp, rfl⟩
        · obtain ⟨h2, u, h3, h4⟩ := ih (i + 1) t v h1
          refine ⟨by omega, u, ?_, h4⟩
          rw [show t - i = (t - (i + 1)) + 1 by omega]; simpa using h3
    obtain ⟨_, u, h3, rfl⟩ := gen args 0 t v hm
    simp only [Nat.sub_zero] at h3
    obtain ⟨y, h4, h5⟩ := hys.get h3
    refine ⟨y, ?_, h5⟩
    have hlt : t < ys.length := (List.getElem?_eq_some_iff.1 h4).1
    simp [Array.getElem?_append, hlt]
    exact (List.getElem?_eq_some_iff.1 h4).2
  refine wp_mono' (h ν _ W hat) fun e1 x1 W1 ⟨he1, ν1, ⟨g1, g2, g3, g4⟩, g5, g6⟩ => ?_
  obtain ⟨a, ha, hax⟩ := (g1.en 0).act
  have hfz := (resultE_fz (P := P) ha fn.results.toList (rel := fun z z' => z = z') (fun | [v] => .ret (.o v) | vs => .ret (.t vs)) (ofList S'.L) [] [] (fun v _ _ _ => endZ v) (fun v _ _ _ => some v) (fun v s r w => fz_end rfl) [] true v0 hres).2
  obtain ⟨v', hrun', hv'⟩ := hfz
  subst hv'
  have hout : ∃ s2 r2 w2, (resultsL P fn a).out (ofList S'.L) = some (v0, s2, r2, w2) := by
    have h7 : (resultsL P fn a).run (ofList S'.L) [] [] (fun v _ _ _ => some v) = some v0 := hrun'
    rw [Ac.run_out] at h7
    cases ho : (resultsL P fn a).out (ofList S'.L) with
    | none => rw [ho] at h7; cases h7
    | some p =>
      obtain ⟨v2, s2, r2, w2⟩ := p
      rw [ho] at h7
      simp only [Option.bind_some, Option.some.injEq] at h7
      subst h7
      exact ⟨s2, r2, w2, rfl⟩
  obtain ⟨s2, r2, w2, ho⟩ := hout
  obtain ⟨vs, us, r3, w3, q1, q2, q3⟩ := resultL_sound g2 hax fn.results.toList _ v0 s2 r2 w2 ho
  have q4 := results_eq (P := P) fn x1 q3
  have key : x1.defers = [] ∧ ∃ u, (results fn x1.tmps).run P W1 = .ok u W1 ∧ (fun e w'' => match e with | Ending.returned y => ∃ ν' : Nu, (∀ h i, h < k → ν h = some i → ν' h = some i) ∧ (∀ h, k + r ≤ h → ν' h = none) ∧ Rel ν' (ofList S'.L) w'' ∧ lvR ν' v0 y ∧ Frame (Owned ν (ofList L)) W (Owned ν' (ofList S'.L)) w'' | _ => False) (.returned u) W1 := by
    refine ⟨hax.defers, _, q4, ν1, g5, fun h hh => g4 h (by omega), g2, ?_, g6⟩
    cases vs with
    | nil =>
      simp at q1
      obtain ⟨rfl, _, _⟩ := q1
      cases q2
      exact ⟨[], .nil, rfl⟩
    | cons v1 vs =>
      cases vs with
      | nil =>
        simp at q1
        obtain ⟨rfl, _, _⟩ := q1
        cases q2 with
        | cons k1 k2 => cases k2; exact k1
      | cons v2 vs =>
        simp at q1
        obtain ⟨rfl, _, _⟩ := q1
        have hlen := q2.length
        refine ⟨us, q2, ?_⟩
        rw [dif_neg (by simp at hlen; omega)]
  rcases he with rfl | rfl
  · subst he1; exact key
  · subst he1; exact key
end

/-- what a path has collected -/
def cj : Bool → List Bool → Bool
  | c, [] => c
  | c, b :: l => cj (c && b) l
theorem cj_all : ∀ {l : List Bool}, (∀ b ∈ l, b = true) → cj true l = true
  | [], _ => rfl
  | b :: l, h => by
    have hb := h b (by simp)
    subst hb
    exact cj_all (l := l) fun b hb => h b (by simp [hb])

/-- a piece of a body along a path -/
@[reducible] def WayFact (P : Program) (gl : Nat → Option Nat) (T : FuncId → Option Prim) (M : FuncId → Nat) (f m : Nat) (k : Nat) (l : List Nat) (o : Way) (cd : Code) (S : St) (x0 : LExit) (S' : St) (c b : Bool) : Prop :=
  wayCode P gl T M 200 o cd ⟨M f, m, [], S.A⟩ (ofList S.L) S.n (fun x e s => (x, e.m, memB (RenL k l) s S'.L, slotsS e S'.A, memS (RenL k l) s S'.L)) = some (c, x0, m, b, slotsI (RenL k l) S'.A, memI (RenL k l) S'.L)

theorem Tr.of {P : Program} {gl : Nat → Option Nat} {T : FuncId → Option Prim} {M : FuncId → Nat} (hm : P.follows .mixedOrders = true) (hN : NamesOK P) (hT : PrimOK P gl T) {f m k : Nat} {l : List Nat} {o : Way} {cd : Code} {S S' : St} {x0 : LExit} {c b : Bool}
    (h : WayFact P gl T M f m k l o cd S x0 S' c b) (hc : c = true) (hb : b = true) (hM : MapsFix (RenL k l) S'.L) (hA : apartL (RenL k l) S'.L = true) (hn : S'.n = k + l.length) (hg : ∀ g h, gl g = some h → h < k) : Tr P gl k m cd S x0 S' :=
  Tr.way hm hN hT h hc hb hM hA hn hg

/-- a primitive that reads plain entries and leaves them as they are -/
theorem says_ro {P : Program} {gl gl0 : Nat → Option Nat} {f : FuncId} {args0 args : List V1} {s0 s : LW} {hs : List Nat} {es : List Entry} {v0 : LV} {n : Nat} (hC : Small P gl0 f args0 s0 hs.length v0 s0 0)
    (hgl : ∀ g, gl0 g = none) (he : ∀ j, s0 j = es[j]?) (hlen : es.length = hs.length) (hnd : hs.Nodup) (hn : ∀ h ∈ hs, h < n) (hs0 : ∀ (j h : Nat) e, hs[j]? = some h → es[j]? = some e → s h = some e) (hp : ∀ e ∈ es, PlainE e)
    (hargs : ∀ (ν : Nu) ys, All2 (v1R ν) args ys → All2 (v1R fun j => (hs[j]?).bind ν) args0 ys) (hv : lvF (outName hs n) v0 = v0) : Says P gl f args s n v0 n s := by
  have hget : ∀ (j : Nat) e, s0 j = some e → ∃ h, hs[j]? = some h ∧ s h = some e := fun j e hj => by
    rw [he] at hj
    have hlt : j < hs.length := by rw [← hlen]; exact (List.getElem?_eq_some_iff.1 hj).1
    exact ⟨hs[j], by simp [hlt], hs0 j _ e (by simp [hlt]) hj⟩
  refine says_of_plain (m := 0) (s' := s) hC hnd hgl (fun j h hj => hn h (List.mem_of_getElem? hj)) (fun j hj => ⟨es[j]'(by omega), by rw [he]; simp [show j < es.length by omega]⟩) hget (fun j e hj => hp e (by rw [he] at hj; exact List.mem_of_getElem? hj)) hargs hv.symm fun _ g => ?_
  unfold pushed
  cases hx : idxOf g hs 0 with
  | none => simp only []; rw [if_neg (by omega)]
  | some j =>
    simp only []
    have hj := (idxOf_some hx).2
    simp only [Nat.sub_zero] at hj
    have hlt : j < es.length := by rw [hlen]; exact (List.getElem?_eq_some_iff.1 hj).1
    have hej : es[j]? = some es[j] := by simp [hlt]
    rw [he, hej, Option.map_some, entF_plain (hp _ (List.getElem_mem hlt)), hs0 j g _ hj hej]

/-- a call along a path -/
@[reducible] def CallFact (P : Program) (gl : Nat → Option Nat) (T : FuncId → Option Prim) (M : FuncId → Nat) (f k : Nat) (l : List Nat) (o : Way) (args : List V1) (L : List (Nat × Entry)) (v0 : LV) (L0 : List (Nat × Entry)) (c b : Bool) : Prop :=
  wayOut P gl T M 3000 o f args (ofList L) k (fun v s _ _ _ => (memB (RenL k l) s L0, lvS v0 v, memS (RenL k l) s L0)) = some (c, b, lvI (RenL k l) v0, memI (RenL k l) L0)

/-- the same, with variables of the text among the entries -/
theorem says_ro_g {P : Program} {gl gl0 : Nat → Option Nat} {f : FuncId} {args0 args : List V1} {s0 s : LW} {hs : List Nat} {es : List Entry} {v0 : LV} {n : Nat} (hC : Small P gl0 f args0 s0 hs.length v0 s0 0)
    (hgl : ∀ g j, gl0 g = some j → ∃ h, hs[j]? = some h ∧ gl g = some h) (he : ∀ j, s0 j = es[j]?) (hlen : es.length = hs.length) (hnd : hs.Nodup) (hn : ∀ h ∈ hs, h < n) (hs0 : ∀ (j h : Nat) e, hs[j]? = some h → es[j]? = some e → s h = some e) (hp : ∀ e ∈ es, PlainE e)
    (hargs : ∀ (ν : Nu) ys, All2 (v1R ν) args ys → All2 (v1R fun j => (hs[j]?).bind ν) args0 ys) (hv : lvF (outName hs n) v0 = v0) : Says P gl f args s n v0 n s := by
  have hget : ∀ (j : Nat) e, s0 j = some e → ∃ h, hs[j]? = some h ∧ s h = some e := fun j e hj => by
    rw [he] at hj
    have hlt : j < hs.length := by rw [← hlen]; exact (List.getElem?_eq_some_iff.1 hj).1
    exact ⟨hs[j], by simp [hlt], hs0 j _ e (by simp [hlt]) hj⟩
  have hpl : ∀ j e, s0 j = some e → PlainE e := fun j e hj => hp e (by rw [he] at hj; exact List.mem_of_getElem? hj)
  refine says_of_small (m := 0) (s' := s) (args := args) hC hnd hgl (fun j h hj => hn h (List.mem_of_getElem? hj)) (fun j hj => ⟨es[j]'(by omega), by rw [he]; simp [show j < es.length by omega]⟩)
    (fun j e hj => let ⟨h, g1, g2⟩ := hget j e hj; ⟨h, g1, by rw [entF_plain (hpl j e hj)]; exact g2, (hpl j e hj).ro⟩)
    (fun ν W hr ys hy => ⟨back_plain hnd hr hget hpl, hargs ν ys hy⟩) hv.symm fun _ g => ?_
  unfold pushed
  cases hx : idxOf g hs 0 with
  | none => simp only []; rw [if_neg (by omega)]
  | some j =>
    simp only []
    have hj := (idxOf_some hx).2
    simp only [Nat.sub_zero] at hj
    have hlt : j < es.length := by rw [hlen]; exact (List.getElem?_eq_some_iff.1 hj).1
    have hej : es[j]? = some es[j] := by simp [hlt]
    rw [he, hej, Option.map_some, entF_plain (hp _ (List.getElem_mem hlt)), hs0 j g _ hj hej]

/-! ## lists of entries that agree where they are -/
def SameL : List (Nat × Entry) → List (Nat × Entry) → Prop
  | [], [] => True
  | (h, e) :: l, (h', e') :: l' => h = h' ∧ SameE e e' ∧ SameL l l'
  | _, _ => False

theorem SameL.get : ∀ {l l' : List (Nat × Entry)}, SameL l l' → ∀ {k : Nat} {e' : Entry}, ofList l' k = some e' → ∃ e, ofList l k = some e ∧ SameE e e'
  | [], [], _, k, e', h => by cases h
  | [], _ :: _, h, _, _, _ => h.elim
  | _ :: _, [], h, _, _, _ => by cases h
  | (g, e) :: l, (g', e1) :: l', h, k, e', hk => by
    obtain ⟨rfl, h2, h3⟩ := h
    unfold ofList at hk ⊢
    cases hb : Nat.beq k g with
    | true => rw [hb] at hk; cases hk; exact ⟨e, rfl, h2⟩
    | false => rw [hb] at hk; exact h3.get hk

theorem SameL.rel {l l' : List (Nat × Entry)} (h : SameL l l') {ν : Nu} {w : World} (hr : Rel ν (ofList l) w) : Rel ν (ofList l') w ∧ ∀ b, Owned ν (ofList l') b → Owned ν (ofList l) b := by
  refine ⟨⟨fun k e he => ?_, fun k k' e e' i i' b h1 h2 h3 h4 h5 h6 hne => ?_⟩, fun b ⟨k, e, i, h1, h2, h3⟩ => ?_⟩
  · obtain ⟨e0, g1, g2⟩ := h.get he
    obtain ⟨i, q1, q2⟩ := hr.ent k e0 g1
    exact ⟨i, q1, g2.ent.2 _ _ _ q2⟩
  · obtain ⟨a, g1, g2⟩ := h.get h1
    obtain ⟨a', g1', g2'⟩ := h.get h2
    rw [g2.ent.1, g2'.ent.1]
    exact hr.sep k k' a a' i i' b g1 g1' h3 h4 h5 h6 hne
  · obtain ⟨a, g1, _⟩ := h.get h1
    exact ⟨k, a, i, g1, h2, h3⟩

theorem Small.ext {P : Program} {gl : Nat → Option Nat} {f : FuncId} {args : List V1} {s0 : LW} {k m : Nat} {v0 : LV} {l l' : List (Nat × Entry)} (h : Small P gl f args s0 k v0 (ofList l) m) (hs : SameL l l') : Small P gl f args s0 k v0 (ofList l') m :=
  fun ν W ys hys hr hg hf => (h ν W ys hys hr hg hf).mono fun y W' ⟨ν', h1, h2, h3, h4, h5⟩ => ⟨ν', h1, h2, (hs.rel h3).1, h4, h5.mono (fun _ h => h) fun b hb => .inl ((hs.rel h3).2 b hb)⟩

/-! ## a primitive that makes new entries -/
def putsL {α : Type} (ρ : Nat → Nat) (k : Nat) : List (Nat × Entry) → Ac α → Ac α
  | [], x => x
  | (j, e) :: l, x => match Nat.blt j k with | true => putsL ρ k l x | false => .put (ρ j) (some (entF ρ e)) (putsL ρ k l x)

theorem putsL_out {α : Type} {ρ : Nat → Nat} {k : Nat} {a : α} : ∀ {l : List (Nat × Entry)} {s : LW}, (∀ j j' : Nat, k ≤ j → k ≤ j' → ρ j = ρ j' → j = j') → (l.map (·.1)).Nodup →
    ∃ s' w, (putsL ρ k l (.ret a)).out s = some (a, s', [], w) ∧ (∀ g, (∀ j e, (j, e) ∈ l → k ≤ j → ρ j ≠ g) → s' g = s g) ∧ ∀ j e, (j, e) ∈ l → k ≤ j → s' (ρ j) = some (entF ρ e)
  | [], s, _, _ => ⟨s, [], rfl, fun _ _ => rfl, fun j e hm => by simp at hm⟩
  | (j, e) :: l, s, hinj, hnd => by
    obtain ⟨h1, h2⟩ := List.nodup_cons.1 (by simpa using hnd : ((j :: l.map (·.1)).Nodup))
    unfold putsL
    cases hb : Nat.blt j k with
    | true =>
      have hlt : j < k := Nat.le_of_ble_eq_true hb
      obtain ⟨s', w, e1, e2, e3⟩ := putsL_out (a := a) (l := l) (s := s) hinj h2
      refine ⟨s', w, e1, fun g hg => e2 g fun j' e' hm => hg j' e' (List.mem_cons_of_mem _ hm), fun j' e' hm hk => ?_⟩
      rcases List.mem_cons.1 hm with he | hm
      · cases he; omega
      · exact e3 j' e' hm hk
    | false =>
      have hge : k ≤ j := by
        rcases Nat.lt_or_ge j k with hh | hh
        · have : Nat.blt j k = true := by simpa [Nat.blt] using Nat.ble_eq_true_of_le hh
          rw [hb] at this; cases this
        · exact hh
      obtain ⟨s', w, e1, e2, e3⟩ := putsL_out (a := a) (l := l) (s := s.upd (ρ j) (some (entF ρ e))) hinj h2
      refine ⟨s', w ++ [ρ j], by simp only [Ac.out_put, e1, Option.map_some], fun g hg => ?_, fun j' e' hm hk => ?_⟩
      · rw [e2 g fun j' e' hm => hg j' e' (List.mem_cons_of_mem _ hm), upd_eq, if_neg (fun hh => hg j e (by simp) hge hh.symm)]
      · rcases List.mem_cons.1 hm with he | hm
        · cases he
          rw [e2 (ρ j) fun j' e' hm' hk' hh => ?_, upd_same]
          have : j' = j := hinj _ _ hk' hge hh
          subst this
          exact h1 (List.mem_map.2 ⟨_, hm', rfl⟩)
        · exact e3 j' e' hm hk

/-- the contract of a function that reads plain entries and makes new ones -/
theorem says_puts {P : Program} {gl gl0 : Nat → Option Nat} {f : FuncId} {args0 args : List V1} {Lin L : List (Nat × Entry)} {s s' : LW} {hs : List Nat} {v0 v : LV} {n n' m : Nat} {r wf : List Nat} (hC : Small P gl0 f args0 (ofList Lin) hs.length v0 (ofList L) m)
    (hgl : ∀ g, gl0 g = none) (hnd : hs.Nodup) (hn : ∀ h ∈ hs, h < n) (hfull : ∀ j, j < hs.length → ∃ e, ofList Lin j = some e ∧ ofList L j = some e) (hlen : ∀ j e, ofList Lin j = some e → j < hs.length)
    (hs0 : ∀ (j h : Nat) e, hs[j]? = some h → ofList Lin j = some e → s h = some e) (hp : ∀ j e, ofList Lin j = some e → PlainE e) (hkeys : (L.map (·.1)).Nodup) (hmax : ∀ x ∈ L, x.1 < hs.length + m)
    (hargs : ∀ (ν : Nu) ys, All2 (v1R ν) args ys → All2 (v1R fun j => (hs[j]?).bind ν) args0 ys)
    (h : (putsL (outName hs n) hs.length L (.ret (lvF (outName hs n) v0, n + m))).out s = some ((v, n'), s', r, wf)) : Says P gl f args s n v n' s' := by
  have hnew : ∀ j, hs.length ≤ j → outName hs n j = n + (j - hs.length) := fun j hj => by simp [outName, List.getElem?_eq_none hj]
  obtain ⟨s1, w, e1, e2, e3⟩ := putsL_out (ρ := outName hs n) (k := hs.length) (a := (lvF (outName hs n) v0, n + m)) (l := L) (s := s) (fun j j' h1 h2 h3 => by rw [hnew j h1, hnew j' h2] at h3; omega) hkeys
  rw [e1] at h
  simp only [Option.some.injEq, Prod.mk.injEq] at h
  obtain ⟨⟨rfl, rfl⟩, rfl, _⟩ := h
  have hget : ∀ (j : Nat) e, ofList Lin j = some e → ∃ h, hs[j]? = some h ∧ s h = some e := fun j e hj => by
    have hlt := hlen j e hj
    exact ⟨hs[j], by simp [hlt], hs0 j _ e (by simp [hlt]) hj⟩
  refine says_of_plain hC hnd hgl (fun j h hj => hn h (List.mem_of_getElem? hj)) (fun j hj => let ⟨e, h1, _⟩ := hfull j hj; ⟨e, h1⟩) hget hp hargs rfl fun hfr g => ?_
  unfold pushed
  cases hx : idxOf g hs 0 with
  | some j =>
    simp only []
    have hj := (idxOf_some hx).2
    simp only [Nat.sub_zero] at hj
    have hlt : j < hs.length := (List.getElem?_eq_some_iff.1 hj).1
    obtain ⟨e, q1, q2⟩ := hfull j hlt
    rw [q2, Option.map_some, entF_plain (hp j e q1), ← hs0 j g e hj q1]
    refine e2 g fun j' e' _ hk hh => ?_
    rw [hnew j' hk] at hh
    have := hn g (List.mem_of_getElem? hj)
    omega
  | none =>
    simp only []
    by_cases hg : n ≤ g ∧ g < n + m
    · rw [if_pos hg]
      cases ho : ofList L (hs.length + (g - n)) with
      | some e =>
        have := e3 _ e (ofList_mem ho) (by omega)
        rw [hnew _ (by omega), show n + (hs.length + (g - n) - hs.length) = g by omega] at this
        rw [this]; rfl
      | none =>
        rw [e2 g fun j' e' hm hk hh => ?_, hfr g hg.1 hg.2]
        · rfl
        · rw [hnew j' hk] at hh
          have hjj : j' = hs.length + (g - n) := by omega
          subst hjj
          have mem_of : ∀ {l : List (Nat × Entry)}, (hs.length + (g - n), e') ∈ l → ofList l (hs.length + (g - n)) ≠ none := by
            intro l
            induction l with
            | nil => intro hm; simp at hm
            | cons x l ih =>
              intro hm
              obtain ⟨a, b⟩ := x
              unfold ofList
              cases hb : Nat.beq (hs.length + (g - n)) a with
              | true => simp
              | false =>
                rcases List.mem_cons.1 hm with he | hm
                · cases he; rw [Nat.beq_refl] at hb; cases hb
                · exact ih hm
          exact mem_of hm ho
    · rw [if_neg hg]
      refine e2 g fun j' e' hm hk hh => ?_
      rw [hnew j' hk] at hh
      have := hmax _ hm
      simp only at this
      omega

/-! ## the same, with empty slices under new names -/
def RenX (k : Nat) (l : List Ren) (h : Nat) : Ren := match Nat.blt h k with
  | true => .to h
  | false => getX l (h - k)
  where getX : List Ren → Nat → Ren
  | [], _ => .off
  | g :: _, 0 => g
  | _ :: l, i + 1 => getX l i
theorem getX_off : ∀ (l : List Ren) (i : Nat), l.length ≤ i → RenX.getX l i = .off
  | [], _, _ => rfl
  | _ :: l, 0, h => by simp at h
  | _ :: l, i + 1, h => getX_off l i (by simpa using h)
theorem RenX_old {k : Nat} {l : List Ren} {h : Nat} (hh : h < k) : RenX k l h = .to h := by
  have : Nat.blt h k = true := by simpa [Nat.blt] using Nat.ble_eq_true_of_le hh
  simp [RenX, this]
theorem RenX_off {k : Nat} {l : List Ren} {h : Nat} (hh : k + l.length ≤ h) : RenX k l h = .off := by
  have : Nat.blt h k = false := by
    cases hb : Nat.blt h k with
    | false => rfl
    | true => have := Nat.le_of_ble_eq_true hb; omega
  simp only [RenX, this]
  rw [getX_off l (h - k) (by omega)]

@[reducible] def WayFactX (P : Program) (gl : Nat → Option Nat) (T : FuncId → Option Prim) (M : FuncId → Nat) (f m : Nat) (k : Nat) (l : List Ren) (o : Way) (cd : Code) (S : St) (x0 : LExit) (S' : St) (c b : Bool) : Prop :=
  wayCode P gl T M 3000 o cd ⟨M f, m, [], S.A⟩ (ofList S.L) S.n (fun x e s => (x, e.m, memB (RenX k l) s S'.L, slotsS e S'.A, memS (RenX k l) s S'.L)) = some (c, x0, m, b, slotsI (RenX k l) S'.A, memI (RenX k l) S'.L)

theorem Tr.ofX {P : Program} {gl : Nat → Option Nat} {T : FuncId → Option Prim} {M : FuncId → Nat} (hm : P.follows .mixedOrders = true) (hN : NamesOK P) (hT : PrimOK P gl T) {f m k : Nat} {l : List Ren} {o : Way} {cd : Code} {S S' : St} {x0 : LExit} {c b : Bool}
    (h : WayFactX P gl T M f m k l o cd S x0 S' c b) (hc : c = true) (hb : b = true) (hM : MapsFix (RenX k l) S'.L) (hA : apartL (RenX k l) S'.L = true) (hn : S'.n = k + l.length) (hg : ∀ g h, gl g = some h → h < k) : Tr P gl k m cd S x0 S' := by
  intro ν x W ⟨h1, h2, h3, h4⟩
  refine way_code hm hN hT h hc hb hM hA h1 h2 h3 h4 fun ν1 W' x' g1 g2 g3 g4 => ⟨rfl, pullNu ν1 (RenX k l), ⟨g3, g2, globOK_pull h3 g1 (fun g h hh => RenX_old (hg g h hh)), fun h hh => ?_⟩, fun h i hh hi => ?_, g4⟩
  · simp [pullNu, RenX_off (show k + l.length ≤ h by omega)]
  · rw [pullNu_at (RenX_old hh)]; exact g1 _ _ hi

theorem Tr.ext {P : Program} {gl : Nat → Option Nat} {k m : Nat} {c : Code} {S : St} {e : LExit} {A : Env} {l l' : List (Nat × Entry)} {n : Nat} (h : Tr P gl k m c S e ⟨A, l, n⟩) (hs : SameL l l') : Tr P gl k m c S e ⟨A, l', n⟩ :=
  fun ν x W hS => wp_mono' (h ν x W hS) fun _ _ _ ⟨he, ν', ⟨h1, h2, h3, h4⟩, h5, h6⟩ => ⟨he, ν', ⟨h1, (hs.rel h2).1, h3, h4⟩, h5, h6.mono (fun _ h => h) fun b hb => .inl ((hs.rel h2).2 b hb)⟩

/-- less is known -/
theorem Tr.less {P : Program} {gl : Nat → Option Nat} {k m : Nat} {c : Code} {S S1 S' : St} {e : LExit} (h : Tr P gl k m c S1 e S') (hA : ∀ x ∈ S1.A, x ∈ S.A) (hL : S.L = S1.L) (hn : S.n = S1.n) : Tr P gl k m c S e S' := by
  intro ν x W ⟨h1, h2, h3, h4⟩
  rw [hL] at h2 ⊢
  exact h ν x W ⟨⟨h1.1, h1.2.1, fun t v hm => h1.2.2 t v (hA _ hm)⟩, h2, h3, by rw [← hn]; exact h4⟩
end Go.Ev
