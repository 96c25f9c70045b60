/- More lemmas of the evaluator: values, comparisons, externals; no conditions beyond the hypotheses named. -/
import Derived.Test.YtggpohgoebicjaaGreatDoorEvA
import Derived.Laws.StructEq
set_option linter.all false
namespace Go.Ev

/-- actions that never look at the memory -/
theorem eqFields_sound {P : Program} {d : Nat} {xs ys : Array Value}
    (ih : ∀ (t : TypeId) (x y : Value) (s : LW) (b : Bool) (s' : LW) (r wf : List Nat), (eqAc P d t x y).out s = some (b, s', r, wf) → s' = s ∧ ∀ w, (Op.equalIn d t x y).run P w = .ok b w) :
    ∀ (fs : List Field) (s : LW) (b : Bool) (s' : LW) (r wf : List Nat),
      (eqFields (eqAc P d) (fun ft off => match partV P ft xs off, partV P ft ys off with | some u, some v => some (u, v) | _, _ => none) fs).out s = some (b, s', r, wf) →
      s' = s ∧ ∀ w, (Op.eqFields d xs ys fs).run P w = .ok b w
  | [], s, b, s', r, wf, h => by
    simp [eqFields] at h
    obtain ⟨rfl, rfl, rfl, rfl⟩ := h
    exact ⟨rfl, fun w => by simp [Op.eqFields]⟩
  | f :: fs, s, b, s', r, wf, h => by
    simp only [eqFields] at h
    by_cases hn : f.name = "_"
    · rw [if_pos hn] at h
      obtain ⟨h1, h2⟩ := eqFields_sound ih fs s b s' r wf h
      exact ⟨h1, fun w => by simp only [Op.eqFields]; rw [if_neg (by simpa using hn)]; exact h2 w⟩
    · rw [if_neg hn] at h
      cases hx : partV P f.type xs f.offset with
      | none => simp [hx] at h
      | some u =>
        cases hy : partV P f.type ys f.offset with
        | none => simp [hx, hy] at h
        | some v =>
          simp only [hx, hy, Ac.out_bind] at h
          cases he : (eqAc P d f.type u v).out s with
          | none => simp [he] at h
          | some p =>
            obtain ⟨b1, s1, r1, w1⟩ := p
            obtain ⟨rfl, e2⟩ := ih _ _ _ _ _ _ _ _ he
            simp only [he, Option.bind_some, Ac.out_br] at h
            have hrun : ∀ w, (Op.eqFields d xs ys (f :: fs)).run P w = if b1 then (Op.eqFields d xs ys fs).run P w else .ok false w := by
              intro w
              simp only [Op.eqFields]
              rw [if_pos (by simpa using hn)]
              have p1 := prun_run _ _ hx w
              have p2 := prun_run _ _ hy w
              simp only [Sem.run_bind, p1, p2, Result.andThen_ok, e2]
              cases b1 <;> simp
            cases b1 with
            | false =>
              simp at h
              obtain ⟨rfl, rfl, rfl, rfl⟩ := h
              exact ⟨rfl, fun w => by simp [hrun]⟩
            | true =>
              simp only [if_true] at h
              cases hq : (eqFields (eqAc P d) (fun ft off => match partV P ft xs off, partV P ft ys off with | some u, some v => some (u, v) | _, _ => none) fs).out s1 with
              | none => rw [hq] at h; simp at h
              | some q =>
                obtain ⟨b2, s2, r2, w2⟩ := q
                rw [hq] at h
                simp at h
                obtain ⟨rfl, rfl, rfl, rfl⟩ := h
                obtain ⟨k1, k2⟩ := eqFields_sound ih fs s1 b2 s2 r2 w2 hq
                exact ⟨k1, fun w => by rw [hrun]; simp [k2]⟩

def eqElemsS (d : Nat) (elem : TypeId) (n : Nat) (xs ys : Array Value) : List Nat → Sem Bool
  | [] => pure true
  | i :: is => do
    let a ← part elem xs (i * n)
    let b ← part elem ys (i * n)
    let r ← Op.equalIn d elem a b
    if (!r) = true then pure false else eqElemsS d elem n xs ys is

theorem eqElems_sound {P : Program} {d : Nat} {elem : TypeId} {n : Nat} {xs ys : Array Value}
    (ih : ∀ (t : TypeId) (x y : Value) (s : LW) (b : Bool) (s' : LW) (r wf : List Nat), (eqAc P d t x y).out s = some (b, s', r, wf) → s' = s ∧ ∀ w, (Op.equalIn d t x y).run P w = .ok b w) :
    ∀ (m i : Nat) (s : LW) (b : Bool) (s' : LW) (r wf : List Nat),
      (eqElems (eqAc P d elem) (fun i => match partV P elem xs (i * n), partV P elem ys (i * n) with | some u, some v => some (u, v) | _, _ => none) i m).out s = some (b, s', r, wf) →
      s' = s ∧ ∀ w, (eqElemsS d elem n xs ys (List.range' i m)).run P w = .ok b w
  | 0, i, s, b, s', r, wf, h => by
    simp [eqElems] at h
    obtain ⟨rfl, rfl, rfl, rfl⟩ := h
    exact ⟨rfl, fun w => by simp [eqElemsS]⟩
  | m + 1, i, s, b, s', r, wf, h => by
    simp only [eqElems] at h
    cases hx : partV P elem xs (i * n) with
    | none => simp [hx] at h
    | some u =>
      cases hy : partV P elem ys (i * n) with
      | none => simp [hx, hy] at h
      | some v =>
        simp only [hx, hy, Ac.out_bind] at h
        cases he : (eqAc P d elem u v).out s with
        | none => simp [he] at h
        | some p =>
          obtain ⟨b1, s1, r1, w1⟩ := p
          obtain ⟨rfl, e2⟩ := ih _ _ _ _ _ _ _ _ he
          simp only [he, Option.bind_some, Ac.out_br] at h
          have hrun : ∀ w, (eqElemsS d elem n xs ys (List.range' i (m + 1))).run P w = if b1 then (eqElemsS d elem n xs ys (List.range' (i + 1) m)).run P w else .ok false w := by
            intro w
            have p1 := prun_run _ _ hx w
            have p2 := prun_run _ _ hy w
            rw [List.range'_succ]
            simp only [eqElemsS, Sem.run_bind, p1, p2, Result.andThen_ok, e2]
            cases b1 <;> simp
          cases b1 with
          | false =>
            simp at h
            obtain ⟨rfl, rfl, rfl, rfl⟩ := h
            exact ⟨rfl, fun w => by simp [hrun]⟩
          | true =>
            simp only [if_true] at h
            cases hq : (eqElems (eqAc P d elem) (fun i => match partV P elem xs (i * n), partV P elem ys (i * n) with | some u, some v => some (u, v) | _, _ => none) (i + 1) m).out s1 with
            | none => rw [hq] at h; simp at h
            | some q =>
              obtain ⟨b2, s2, r2, w2⟩ := q
              rw [hq] at h
              simp at h
              obtain ⟨rfl, rfl, rfl, rfl⟩ := h
              obtain ⟨k1, k2⟩ := eqElems_sound ih m (i + 1) s1 b2 s2 r2 w2 hq
              exact ⟨k1, fun w => by rw [hrun]; simp [k2]⟩

theorem run_equalIn_array {P : Program} (w : World) (d : Nat) (t elem : TypeId) (len n : Nat) (xs ys : Array Value) (ht : P.underlying t = some (.array len elem)) (hn : sizeL P elem = some n) :
    (Op.equalIn (d + 1) t (.agg xs) (.agg ys)).run P w = (eqElemsS d elem n xs ys (List.range' 0 len)).run P w := by
  simp only [Op.equalIn, Sem.run_bind, run_underlying ht, Result.andThen_ok, sizeL_run hn]
  rw [Std.Legacy.Range.forIn_eq_forIn_range']
  simp only [Std.Legacy.Range.size, Nat.sub_zero, Nat.add_sub_cancel, Nat.div_one]
  generalize List.range' 0 len = l
  clear ht
  induction l generalizing w with
  | nil => simp [eqElemsS]
  | cons i is ih =>
    simp only [List.forIn_cons, eqElemsS, Sem.run_bind]
    generalize (part elem xs (i * n)).run P w = r1
    cases r1 with
    | ok a w1 =>
      simp only [Result.andThen_ok]
      generalize (part elem ys (i * n)).run P w1 = r2
      cases r2 with
      | ok b w2 =>
        simp only [Result.andThen_ok]
        generalize (Op.equalIn d elem a b).run P w2 = r3
        cases r3 with
        | ok r w3 =>
          cases r
          · simp only [Result.andThen_ok, Bool.not_false, if_true, Sem.run_pure]
          · simp only [Result.andThen_ok, Bool.not_true, Bool.false_eq_true, if_false, Sem.run_pure]
            exact ih w3
        | halt x w3 => simp [Result.andThen]
      | halt x w2 => simp [Result.andThen]
    | halt x w1 => simp [Result.andThen]

theorem eqAc_sound {P : Program} : ∀ (d : Nat) (t : TypeId) (x y : Value) (s : LW) (b : Bool) (s' : LW) (r wf : List Nat),
    (eqAc P d t x y).out s = some (b, s', r, wf) → s' = s ∧ ∀ w, (Op.equalIn d t x y).run P w = .ok b w := by
  intro d
  induction d with
  | zero => intro t x y s b s' r wf h; simp [eqAc] at h
  | succ d ih =>
    intro t x y s b s' r wf h
    simp only [eqAc] at h
    split at h
    · rename_i a b' hu
      simp at h
      obtain ⟨rfl, rfl, rfl, rfl⟩ := h
      exact ⟨rfl, fun w => by simp [Op.equalIn, run_underlying hu]⟩
    · rename_i k0 k a k' b' hu
      split at h
      · rename_i hk
        subst hk
        simp at h
        obtain ⟨rfl, rfl, rfl, rfl⟩ := h
        exact ⟨rfl, fun w => run_equalIn_int w d t k k0 a b' hu⟩
      · simp at h
    · rename_i a b' hu
      simp at h
      obtain ⟨rfl, rfl, rfl, rfl⟩ := h
      exact ⟨rfl, fun w => by simp [Op.equalIn, run_underlying hu]⟩
    · rename_i fields xs ys hu
      split at h
      · simp at h
      · rename_i hst
        obtain ⟨h1, h2⟩ := eqFields_sound ih fields.toList s b s' r wf h
        refine ⟨h1, fun w => ?_⟩
        have hf : P.fieldsOf t = fields := by simp [Program.fieldsOf, hu]
        have := run_equalIn_struct (P := P) w d t xs ys (by rw [hf]; exact hu) (by simpa using hst)
        rw [this, hf]
        exact h2 w
    · rename_i len elem xs ys hu
      cases hn : sizeL P elem with
      | none => simp [hn] at h
      | some n =>
        simp only [hn] at h
        obtain ⟨h1, h2⟩ := eqElems_sound ih len 0 s b s' r wf h
        exact ⟨h1, fun w => by rw [run_equalIn_array w d t elem len n xs ys hu hn]; exact h2 w⟩
    · simp at h

end Go.Ev

namespace Go.Ev

section
variable {P : Program} {ν : Nu}

/-- the outcome of an operation that leaves the memory alone -/
def Still (ν : Nu) (s : LW) (n : Nat) (out : Out) (s' : LW) (run : World → Result Value) : Prop :=
  s' = s ∧ ∃ v u, out = .val (.o v) n ∧ v1R ν v u ∧ ∀ w, run w = .ok u w

theorem retc_still {s s' : LW} {n : Nat} {out : Out} {r wf : List Nat} {c : Cell} {u : Value} {run : World → Result Value}
    (h : (retc c n).out s = some (out, s', r, wf)) (hc : cellR ν c u) (hr : ∀ w, run w = .ok u w) : Still ν s n out s' run := by
  simp [retc] at h
  obtain ⟨rfl, rfl, rfl, rfl⟩ := h
  exact ⟨rfl, _, u, rfl, hc, hr⟩

theorem eqGuard_plain (op : BinOp) (t : TypeId) (a b : Operand) (x y : Value) (h : ∀ cs, x ≠ .agg cs) (h' : x ≠ .nilIface) (w : World) : (eqGuard op t a b x y).run P w = .ok () w := by
  unfold eqGuard
  cases op <;> first
    | rfl
    | (cases x <;> first | rfl | (exact absurd rfl h') | (exact absurd rfl (h _)))

theorem binPlain_sound {op : BinOp} {t : TypeId} {x y : Value} {n : Nat} {s s' : LW} {out : Out} {r wf : List Nat} (a b : Operand)
    (h : (binPlain P op t x y n).out s = some (out, s', r, wf)) : Still ν s n out s' fun w => (do eqGuard op t a b x y; binOp op t x y : Sem Value).run P w := by
  unfold binPlain at h
  split at h
  · -- quo
    rename_i k p k' q
    split at h
    · rename_i hk; subst hk
      simp only [Ac.out_br, decide_eq_true_eq] at h
      split at h
      · simp at h
      · rename_i hq
        refine retc_still h rfl fun w => ?_
        simp [eqGuard_plain, binOp, Op.intDiv, hq]
    · simp at h
  · -- rem
    rename_i k p k' q
    split at h
    · rename_i hk; subst hk
      simp only [Ac.out_br, decide_eq_true_eq] at h
      split at h
      · simp at h
      · rename_i hq
        refine retc_still h rfl fun w => ?_
        simp [eqGuard_plain, binOp, Op.intDiv, hq]
    · simp at h
  · rename_i k p k' q
    simp only [Ac.out_br, decide_eq_true_eq] at h
    split at h
    · simp at h
    · rename_i hq
      refine retc_still h rfl fun w => ?_
      simp [eqGuard_plain, binOp, Op.shift, hq]
  · rename_i k p k' q
    simp only [Ac.out_br, decide_eq_true_eq] at h
    split at h
    · simp at h
    · rename_i hq
      refine retc_still h rfl fun w => ?_
      simp [eqGuard_plain, binOp, Op.shift, hq]
  · cases hp : prun P (binPlain.eqGuardFree op x y t) with
    | none => simp [hp] at h
    | some v =>
      simp only [hp] at h
      refine retc_still h rfl fun w => ?_
      unfold binPlain.eqGuardFree at hp
      split at hp
      · simp [stuck, prun] at hp
      · simp [stuck, prun] at hp
      · simp [stuck, prun] at hp
      · simp [stuck, prun] at hp
      · rename_i h1 h2 _ _
        have := prun_run _ _ hp w
        simp only [Sem.run_bind, eqGuard_plain op t a b x y (fun cs e => h2 cs e) (fun e => h1 e) w, Result.andThen_ok, this]

theorem plains_spec : ∀ {cs : List Cell} {xs ys : List Value}, plains cs = some xs → All2 (cellR ν) cs ys → ys = xs
  | [], xs, ys, h, h2 => by simp [plains] at h; subst h; cases h2; rfl
  | c :: cs, xs, ys, h, h2 => by
    cases h2 with
    | cons h3 h4 =>
      cases c <;> try (simp [plains, Cell.plain?] at h; done)
      rename_i u
      cases hp : plains cs with
      | none => simp [plains, Cell.plain?, hp] at h
      | some us =>
        simp [plains, Cell.plain?, hp] at h
        subst h
        rw [plains_spec hp h4]
        simp only [cellR] at h3
        rw [h3]

theorem isNilPtr_eq {x : Value} (h : isNilPtr x = true) : x = .pointer none := by
  unfold isNilPtr at h
  split at h
  · rfl
  · simp at h
theorem isNilFunc_eq {x : Value} (h : isNilFunc x = true) : x = .nilFunc := by
  unfold isNilFunc at h
  split at h
  · rfl
  · simp at h

theorem equalIn_nil_ptr {t el : TypeId} (d : Nat) (hu : P.underlying t = some (.pointer el)) (A : Addr) (w : World) :
    (Op.equalIn (d + 1) t (.pointer none) (.pointer (some A))).run P w = .ok false w ∧ (Op.equalIn (d + 1) t (.pointer (some A)) (.pointer none)).run P w = .ok false w := by
  constructor <;> simp [Op.equalIn, run_underlying hu]
theorem equal_nil_ptr {t el : TypeId} (hu : P.underlying t = some (.pointer el)) (A : Addr) (w : World) :
    (Op.equal t (.pointer none) (.pointer (some A))).run P w = .ok false w ∧ (Op.equal t (.pointer (some A)) (.pointer none)).run P w = .ok false w := equalIn_nil_ptr 9999 hu A w
theorem equalIn_nil_func {t : TypeId} {p1 p2 : Array TypeId} {p3 : Bool} (d : Nat) (hu : P.underlying t = some (.func p1 p2 p3)) (fn : Fn) (u v : Array Value) (w : World) :
    (Op.equalIn (d + 1) t .nilFunc (.func fn u v)).run P w = .ok false w ∧ (Op.equalIn (d + 1) t (.func fn u v) .nilFunc).run P w = .ok false w := by
  constructor <;> simp [Op.equalIn, run_underlying hu]
theorem equal_nil_func {t : TypeId} {p1 p2 : Array TypeId} {p3 : Bool} (hu : P.underlying t = some (.func p1 p2 p3)) (fn : Fn) (u v : Array Value) (w : World) :
    (Op.equal t .nilFunc (.func fn u v)).run P w = .ok false w ∧ (Op.equal t (.func fn u v) .nilFunc).run P w = .ok false w := equalIn_nil_func 9999 hu fn u v w
theorem binOp_eql (t : TypeId) (x y : Value) (w : World) (b : Bool) (hb : binOp .eql t x y = (do pure (.bool (← Op.equal t x y)))) (h : (Op.equal t x y).run P w = .ok b w) : (binOp .eql t x y).run P w = .ok (.bool b) w := by
  rw [hb]; simp only [Sem.run_bind, h, Result.andThen_ok, Sem.run_pure]
theorem binOp_neq (t : TypeId) (x y : Value) (w : World) (b : Bool) (hb : binOp .neq t x y = (do pure (.bool (!(← Op.equal t x y))))) (h : (Op.equal t x y).run P w = .ok b w) : (binOp .neq t x y).run P w = .ok (.bool (!b)) w := by
  rw [hb]; simp only [Sem.run_bind, h, Result.andThen_ok, Sem.run_pure]

theorem isNilSlice_eq {x : Value} (h : isNilSlice x = true) : x = .slice none 0 0 := by
  unfold isNilSlice at h
  split at h
  · rfl
  · simp at h
theorem equalIn_nil_slice {t el : TypeId} (d : Nat) (hu : P.underlying t = some (.slice el)) (A : Addr) (l c : Nat) (w : World) :
    (Op.equalIn (d + 1) t (.slice none 0 0) (.slice (some A) l c)).run P w = .ok false w ∧ (Op.equalIn (d + 1) t (.slice (some A) l c) (.slice none 0 0)).run P w = .ok false w := by
  constructor <;> simp [Op.equalIn, run_underlying hu]
theorem equal_nil_slice {t el : TypeId} (hu : P.underlying t = some (.slice el)) (A : Addr) (l c : Nat) (w : World) :
    (Op.equal t (.slice none 0 0) (.slice (some A) l c)).run P w = .ok false w ∧ (Op.equal t (.slice (some A) l c) (.slice none 0 0)).run P w = .ok false w := equalIn_nil_slice 9999 hu A l c w

theorem nil_left {w0 : World} {t : TypeId} {op : BinOp} {x : Value} {c : Cell} {y : Value} (hy : cellR ν c y) {n : Nat} {s s' : LW} (hr : Rel ν s w0) {out : Out} {r wf : List Nat} (a b : Operand)
    (h : (binL.nilOp P t n op x c).out s = some (out, s', r, wf)) :
    (Still ν s n out s' fun w => (do eqGuard op t a b x y; binOp op t x y : Sem Value).run P w) ∧
    (Still ν s n out s' fun w => (do eqGuard op t a b y x; binOp op t y x : Sem Value).run P w) := by
  have key : ∀ (Y : Value), (∀ cs, Y ≠ .agg cs) → Y ≠ .nilIface → (∀ w, (binOp .eql t x Y).run P w = .ok (.bool false) w) → (∀ w, (binOp .eql t Y x).run P w = .ok (.bool false) w) →
      (∀ w, (binOp .neq t x Y).run P w = .ok (.bool true) w) → (∀ w, (binOp .neq t Y x).run P w = .ok (.bool true) w) → (∀ cs, x ≠ .agg cs) → x ≠ .nilIface →
      ∀ {r wf : List Nat}, (binL.said n op).out s = some (out, s', r, wf) →
      (Still ν s n out s' fun w => (do eqGuard op t a b x Y; binOp op t x Y : Sem Value).run P w) ∧
      (Still ν s n out s' fun w => (do eqGuard op t a b Y x; binOp op t Y x : Sem Value).run P w) := by
    intro Y g1 g2 e1 e2 e3 e4 g3 g4 r wf hs
    unfold binL.said at hs
    split at hs
    · exact ⟨retc_still hs rfl fun w => by simp only [Sem.run_bind, eqGuard_plain _ t a b x Y g3 g4 w, Result.andThen_ok, e1],
        retc_still hs rfl fun w => by simp only [Sem.run_bind, eqGuard_plain _ t a b Y x g1 g2 w, Result.andThen_ok, e2]⟩
    · exact ⟨retc_still hs rfl fun w => by simp only [Sem.run_bind, eqGuard_plain _ t a b x Y g3 g4 w, Result.andThen_ok, e3],
        retc_still hs rfl fun w => by simp only [Sem.run_bind, eqGuard_plain _ t a b Y x g1 g2 w, Result.andThen_ok, e4]⟩
    · simp at hs
  have ptr : ∀ (A : Addr), isNilPtr x = true → isPtrT P t = true → (binL.said n op).out s = some (out, s', r, wf) →
      (Still ν s n out s' fun w => (do eqGuard op t a b x (.pointer (some A)); binOp op t x (.pointer (some A)) : Sem Value).run P w) ∧
      (Still ν s n out s' fun w => (do eqGuard op t a b (.pointer (some A)) x; binOp op t (.pointer (some A)) x : Sem Value).run P w) := by
    intro A h1 h2 hs
    obtain rfl := isNilPtr_eq h1
    unfold isPtrT at h2
    split at h2
    · rename_i el hu
      exact key _ (by simp) (by simp) (fun w => binOp_eql _ _ _ _ _ rfl (equal_nil_ptr hu A w).1) (fun w => binOp_eql _ _ _ _ _ rfl (equal_nil_ptr hu A w).2)
        (fun w => binOp_neq _ _ _ _ _ rfl (equal_nil_ptr hu A w).1) (fun w => binOp_neq _ _ _ _ _ rfl (equal_nil_ptr hu A w).2) (by simp) (by simp) hs
    · simp at h2
  unfold binL.nilOp at h
  split at h
  · rename_i a' off'
    split at h
    · rename_i hh
      simp only [Bool.and_eq_true] at hh
      obtain ⟨i, bb, _, _, rfl⟩ := hy
      exact ptr _ hh.1 hh.2 h
    · simp at h
  · split at h
    · rename_i hh
      simp only [Bool.and_eq_true] at hh
      obtain ⟨i, bb, _, _, rfl⟩ := hy
      exact ptr _ hh.1 hh.2 h
    · simp at h
  · split at h
    · rename_i hh
      simp only [Bool.and_eq_true] at hh
      obtain ⟨cs, _, rfl⟩ := hy
      obtain rfl := isNilFunc_eq hh.1
      have h2 := hh.2
      unfold isFuncT at h2
      split at h2
      · rename_i p1 p2 p3 hu
        exact key _ (by simp) (by simp) (fun w => binOp_eql _ _ _ _ _ rfl (equal_nil_func hu _ _ _ w).1) (fun w => binOp_eql _ _ _ _ _ rfl (equal_nil_func hu _ _ _ w).2)
          (fun w => binOp_neq _ _ _ _ _ rfl (equal_nil_func hu _ _ _ w).1) (fun w => binOp_neq _ _ _ _ _ rfl (equal_nil_func hu _ _ _ w).2) (by simp) (by simp) h
      · simp at h2
    · simp at h
  · split at h
    · rename_i a' hh
      simp only [Bool.and_eq_true] at hh
      obtain ⟨i, A, hi, rfl, hA⟩ := hy
      obtain rfl := isNilSlice_eq hh.1
      have h2 := hh.2
      unfold isSliceT at h2
      split at h2
      · rename_i el hu
        rw [Ac.out_get] at h
        cases hs : s a' with
        | none => simp [hs] at h
        | some en =>
          simp only [hs] at h
          rcases en with _ | ⟨ro, rt, sz, m, f⟩ | _
          · simp at h
          · obtain ⟨j, hj, hrow⟩ := hr.ent _ _ hs
            rw [hi] at hj
            obtain rfl := Option.some.inj hj
            obtain ⟨_, _, e3, e4, _, h6⟩ := hrow
            by_cases hm : m = 0
            · simp [hm] at h
            · simp only [hm, decide_false, Ac.out_br] at h
              simp only [Bool.false_eq_true, if_false] at h
              cases hb : i.blk with
              | none => rw [hb] at h6; exact absurd h6.1 (by omega)
              | some bb =>
                rw [hb] at hA
                obtain rfl := hA (by omega)
                cases hsd : (binL.said n op).out s with
                | none => simp [hsd] at h
                | some q =>
                  obtain ⟨o1, s1, r1, w1⟩ := q
                  simp [hsd] at h
                  obtain ⟨rfl, rfl, _, _⟩ := h
                  exact key (r := r1) (wf := w1) _ (by simp) (by simp) (fun w => binOp_eql _ _ _ _ _ rfl (equal_nil_slice hu _ _ _ w).1) (fun w => binOp_eql _ _ _ _ _ rfl (equal_nil_slice hu _ _ _ w).2)
                    (fun w => binOp_neq _ _ _ _ _ rfl (equal_nil_slice hu _ _ _ w).1) (fun w => binOp_neq _ _ _ _ _ rfl (equal_nil_slice hu _ _ _ w).2) (by simp) (by simp) hsd
          · simp at h
      · simp at h2
    · simp at h
  · split at h
    · rename_i a' lo' len' hh
      simp only [Bool.and_eq_true] at hh
      obtain ⟨i, A, c, hi, rfl, hlc, hlo, hll, hA⟩ := hy
      obtain rfl := isNilSlice_eq hh.1
      have h2 := hh.2
      unfold isSliceT at h2
      split at h2
      · rename_i el hu
        rw [Ac.out_get] at h
        cases hs : s a' with
        | none => simp [hs] at h
        | some en =>
          simp only [hs] at h
          rcases en with _ | ⟨ro, rt, sz, m, f⟩ | _
          · simp at h
          · obtain ⟨j, hj, hrow⟩ := hr.ent _ _ hs
            rw [hi] at hj
            obtain rfl := Option.some.inj hj
            obtain ⟨_, _, e3, e4, _, h6⟩ := hrow
            by_cases hm : len' = 0
            · simp [hm] at h
            · simp only [hm, decide_false, Ac.out_br] at h
              simp only [Bool.false_eq_true, if_false] at h
              cases hb : i.blk with
              | none => rw [hb] at h6; exact absurd h6.1 (by omega)
              | some bb =>
                rw [hb] at hA
                obtain rfl := hA (by omega)
                cases hsd : (binL.said n op).out s with
                | none => simp [hsd] at h
                | some q =>
                  obtain ⟨o1, s1, r1, w1⟩ := q
                  simp [hsd] at h
                  obtain ⟨rfl, rfl, _, _⟩ := h
                  exact key (r := r1) (wf := w1) _ (by simp) (by simp) (fun w => binOp_eql _ _ _ _ _ rfl (equal_nil_slice hu _ _ _ w).1) (fun w => binOp_eql _ _ _ _ _ rfl (equal_nil_slice hu _ _ _ w).2)
                    (fun w => binOp_neq _ _ _ _ _ rfl (equal_nil_slice hu _ _ _ w).1) (fun w => binOp_neq _ _ _ _ _ rfl (equal_nil_slice hu _ _ _ w).2) (by simp) (by simp) hsd
          · simp at h
      · simp at h2
    · simp at h
  · simp at h

theorem eqArm {t : TypeId} {xs ys : List Value} {f : Bool → Bool} {n : Nat} {s s' : LW} {out : Out} {r wf : List Nat} {op : BinOp}
    (hop : ∀ w, (binOp op t (.agg xs.toArray) (.agg ys.toArray)).run P w = ((Op.equalIn 10000 t (.agg xs.toArray) (.agg ys.toArray)).run P w).andThen fun b w' => .ok (.bool (f b)) w')
    (hg : P.eqGuardType P.depth t = false) (a b : Operand)
    (h : ((eqAc P Op.maxDepth t (.agg xs.toArray) (.agg ys.toArray)).bind fun b => retc (.v (.bool (f b))) n).out s = some (out, s', r, wf)) :
    Still ν s n out s' fun w => (do eqGuard op t a b (.agg xs.toArray) (.agg ys.toArray); binOp op t (.agg xs.toArray) (.agg ys.toArray) : Sem Value).run P w := by
  rw [Ac.out_bind] at h
  cases he : (eqAc P Op.maxDepth t (.agg xs.toArray) (.agg ys.toArray)).out s with
  | none => simp [he] at h
  | some p =>
    obtain ⟨b1, s1, r1, w1⟩ := p
    obtain ⟨rfl, e2⟩ := eqAc_sound _ _ _ _ _ _ _ _ _ he
    simp [he, retc] at h
    obtain ⟨rfl, rfl, rfl, rfl⟩ := h
    refine ⟨rfl, _, _, rfl, rfl, fun w => ?_⟩
    have e3 := e2 w
    simp only [Op.maxDepth] at e3
    simp only [Sem.run_bind, run_eqGuard_agg w op t a b _ _ hg, Result.andThen_ok, hop, e3]

theorem binL_sound {w0 : World} {op : BinOp} {t : TypeId} {x y : V1} {X Y : Value} (hx : v1R ν x X) (hy : v1R ν y Y) {n : Nat} {s s' : LW} (hr : Rel ν s w0) {out : Out} {r wf : List Nat} (a b : Operand)
    (h : (binL P op t x y n).out s = some (out, s', r, wf)) : Still ν s n out s' fun w => (do eqGuard op t a b X Y; binOp op t X Y : Sem Value).run P w := by
  unfold binL at h
  split at h
  · simp only [v1R, cellR] at hx hy
    subst hx; subst hy
    exact binPlain_sound a b h
  · rename_i xs ys
    obtain ⟨xs', hx1, rfl⟩ := hx
    obtain ⟨ys', hy1, rfl⟩ := hy
    cases hpx : plains xs with
    | none => simp [hpx] at h
    | some px =>
      cases hpy : plains ys with
      | none => simp [hpx, hpy] at h
      | some py =>
        simp only [hpx, hpy] at h
        obtain rfl := plains_spec hpx hx1
        obtain rfl := plains_spec hpy hy1
        split at h
        · simp at h
        · rename_i hg
          have hg' : P.eqGuardType P.depth t = false := by simpa using hg
          cases op <;> try (simp at h; done)
          · exact eqArm (f := id) (fun w => run_eql_struct w t _ _) hg' a b h
          · exact eqArm (f := not) (fun w => run_neq_struct w t _ _) hg' a b h
  · simp only [v1R, cellR] at hx
    subst hx
    exact (nil_left hy hr a b h).1
  · simp only [v1R, cellR] at hy
    subst hy
    exact (nil_left hx hr a b h).2
  · simp at h

/-! ## places -/
theorem fieldOff_run {st : TypeId} {f d : Nat} (h : fieldOff P st f = some d) (b o : Nat) (w : World) :
    (Instr.fieldAt st (.pointer (some ⟨b, o, none⟩)) f).run P w = .ok (.pointer (some ⟨b, o + d, none⟩)) w := by
  unfold fieldOff at h
  split at h
  · rename_i fields hu
    split at h
    · rename_i fd hf
      split at h
      · simp at h
      · rename_i m hm hs
        obtain rfl := Option.some.inj h
        simp only [Instr.fieldAt, Sem.run_bind, run_underlying hu, Result.andThen_ok, hf, Instr.sureAddr, Sem.run_pure, fieldPlace, sizeL_run hs]
        rw [if_neg (fun e => hm e)]
        simp [Addr.add_lit]
      · simp at h
    · simp at h
  · simp at h

theorem sliceIn_spec {c : Cell} {k : SliceIn → Ac Out} {s s' : LW} {out : Out} {r wf : List Nat} (h : (sliceIn c k).out s = some (out, s', r, wf)) :
    ∃ d : SliceIn, (∃ n, s d.h = some (.row d.ro d.t d.sz n d.f) ∧ ((c = .r d.h ∧ d.lo = 0 ∧ d.len = n) ∨ c = .s d.h d.lo d.len)) ∧ ∃ r', (k d).out s = some (out, s', r', wf) := by
  unfold sliceIn at h
  split at h
  · rename_i a
    simp only [Ac.out_get] at h
    cases hs : s a with
    | none => simp [hs] at h
    | some e =>
      simp only [hs] at h
      cases e with
      | row ro t sz n f =>
        simp only [] at h
        cases hk : (k ⟨a, ro, t, sz, 0, n, f⟩).out s with
        | none => simp [hk] at h
        | some p =>
          obtain ⟨o1, s1, r1, w1⟩ := p
          simp [hk] at h
          obtain ⟨rfl, rfl, rfl, rfl⟩ := h
          exact ⟨⟨a, ro, t, sz, 0, n, f⟩, ⟨n, hs, .inl ⟨rfl, rfl, rfl⟩⟩, r1, hk⟩
      | cells _ _ => simp at h
      | map _ => simp at h
  · rename_i a lo len
    simp only [Ac.out_get] at h
    cases hs : s a with
    | none => simp [hs] at h
    | some e =>
      simp only [hs] at h
      cases e with
      | row ro t sz n f =>
        simp only [] at h
        cases hk : (k ⟨a, ro, t, sz, lo, len, f⟩).out s with
        | none => simp [hk] at h
        | some p =>
          obtain ⟨o1, s1, r1, w1⟩ := p
          simp [hk] at h
          obtain ⟨rfl, rfl, rfl, rfl⟩ := h
          exact ⟨⟨a, ro, t, sz, lo, len, f⟩, ⟨n, hs, .inr rfl⟩, r1, hk⟩
      | cells _ _ => simp at h
      | map _ => simp at h
  · simp at h

/-- what a slice's value is -/
theorem slice_val {w : World} {s : LW} (hr : Rel ν s w) {c : Cell} {y : Value} (hy : cellR ν c y) {d : SliceIn} {n : Nat} (hs : s d.h = some (.row d.ro d.t d.sz n d.f))
    (hc : (c = .r d.h ∧ d.lo = 0 ∧ d.len = n) ∨ c = .s d.h d.lo d.len) :
    ∃ i A cap, ν d.h = some i ∧ rowR ν i d.ro d.t d.sz n d.f w ∧ y = .slice A d.len cap ∧ d.len ≤ cap ∧ d.lo + cap = i.cap ∧ d.lo + d.len ≤ n ∧ (cap ≠ 0 → A = i.blk.map fun b => ⟨b, i.base + d.lo * i.sz, none⟩) := by
  obtain ⟨i, g1, g2⟩ := hr.ent _ _ hs
  have g3 := g2
  obtain ⟨e1, e2, e3, e4, e5, e6⟩ := g3
  rcases hc with ⟨rfl, h1, h2⟩ | rfl
  · obtain ⟨i', A, k1, rfl, kA⟩ := hy
    rw [g1] at k1; obtain rfl := Option.some.inj k1
    exact ⟨i, A, i.cap, g1, g2, by rw [h2, e3], by omega, by omega, by omega, fun hc => by rw [kA hc, h1]; cases i.blk <;> simp⟩
  · obtain ⟨i', A, cap, k1, rfl, k2, k3, k5, k4⟩ := hy
    rw [g1] at k1; obtain rfl := Option.some.inj k1
    exact ⟨i, A, cap, g1, g2, rfl, k2, k3, by omega, k4⟩


end
end Go.Ev

namespace Go.Ev

section
variable {P : Program} {ν : Nu}

theorem partL_run {t : TypeId} {cs : List Cell} {ys : List Value} {off : Nat} {v : V1} (h : partL P t cs off = some v) (hr : All2 (cellR ν) cs ys) :
    ∃ u, v1R ν v u ∧ ∀ w, (part t ys.toArray off).run P w = .ok u w := by
  unfold partL at h
  cases hA : isAggL P t with
  | none => simp [hA] at h
  | some g =>
    cases hS : sizeL P t with
    | none => cases g <;> simp [hA, hS] at h
    | some n =>
      cases g with
      | true =>
        simp only [hA, hS] at h
        split at h
        · obtain rfl := Option.some.inj h
          refine ⟨.agg ((ys.drop off).take n).toArray, ⟨_, (hr.drop off).take n, rfl⟩, fun w => ?_⟩
          simp only [part, Sem.run_bind, isAggL_run hA, Result.andThen_ok, if_true, sizeL_run hS, Sem.run_pure]
          rw [List.extract_toArray]
          simp [List.extract_eq_take_drop]
        · simp at h
      | false =>
        simp only [hA, hS] at h
        cases hc : cs[off]? with
        | none => simp [hc] at h
        | some c =>
          simp [hc] at h
          subst h
          obtain ⟨y, e1, e2⟩ := hr.get hc
          refine ⟨y, e2, fun w => ?_⟩
          simp only [part, Sem.run_bind, isAggL_run hA, Result.andThen_ok, Bool.false_eq_true, if_false]
          rw [show ys.toArray[off]? = some y by simpa using e1]
          simp

theorem indexAddrL_sound {s : LW} {w : World} (hr : Rel ν s w) {t : TypeId} {x : V1} {X : Value} (hx : v1R ν x X) {k : IntKind} {i : Int} {n : Nat} {s' : LW} {out : Out} {r wf : List Nat}
    (h : (indexAddrL P t x i n).out s = some (out, s', r, wf)) : Still ν s n out s' fun w => (Instr.indexAt t X (.int k i)).run P w := by
  unfold indexAddrL at h
  split at h
  · rename_i e c hu
    obtain ⟨d, ⟨m, hs, hc⟩, r', h⟩ := sliceIn_spec h
    split at h
    · rename_i hsz
      simp only [chk, Ac.out_br, decide_eq_true_eq] at h
      split at h
      · rename_i hi
        obtain ⟨j, A, cap, g1, g2, rfl, g3, g4, g6, g5⟩ := slice_val hr (c := c) hx hs hc
        have hcap : cap ≠ 0 := by omega
        have hA := g5 hcap
        obtain ⟨e1, e2, e3, e4, e5, e6⟩ := g2
        cases hb : j.blk with
        | none => simp only [hb] at e6; omega
        | some b =>
          rw [hb] at hA
          subst hA
          refine retc_still h ⟨j, b, g1, hb, rfl⟩ fun w => ?_
          simp only [Instr.indexAt, asIntOf, Sem.run_bind, Sem.run_pure, Result.andThen_ok, run_underlying hu, Option.map_some, hi, and_self, if_true, sizeL_run hsz, Addr.add_lit, Bool.and_false]
          rw [e1, Nat.add_mul, Nat.add_zero, Nat.add_assoc]
      · simp at h
    · simp at h
  · rename_i len elem a off hu
    cases hsz : sizeL P elem with
    | none => simp [hsz] at h
    | some sz =>
      simp only [hsz, chk, Ac.out_br, decide_eq_true_eq] at h
      split at h
      · rename_i hi
        obtain ⟨j, b, h1, h2, rfl⟩ := hx
        split at h
        · rename_i h1'
          subst h1'
          refine retc_still h ⟨j, b, h1, h2, rfl⟩ fun w => ?_
          simp only [Instr.indexAt, asIntOf, Instr.sureAddr, Sem.run_bind, Sem.run_pure, Result.andThen_ok, run_underlying hu, hi, and_self, if_true, sizeL_run hsz, Addr.add_lit]
          rw [Nat.mul_one, Nat.add_assoc]
        · refine retc_still h ⟨j, b, h1, h2, rfl⟩ fun w => ?_
          simp only [Instr.indexAt, asIntOf, Instr.sureAddr, Sem.run_bind, Sem.run_pure, Result.andThen_ok, run_underlying hu, hi, and_self, if_true, sizeL_run hsz, Addr.add_lit]
          rw [Nat.add_assoc]
      · simp at h
  · simp at h

theorem indexL_sound {t : TypeId} {x : V1} {X : Value} (hx : v1R ν x X) {i : Value} {n : Nat} {s s' : LW} {out : Out} {r wf : List Nat}
    (h : (indexL P t x i n).out s = some (out, s', r, wf)) : Still ν s n out s' fun w => (Instr.index t X i).run P w := by
  unfold indexL at h
  split at h
  · rename_i u
    simp only [v1R, cellR] at hx
    subst hx
    cases hp : prun P (Instr.index t X i) with
    | none => simp [hp] at h
    | some v =>
      simp only [hp] at h
      exact retc_still h rfl (prun_run _ _ hp)
  · rename_i cs
    obtain ⟨ys, h1, rfl⟩ := hx
    split at h
    · rename_i len elem k i hu
      cases hk : intKindL P elem with
      | some kd =>
        simp only [hk] at h
        cases hx : intsOf kd (cs.take len) with
        | none => simp [hx] at h
        | some xs =>
          simp only [hx] at h
          split at h
          · rename_i hl
            simp only [chk, Ac.out_br, decide_eq_true_eq] at h
            split at h
            · rename_i hi
              have hm := intsOf_spec hx (h1.take len)
              have hcell : ys.toArray[i.toNat * 1]? = some (.int kd (xs.getD i.toNat 0)) := by
                have : (ys.take len)[i.toNat]? = some (.int kd (xs.getD i.toNat 0)) := by
                  rw [hm]; simp [List.getD_eq_getElem?_getD, show i.toNat < xs.length by omega]
                rw [List.getElem?_take, if_pos (by omega)] at this
                simpa using this
              refine retc_still h rfl fun w => ?_
              simp only [Instr.index, asIntOf, Sem.run_bind, Sem.run_pure, Result.andThen_ok, run_underlying hu, hi, and_self, if_true, sizeL_run hl.2, part, isAggL_run (intKindL_agg hk), Bool.false_eq_true, if_false, hcell]
            · simp at h
          · simp at h
      | none =>
        simp only [hk] at h
        cases hsz : sizeL P elem with
        | none => simp [hsz] at h
        | some sz =>
          simp only [hsz, chk, Ac.out_br, decide_eq_true_eq] at h
          split at h
          · rename_i hi
            cases hp : partL P elem cs (i.toNat * sz) with
            | none => simp [hp] at h
            | some v =>
              simp [hp, retv] at h
              obtain ⟨rfl, rfl, rfl, rfl⟩ := h
              obtain ⟨u, k1, k2⟩ := partL_run hp h1
              refine ⟨rfl, v, u, rfl, k1, fun w => ?_⟩
              simp only [Instr.index, asIntOf, Sem.run_bind, Sem.run_pure, Result.andThen_ok, run_underlying hu, hi, and_self, if_true, sizeL_run hsz]
              exact k2 w
          · simp at h
    · simp at h
  · simp at h

theorem boundL_spec {x : Option V1} {d : Int} {k : Int → Ac Out} {s s' : LW} {out : Out} {r wf : List Nat} (h : (boundL x d k).out s = some (out, s', r, wf)) :
    ∃ v : Int, ((x = none ∧ v = d) ∨ ∃ kd, x = some (.c (.v (.int kd v)))) ∧ (k v).out s = some (out, s', r, wf) := by
  unfold boundL at h
  split at h
  · exact ⟨d, .inl ⟨rfl, rfl⟩, h⟩
  · rename_i kd i
    exact ⟨i, .inr ⟨kd, rfl⟩, h⟩
  · simp at h

theorem sliceL_sound {s : LW} {w : World} (hr : Rel ν s w) {t : TypeId} {x : V1} {X : Value} (hx : v1R ν x X) {lo hi : Option V1} {Lo Hi : Option Value}
    (hlo : match lo, Lo with | none, none => True | some l, some L => v1R ν l L | _, _ => False) (hhi : match hi, Hi with | none, none => True | some l, some L => v1R ν l L | _, _ => False)
    {n : Nat} {s' : LW} {out : Out} {r wf : List Nat}
    (h : (sliceL P t x lo hi n).out s = some (out, s', r, wf)) : Still ν s n out s' fun w => (Instr.sliceAt t X Lo Hi none).run P w := by
  unfold sliceL at h
  split at h
  · rename_i u
    simp only [v1R, cellR] at hx
    subst hx
    have fin : ∀ {v : Option Value} {run : Sem Value}, prun P run = v → (match v with | some v => retc (.v v) n | none => .stuck : Ac Out).out s = some (out, s', r, wf) → Still ν s n out s' fun w => run.run P w := by
      intro v run hp h
      cases v with
      | none => simp at h
      | some v => exact retc_still h rfl (prun_run _ _ hp)
    split at h
    · cases Lo <;> cases Hi <;> simp at hlo hhi
      exact fin rfl h
    · cases Lo <;> cases Hi <;> simp at hlo hhi
      simp only [v1R, cellR] at hlo; subst hlo
      exact fin rfl h
    · cases Lo <;> cases Hi <;> simp at hlo hhi
      simp only [v1R, cellR] at hhi; subst hhi
      exact fin rfl h
    · cases Lo <;> cases Hi <;> simp at hlo hhi
      simp only [v1R, cellR] at hlo hhi; subst hlo; subst hhi
      exact fin rfl h
    · simp at h
  · rename_i c hcne
    split at h
    · rename_i e hu
      obtain ⟨d, ⟨m, hs, hc⟩, r', h2⟩ := sliceIn_spec h
      split at h2
      · simp at h2
      · rename_i hsz
        have hsz : sizeL P e = some d.sz := by simpa using hsz
        obtain ⟨j, A, cap, g1, g2, rfl, g3, g4, g6, g5⟩ := slice_val hr (c := c) hx hs hc
        obtain ⟨e1, e2, e3, e4, e5, e6⟩ := g2
        obtain ⟨hv, hvh, h3⟩ := boundL_spec h2
        clear h h2
        simp only [chk, Ac.out_br, decide_eq_true_eq] at h3
        split at h3
        case isFalse => simp at h3
        rename_i hh
        obtain ⟨hv0, hvl⟩ := hh
        obtain ⟨lv, lvh, h4⟩ := boundL_spec h3
        clear h3
        simp only [Ac.out_br, decide_eq_true_eq] at h4
        split at h4
        case isFalse => simp at h4
        rename_i hh
        obtain ⟨lv0, lvl⟩ := hh
        have hhr : ∀ w, (match Hi with | some v => Instr.sliceBound v cap .sliceAcap | none => pure d.len : Sem Nat).run P w = .ok hv.toNat w := by
          intro w
          rcases hvh with ⟨rfl, rfl⟩ | ⟨kd, rfl⟩
          · cases Hi with
            | some _ => simp at hhi
            | none => simp
          · cases Hi with
            | none => simp at hhi
            | some H =>
              simp only [v1R, cellR] at hhi
              subst hhi
              simp only [Instr.sliceBound, asIntOf, Sem.run_bind, Sem.run_pure, Result.andThen_ok]
              rw [if_pos ⟨hv0, by omega⟩]
              rfl
        have hlr : ∀ w, (match Lo with | some v => Instr.sliceBound v hv.toNat .sliceB | none => pure 0 : Sem Nat).run P w = .ok lv.toNat w := by
          intro w
          rcases lvh with ⟨rfl, rfl⟩ | ⟨kd, rfl⟩
          · cases Lo with
            | some _ => simp at hlo
            | none => simp
          · cases Lo with
            | none => simp at hlo
            | some L =>
              simp only [v1R, cellR] at hlo
              subst hlo
              simp only [Instr.sliceBound, asIntOf, Sem.run_bind, Sem.run_pure, Result.andThen_ok]
              rw [if_pos ⟨lv0, by omega⟩]
              rfl
        have h := h4
        simp [retc] at h
        obtain ⟨rfl, rfl, rfl, rfl⟩ := h
        refine ⟨rfl, _, .slice (if cap = lv.toNat then A else A.map (·.add (lv.toNat * d.sz))) (hv.toNat - lv.toNat) (cap - lv.toNat), rfl, ?_, fun w => ?_⟩
        · refine ⟨j, _, _, g1, by rw [show hv.toNat - lv.toNat = (hv - lv).toNat by omega], by omega, by omega, by omega, fun hne => ?_⟩
          rw [if_neg (by omega), g5 (by omega)]
          cases j.blk with
          | none => rfl
          | some b => simp [Addr.add_lit, Nat.add_mul, e1, Nat.add_assoc]
        · simp only [Instr.sliceAt, Sem.run_bind, run_underlying hu, Result.andThen_ok, Instr.slice, Instr.sliceBounds]
          have hhw := hhr w
          have hlw := hlr w
          cases Hi with
          | none =>
            simp only [Sem.run_pure, Result.ok.injEq, and_true] at hhw
            cases Lo with
            | none =>
              simp only [Sem.run_pure, Result.ok.injEq, and_true] at hlw
              simp [sizeL_run hsz, hhw, hlw]
            | some L =>
              simp only [] at hlw
              simp [sizeL_run hsz, hhw, hlw]
          | some H =>
            simp only [] at hhw
            cases Lo with
            | none =>
              simp only [Sem.run_pure, Result.ok.injEq, and_true] at hlw
              simp [sizeL_run hsz, hhw, hlw]
            | some L =>
              simp only [] at hlw
              simp [sizeL_run hsz, hhw, hlw]
    · simp at h
  · simp at h

end
end Go.Ev

namespace Go.Ev

section
variable {P : Program} {ν : Nu}

theorem zeroL_spec {t : TypeId} {z : List Cell} (h : zeroL P t = some z) : ∃ i v, P.info? t = some i ∧ i.zero = some v ∧ z = v.cells.toList.map Cell.v := by
  unfold zeroL at h
  cases hi : P.info? t with
  | none => simp [hi] at h
  | some i =>
    simp only [hi] at h
    cases hz : i.zero with
    | none => simp [hz] at h
    | some v => exact ⟨i, v, rfl, hz, by simpa [hz] using h.symm⟩

theorem zero_run {t : TypeId} {i : TypeInfo} {v : Value} (hi : P.info? t = some i) (hz : i.zero = some v) (w : World) : (zeroValue t).run P w = .ok v w := by
  simp [zeroValue, typeInfo, hi, hz]

theorem vcells_R (ν : Nu) (l : List Value) : All2 (cellR ν) (l.map Cell.v) l :=
  All2.map_left (All2.of_get rfl fun i x y hx hy => by rw [hx] at hy; exact (Option.some.inj hy).symm)

/-- a new block of cells -/
theorem newCells_sound {s : LW} {w : World} (hr : Rel ν s w) {t : TypeId} {cs : List Cell} {ys : List Value} (hc : All2 (cellR ν) cs ys) {n : Nat} (hf : Fresh ν n (n + 1)) {out : Out} {s' : LW} {r wf : List Nat}
    (h : (newCells t cs n).out s = some (out, s', r, wf)) :
    ∃ ν' v, out = .val v (n + 1) ∧ Step ν s w ν' s' (w.alloc (.cells ys.toArray t)) n (n + 1) ∧ Rel ν' s' (w.alloc (.cells ys.toArray t)) ∧ lvR ν' v (.pointer (some ⟨w.heap.size, 0, none⟩)) := by
  unfold newCells at h
  split at h
  case isFalse => simp at h
  rename_i hok
  simp [Ac.out_put] at h
  obtain ⟨rfl, rfl, rfl, rfl⟩ := h
  have hn : ν n = none := hf n (Nat.le_refl _) (by omega)
  have key := alloc_new (i := ⟨some w.heap.size, 0, 0, 0, 0⟩) (e := .cells t cs) (o := .cells ys.toArray t) hr hf rfl
    ⟨w.heap.size, ys, rfl, rfl, heap_alloc_new w _, (allOK_R hok hc).mono fun _ _ => hR_mono (Nu.le_set _ hn)⟩
  exact ⟨_, _, rfl, key.2, key.1, ⟨_, w.heap.size, Nu.set_same _ _ _, rfl, rfl⟩⟩

/-! ## literals -/
theorem foldl_setCells : ∀ (vs : List Value) (off j : Nat) (cells : Array Value), off + j + vs.length ≤ cells.size →
    ((vs.zipIdx j).foldl (fun cs (c, j) => cs.setIfInBounds (off + j) c) cells).toList = cells.toList.take (off + j) ++ vs ++ cells.toList.drop (off + j + vs.length)
  | [], off, j, cells, _ => by simp
  | v :: vs, off, j, cells, h => by
    simp only [List.length_cons] at h
    rw [List.zipIdx_cons, List.foldl_cons, foldl_setCells vs off (j + 1) _ (by simp; omega)]
    simp only [Array.toList_setIfInBounds]
    have hl : off + j < cells.toList.length := by simp; omega
    have h1 : (cells.toList.set (off + j) v).take (off + (j + 1)) = cells.toList.take (off + j) ++ [v] := by
      rw [← Nat.add_assoc, List.take_add_one, List.take_set_of_le (by omega)]
      simp only [List.append_cancel_left_eq]
      rw [List.getElem?_set_self (by simpa using hl)]
      rfl
    have h2 : (cells.toList.set (off + j) v).drop (off + (j + 1) + vs.length) = cells.toList.drop (off + (j + 1) + vs.length) := by rw [List.drop_set_of_lt (by omega)]
    rw [h1, h2]
    simp [List.append_assoc, Nat.add_assoc, Nat.add_comm 1]

theorem fillL_sound {place : Nat → Option (Nat × Nat)} : ∀ {ps : List (Nat × V1)} {vs : List (Nat × Value)} {cs cs' : List Cell} {ys : List Value},
    fillL place cs ps = some cs' → All2 (cellR ν) cs ys → All2 (fun (p : Nat × V1) (v : Nat × Value) => v.1 = p.1 ∧ v1R ν p.2 v.2) ps vs →
    ∃ ys', Instr.fill place ys.toArray vs = some ys'.toArray ∧ All2 (cellR ν) cs' ys' ∧ cs'.length = cs.length
  | [], vs, cs, cs', ys, h, hc, hp => by
    cases hp
    simp [fillL] at h
    subst h
    exact ⟨ys, by simp [Instr.fill], hc, rfl⟩
  | (i, v) :: ps, vs, cs, cs', ys, h, hc, hp => by
    cases hp with
    | @cons _ q _ qs h1 h2 =>
      obtain ⟨qi, qv⟩ := q
      obtain ⟨rfl, hv⟩ := h1
      simp only [fillL] at h
      cases hpl : place qi with
      | none => simp [hpl] at h
      | some os =>
        obtain ⟨off, size⟩ := os
        simp only [hpl] at h
        split at h
        · rename_i hh
          obtain ⟨hok, hlen, hfit⟩ := hh
          have hcells := hR_cell (v1_cells hok hv)
          have hqs : qv.cells.size = size := by have := hcells.length; simp at this; omega
          have hys := hc.length
          have hnew : All2 (cellR ν) (setFrom cs off v.cells) (ys.take off ++ qv.cells.toList ++ ys.drop (off + size)) := by
            rw [setFrom_eq _ _ _ (by omega), hlen]
            exact ((hc.take off).append hcells).append (hc.drop _)
          obtain ⟨ys', e1, e2, e3⟩ := fillL_sound h hnew h2
          refine ⟨ys', ?_, e2, by rw [e3, setFrom_length]⟩
          simp only [Instr.fill, hpl]
          rw [if_neg (by simp [hqs]; omega)]
          have hf := foldl_setCells qv.cells.toList off 0 ys.toArray (by simp [hqs]; omega)
          have : (qv.cells.zipIdx.foldl (fun cs (x : Value × Nat) => cs.setIfInBounds (off + x.2) x.1) ys.toArray) = (ys.take off ++ qv.cells.toList ++ ys.drop (off + size)).toArray := by
            apply Array.ext'
            rw [← Array.foldl_toList, Array.toList_zipIdx]
            rw [hf]
            simp [hqs]
          rw [this]
          exact e1
        · simp at h

theorem partsL_spec {gl : Nat → Option Nat} {a : LAct} {x : Act} (ha : ActR ν a x) (hg : GlobOK gl ν) : ∀ {l : List (Nat × Operand)} {ps : List (Nat × V1)}, partsL gl a l = some ps →
    All2 (fun (p : Nat × V1) (v : Nat × Value) => v.1 = p.1 ∧ v1R ν p.2 v.2) ps (l.map fun (i, o) => (i, x.eval o))
  | [], ps, h => by simp [partsL] at h; subst h; exact .nil
  | (i, o) :: l, ps, h => by
    simp only [partsL] at h
    cases h1 : one? (evalL gl a o) with
    | none => simp [h1] at h
    | some v =>
      cases h2 : partsL gl a l with
      | none => simp [h1, h2] at h
      | some vs =>
        simp [h1, h2] at h
        subst h
        refine .cons ⟨rfl, ?_⟩ (partsL_spec ha hg h2)
        have := ha.eval hg o
        unfold one? at h1
        split at h1
        · rename_i he; obtain rfl := Option.some.inj h1; rw [he] at this; exact this
        · simp at h1

theorem build_sound {t : TypeId} {z : List Cell} (hz : zeroL P t = some z) {ps : List (Nat × V1)} {vs : List (Nat × Value)} (hp : All2 (fun (p : Nat × V1) (v : Nat × Value) => v.1 = p.1 ∧ v1R ν p.2 v.2) ps vs)
    {pl : Nat → Option (Nat × Nat)} (hpl : places P t = some pl) {cs : List Cell} (hf : fillL pl z ps = some cs) : ∃ u, v1R ν (.a cs) u ∧ ∀ w, (Instr.build t vs.toArray).run P w = .ok u w := by
  obtain ⟨i, v, h1, h2, rfl⟩ := zeroL_spec hz
  obtain ⟨ys', e1, e2, _⟩ := fillL_sound hf (vcells_R ν v.cells.toList) hp
  refine ⟨.agg ys'.toArray, ⟨ys', e2, rfl⟩, fun w => ?_⟩
  unfold places at hpl
  split at hpl
  · rename_i fields hu
    split at hpl
    · rename_i pl' hm
      obtain rfl := Option.some.inj hpl
      have e1' : Instr.fill (fun i => pl'[i]?) v.cells vs = some ys'.toArray := by simpa using e1
      simp [Instr.build, zero_run h1 h2, run_underlying hu, Array.mapM_eq_mapM_toList, run_places w _ _ hm, e1']
    · simp at hpl
  · rename_i len elem hu
    split at hpl
    · rename_i m hm
      obtain rfl := Option.some.inj hpl
      have e1' : Instr.fill (fun i => some (i * m, m)) v.cells vs = some ys'.toArray := by simpa using e1
      simp [Instr.build, zero_run h1 h2, run_underlying hu, sizeL_run hm, e1']
    · simp at hpl
  · simp at hpl

theorem madeCells_list (z : List Value) (sz : Nat) (hz : z.length = sz) (hpos : 0 < sz) : ∀ n, (madeCells z.toArray (n * sz)).toList = (List.replicate n z).flatten
  | 0 => by simp [madeCells]
  | n + 1 => by
    have ih := madeCells_list z sz hz hpos n
    have e1 : (madeCells z.toArray ((n + 1) * sz)).toList = (List.range ((n + 1) * sz)).map fun i => z.toArray[i % z.toArray.size]! := by simp [madeCells, Array.toList_range]
    have e2 : (madeCells z.toArray (n * sz)).toList = (List.range (n * sz)).map fun i => z.toArray[i % z.toArray.size]! := by simp [madeCells, Array.toList_range]
    rw [e1, Nat.succ_mul, List.range_add, List.map_append, ← e2, ih, List.replicate_succ', List.flatten_append]
    congr 1
    simp only [List.map_map, List.flatten_cons, List.flatten_nil, List.append_nil]
    apply List.ext_getElem
    · simp [hz]
    · intro i h1 h2
      have hi : i < sz := by simpa using h1
      simp [hz]
      rw [Nat.mod_eq_of_lt hi, List.getElem?_eq_getElem h2]
      rfl

theorem replicate_R {z : List Cell} {z' : List Value} (h : All2 (cellR ν) z z') : ∀ n, All2 (cellR ν) (List.replicate n z).flatten (List.replicate n z').flatten
  | 0 => .nil
  | n + 1 => by
    rw [List.replicate_succ, List.replicate_succ, List.flatten_cons, List.flatten_cons]
    exact h.append (replicate_R h n)

theorem chunk_R {cs : List Cell} {ys : List Value} (h : All2 (hR ν) cs ys) {sz n : Nat} (hl : cs.length = n * sz) {j : Nat} (hj : j < n) :
    ∃ us, All2 (hR ν) (chunk sz cs j) us ∧ us.length = sz ∧ ∀ k y, us[k]? = some y → ys[j * sz + k]? = some y := by
  refine ⟨(ys.drop (j * sz)).take sz, (h.drop _).take _, ?_, fun k y hk => ?_⟩
  · have := h.length
    simp
    have : j * sz + sz ≤ n * sz := by rw [← Nat.succ_mul]; exact Nat.mul_le_mul_right _ hj
    omega
  · rw [List.getElem?_take] at hk
    split at hk
    · simpa [List.getElem?_drop] using hk
    · simp at hk

/-- a new row -/
theorem newRow_sound {s : LW} {w : World} (hr : Rel ν s w) {t : TypeId} {sz len cap : Nat} {f : Nat → List Cell} {cur : Array Value} {n : Nat} (hf : Fresh ν n (n + 1))
    (hpos : 0 < sz) (hlc : len ≤ cap) (hmax : cap ≤ maxLen) (hcur : cur.size = cap * sz)
    (hcells : ∀ j, j < len → ∃ ys, All2 (hR ν) (f j) ys ∧ ys.length = sz ∧ ∀ k y, ys[k]? = some y → cur[j * sz + k]? = some y) :
    ∃ ν', Step ν s w ν' (s.upd n (some (.row false t sz len f))) (w.alloc (.cells cur t)) n (n + 1) ∧ Rel ν' (s.upd n (some (.row false t sz len f))) (w.alloc (.cells cur t)) ∧
      v1R ν' (.c (.r n)) (.slice (some ⟨w.heap.size, 0, none⟩) len cap) := by
  have hn : ν n = none := hf n (Nat.le_refl _) (by omega)
  have key := alloc_new (i := ⟨some w.heap.size, 0, cap, sz, len⟩) (e := .row false t sz len f) (o := .cells cur t) hr hf rfl
    ⟨rfl, hpos, rfl, hlc, hmax, cur, t, (0, 0), heap_alloc_new w _, by simp [hcur], fun _ => ⟨rfl, hcur, rfl, rfl⟩, fun j hj => by
      obtain ⟨ys, h1, h2, h3⟩ := hcells j hj
      exact ⟨ys, h1.mono fun _ _ => hR_mono (Nu.le_set _ hn), h2, fun k y hk => by simpa using h3 k y hk⟩⟩
  exact ⟨_, key.2, key.1, ⟨_, _, Nu.set_same _ _ _, rfl, fun _ => rfl⟩⟩

end
end Go.Ev

namespace Go.Ev

section
variable {P : Program} {ν : Nu}

/-- the cells of a row's elements, got one by one -/
def RowCells (ν : Nu) (f : Nat → List Cell) (n sz : Nat) (get : Nat → Option Value) : Prop :=
  ∀ j, j < n → ∃ ys, All2 (hR ν) (f j) ys ∧ ys.length = sz ∧ ∀ k y, ys[k]? = some y → get (j * sz + k) = some y

theorem RowCells.at {f : Nat → List Cell} {n sz : Nat} {get : Nat → Option Value} (h : RowCells ν f n sz get) (hsz : 0 < sz) {l : Nat} (hl : l < n * sz) : ∃ v, get l = some v ∧ v.oneCell' = true := by
  have hj : l / sz < n := by rw [Nat.div_lt_iff_lt_mul hsz]; exact hl
  obtain ⟨ys, h1, h2, h3⟩ := h (l / sz) hj
  have hk : l % sz < ys.length := by rw [h2]; exact Nat.mod_lt _ hsz
  have h4 := h3 (l % sz) _ (List.getElem?_eq_getElem hk)
  rw [show l / sz * sz + l % sz = l by rw [Nat.mul_comm]; exact Nat.div_add_mod l sz] at h4
  exact ⟨_, h4, hR_all h1 _ (List.getElem_mem hk)⟩

theorem RowCells.ext {f : Nat → List Cell} {n sz : Nat} {get get' : Nat → Option Value} (h : RowCells ν f n sz get) (he : ∀ l v, l < n * sz → get l = some v → get' l = some v) : RowCells ν f n sz get' := by
  intro j hj
  obtain ⟨ys, h1, h2, h3⟩ := h j hj
  refine ⟨ys, h1, h2, fun k y hk => he _ _ ?_ (h3 k y hk)⟩
  have hk' : k < sz := by rw [← h2]; exact (List.getElem?_eq_some_iff.1 hk).1
  have : j * sz + sz ≤ n * sz := by rw [← Nat.succ_mul]; exact Nat.mul_le_mul_right _ hj
  omega

theorem RowCells.app {f g : Nat → List Cell} {n m sz : Nat} {get : Nat → Option Value} (h : RowCells ν f n sz get) (h' : RowCells ν g m sz fun l => get (n * sz + l)) :
    RowCells ν (appF n f g) (n + m) sz get := by
  intro j hj
  by_cases hjn : j < n
  · obtain ⟨ys, h1, h2, h3⟩ := h j hjn
    exact ⟨ys, zipSel_R' (by simp only [hjn, decide_true, cond_true]; exact h1), h2, h3⟩
  · obtain ⟨ys, h1, h2, h3⟩ := h' (j - n) (by omega)
    refine ⟨ys, zipSel_R' (by simp only [hjn, decide_false, cond_false]; exact h1), h2, fun k y hk => ?_⟩
    have h4 : get (n * sz + ((j - n) * sz + k)) = some y := h3 k y hk
    rw [← Nat.add_assoc, ← Nat.add_mul, show n + (j - n) = j by omega] at h4
    exact h4

theorem appF_nil (g : Nat → List Cell) : appF 0 (fun _ => []) g = g := by
  funext j
  simp only [appF, Nat.not_lt_zero, decide_false, Nat.sub_zero]
  cases g j <;> rfl

/-- the cells as a list -/
theorem RowCells.list {f : Nat → List Cell} {n sz : Nat} {get : Nat → Option Value} (h : RowCells ν f n sz get) (hsz : 0 < sz) :
    ∃ news : List Value, news.length = n * sz ∧ (∀ j v, news[j]? = some v → get j = some v) ∧ (∀ u ∈ news, u.oneCell' = true) ∧ RowCells ν f n sz fun l => news[l]? := by
  refine ⟨(List.range (n * sz)).map fun l => (get l).getD undef, by simp, fun j v hj => ?_, fun u hu => ?_, h.ext fun l v hl hv => ?_⟩
  · have hl : j < n * sz := by have := (List.getElem?_eq_some_iff.1 hj).1; simpa using this
    simp [hl] at hj
    obtain ⟨u, h1, _⟩ := h.at hsz hl
    rw [h1] at hj ⊢
    simpa using hj
  · obtain ⟨l, hl, rfl⟩ := List.mem_map.1 hu
    obtain ⟨u, h1, h2⟩ := h.at hsz (List.mem_range.1 hl)
    simp [h1, h2]
  · simp [hl, hv]

theorem rowR_mk {i : HI} {ro : Bool} {t : TypeId} {sz n : Nat} {f : Nat → List Cell} {w : World} {b : Nat} {cur : Array Value} (h1 : i.sz = sz) (h2 : 0 < sz) (h3 : i.len = n) (h4 : n ≤ i.cap) (h5 : i.cap ≤ maxLen)
    (hb : i.blk = some b) (hbase : i.base = 0) (hw : w.heap[b]? = some (.cells cur t (0, 0))) (hsize : cur.size = i.cap * sz) (hc : RowCells ν f n sz fun l => cur[l]?) : rowR ν i ro t sz n f w := by
  refine ⟨h1, h2, h3, h4, h5, ?_⟩
  simp only [hb]
  refine ⟨cur, t, (0, 0), hw, by rw [hbase, hsize]; omega, fun _ => ⟨hbase, hsize, rfl, rfl⟩, fun j hj => ?_⟩
  obtain ⟨ys, g1, g2, g3⟩ := hc j hj
  exact ⟨ys, g1, g2, fun k y hk => by rw [hbase, Nat.zero_add]; exact g3 k y hk⟩

theorem rowR_cells {i : HI} {ro : Bool} {t : TypeId} {sz n : Nat} {f : Nat → List Cell} {w : World} (h : rowR ν i ro t sz n f w) : RowCells ν f n sz fun l => i.blk.bind fun b => w.cell? ⟨b, i.base + l, none⟩ := by
  intro j hj
  obtain ⟨b, h1, h2, h3, ys, h4, h5⟩ := win_row h hj
  refine ⟨ys, h4, by rw [← h4.length, h3], fun k y hk => ?_⟩
  have := h5 k y hk
  rw [Addr.add_lit] at this
  simp only [h1, Option.bind_some, ← Nat.add_assoc]
  exact this

/-- what is appended: its length, its elements, and where they lie -/
theorem srcL_spec {s : LW} {w : World} (hr : Rel ν s w) {c : Cell} {Y : Value} (hy : cellR ν c Y) {k : (m : Nat) → (Nat → List Cell) → Nat → Ac Out} {sz : Nat} {s' : LW} {out : Out} {r wf : List Nat}
    (h : (srcL c k sz).out s = some (out, s', r, wf)) :
    ∃ m g sz', (∃ r', (k m g sz').out s = some (out, s', r', wf)) ∧ (sz' = sz → 0 < sz → ∃ A cap, Y = .slice A m cap ∧ (0 < m → ∃ a, A = some a ∧ RowCells ν g m sz fun l => w.cell? (a.add l))) := by
  unfold srcL at h
  split at h
  · rename_i A0 c0
    simp only [cellR] at hy
    subst hy
    exact ⟨0, _, sz, ⟨r, h⟩, fun _ _ => ⟨A0, c0, rfl, fun h => by omega⟩⟩
  · obtain ⟨d, ⟨n, hs, hc⟩, r', h⟩ := sliceIn_spec h
    refine ⟨d.len, fun j => d.f (d.lo + j), d.sz, ⟨r', h⟩, fun hsz hpos => ?_⟩
    obtain ⟨i, A, cap, g1, g2, rfl, g3, g4, g6, g5⟩ := slice_val hr hy hs hc
    refine ⟨A, cap, rfl, fun hm => ?_⟩
    have hA := g5 (by omega)
    have hcells := rowR_cells g2
    obtain ⟨e1, e2, e3, e4, e5, e6⟩ := g2
    cases hb : i.blk with
    | none => simp only [hb] at e6; omega
    | some b =>
      rw [hb] at hA hcells
      refine ⟨_, hA, fun j hj => ?_⟩
      -- element j of the slice is element lo + j of the row
      have hlt : d.lo + j < n := by omega
      obtain ⟨ys, k1, k2, k3⟩ := hcells (d.lo + j) hlt
      refine ⟨ys, k1, by omega, fun k y hk => ?_⟩
      have := k3 k y hk
      simp only [Option.bind_some] at this
      show w.cell? (Addr.add ⟨b, i.base + d.lo * i.sz, none⟩ (j * sz + k)) = some y
      rw [Addr.add_lit, e1]
      subst hsz
      rw [Nat.add_mul] at this
      rw [show i.base + d.lo * d.sz + (j * d.sz + k) = i.base + (d.lo * d.sz + j * d.sz + k) by omega]
      exact this

end
end Go.Ev

namespace Go.Ev

section
variable {P : Program} {ν : Nu}

theorem append_keeps {s s1 : LW} {w w' : World} (hr : Rel ν s1 w) (hs1 : ∀ k e, s1 k = some e → s k = some e) {n : Nat} (hf : Fresh ν n (n + 1)) {e : Entry} {i : HI}
    (he : entR (ν.set n i) i e w') (hos : w'.os = w.os) (htape : w'.tape = w.tape) (hout : w'.output = w.output) (hsize : w.heap.size ≤ w'.heap.size)
    (hk : ∀ b, b < w.heap.size → i.blk ≠ some b → w'.heap[b]? = w.heap[b]?)
    (hown : ∀ b, i.blk = some b → (Owned ν s b ∧ ∀ k e j, s1 k = some e → ν k = some j → j.blk ≠ some b) ∨ w.heap.size ≤ b) :
    Rel (ν.set n i) (s1.upd n (some e)) w' ∧ Step ν s w (ν.set n i) (s1.upd n (some e)) w' n (n + 1) := by
  have hnone : ν n = none := hf n (Nat.le_refl _) (by omega)
  have hle := Nu.le_set i hnone
  have hne : ∀ k f j b, s1 k = some f → ν k = some j → j.blk = some b → i.blk ≠ some b := by
    intro k f j b g1 g2 g3 g4
    rcases hown b g4 with ⟨_, hh⟩ | hh
    · exact hh k f j g1 g2 g3
    · exact absurd (hr.lt g1 g2 g3) (by omega)
  refine ⟨hr.set hle (Nu.set_same _ _ _) he (fun k f j c hk' g1 g2 g3 => hk c (hr.lt g1 g2 g3) (hne k f j c g1 g2 g3)) (fun k f j c hk' g1 g2 g3 g4 => absurd g4 (hne k f j c g1 g2 g3)), ?_⟩
  refine ⟨hle, fun k hk' ho => ?_, hos, htape, hout, hsize, fun c hc ho => hk c hc fun hic => ?_, fun c hc => ?_⟩
  · unfold Nu.set; rw [if_neg (by omega)]; exact hk'
  · rcases hown c hic with ⟨hh, _⟩ | hh
    · exact ho hh
    · omega
  · obtain ⟨k, f, j, g1, g2, g3⟩ := hc
    by_cases hkn : k = n
    · subst hkn
      rw [Nu.set_same] at g2; obtain rfl := Option.some.inj g2
      rcases hown c g3 with ⟨hh, _⟩ | hh
      · exact .inl hh
      · exact .inr hh
    · rw [upd_other _ _ hkn] at g1
      unfold Nu.set at g2; rw [if_neg hkn] at g2
      exact .inl ⟨k, f, j, hs1 k f g1, g2, g3⟩

theorem run_append_zero {t ty e : TypeId} {sz : Nat} (ht : P.underlying t = some (.slice e)) (hsz : sizeL P e = some sz) (base : Option Addr) (len cap : Nat) (hlc : len ≤ cap) (A : Option Addr) (c : Nat) (w : World) :
    (Builtin.append_ #[t, t] ty #[.slice base len cap, .slice A 0 c]).run P w = .ok (.slice base len cap) w := by
  cases A with
  | none => cases base <;> simp [Builtin.append_, run_underlying ht, sizeL_run hsz, Builtin.lenOf, Builtin.firstCells, hlc, storeCells]
  | some a => cases base <;> simp [Builtin.append_, run_underlying ht, sizeL_run hsz, Builtin.lenOf, Builtin.firstCells, hlc, storeCells, loadCells, loadCellsFrom]

/-- the state before an append: the row that is appended to, or nil -/
structure Dest (P : Program) (ν : Nu) (s s1 : LW) (w : World) (e : TypeId) (sz : Nat) (X : Value) (len : Nat) (f : Nat → List Cell) : Prop where
  rel : Rel ν s1 w
  sub : ∀ k e, s1 k = some e → s k = some e
  val : (∃ A, X = .slice A 0 0 ∧ len = 0) ∨ ∃ b cap cur, X = .slice (some ⟨b, 0, none⟩) len cap ∧ w.heap[b]? = some (.cells cur e (0, 0)) ∧ len ≤ cap ∧ cap ≤ maxLen ∧ cur.size = cap * sz ∧ Owned ν s b ∧
      (∀ k e j, s1 k = some e → ν k = some j → j.blk ≠ some b) ∧ RowCells ν f len sz fun l => cur[l]?

/-- what the second argument of an append adds -/
structure Adds (P : Program) (ν : Nu) (w : World) (t u ty e : TypeId) (i : TypeInfo) (z : Value) (Y : Value) (m : Nat) (g : Nat → List Cell) : Prop where
  zero : m = 0 → ∀ (base : Option Addr) (len cap : Nat), len ≤ cap → (Builtin.append_ #[t, u] ty #[.slice base len cap, Y]).run P w = .ok (.slice base len cap) w
  more : 0 < m → ∃ news : List Value, news.length = m * i.size ∧ (∀ u ∈ news, u.oneCell' = true) ∧ (RowCells ν g m i.size fun l => news[l]?) ∧
    ((m : Int) ≤ 9223372036854775807 → m * i.bytes ≤ 281474976710656 → (Builtin.append_ #[t, u] ty #[.slice none 0 0, Y]).run P w =
      .ok (.slice (some ⟨w.heap.size, 0, none⟩) m (grownCap w m 0 e)) (w.drew.alloc (.cells (news.toArray ++ Builtin.zeroCells z.cells (grownCap w m 0 e - m)) e))) ∧
    (∀ (b sLen sCap : Nat) (cur : Array Value), w.heap[b]? = some (.cells cur e (0, 0)) → sLen + m ≤ sCap → sLen * i.size + news.length ≤ cur.size →
      (Builtin.append_ #[t, u] ty #[.slice (some ⟨b, 0, none⟩) sLen sCap, Y]).run P w =
      .ok (.slice (some ⟨b, 0, none⟩) (sLen + m) sCap) (w.setRow b (cur.toList.take (sLen * i.size) ++ news ++ cur.toList.drop (sLen * i.size + news.length)).toArray)) ∧
    (∀ (b : Addr) (sLen sCap : Nat) (olds : List Value), olds.length = sLen * i.size → (∀ j v, olds[j]? = some v → w.cell? (b.add j) = some v) → sCap < sLen + m → ((sLen + m : Nat) : Int) ≤ 9223372036854775807 →
      Builtin.nextslicecap (sLen + m) sCap * i.bytes ≤ 281474976710656 →
      (Builtin.append_ #[t, u] ty #[.slice (some b) sLen sCap, Y]).run P w =
      .ok (.slice (some ⟨w.heap.size, 0, none⟩) (sLen + m) (grownCap w (sLen + m) sCap e))
        (w.drew.alloc (.cells (olds.toArray ++ news.toArray ++ Builtin.zeroCells z.cells (grownCap w (sLen + m) sCap e - (sLen + m))) e)))

theorem adds_slice {w : World} {t ty e : TypeId} {i : TypeInfo} {z : Value} (ht : P.underlying t = some (.slice e)) (hi : P.info? e = some i) (hz : i.zero = some z) (hpos : 0 < i.size)
    {m : Nat} {g : Nat → List Cell} {A : Option Addr} {c : Nat} (hsrc : 0 < m → ∃ a, A = some a ∧ RowCells ν g m i.size fun l => w.cell? (a.add l)) : Adds P ν w t t ty e i z (.slice A m c) m g := by
  refine ⟨fun h0 base len cap hlc => ?_, fun hm => ?_⟩
  · subst h0; exact run_append_zero ht (by simp [sizeL, hi] : sizeL P e = some i.size) base len cap hlc A c w
  · obtain ⟨a, rfl, hcells⟩ := hsrc hm
    obtain ⟨news, n1, n2, n3, n4⟩ := hcells.list hpos
    exact ⟨news, n1, n3, n4, fun h1 h2 => run_append_nil (P := P) w t ty e i z ht hi hz a m c news n1 n2 hm h1 h2,
      fun b sLen sCap cur h1 h2 h3 => run_append_room (P := P) w t ty e i ht hi b sLen sCap cur h1 a m c news n1 n2 n3 h2 h3,
      fun b sLen sCap olds h1 h2 h3 h4 h5 => run_append_grow (P := P) w t ty e i z ht hi hz b sLen sCap olds h1 h2 a m c news n1 n2 h3 h4 h5⟩

theorem zero_hR {z : Value} (h : (z.cells.toList.map Cell.v).all oneOK = true) : All2 (hR ν) (z.cells.toList.map Cell.v) z.cells.toList := allOK_R h (vcells_R ν z.cells.toList)

theorem adds_zero {w : World} {t u ty e : TypeId} {k' k : IntKind} {i : TypeInfo} {z : Value} (ht : P.underlying t = some (.slice e)) (hu : P.underlying u = some (.int k')) (hi : P.info? e = some i) (hz : i.zero = some z) (hpos : 0 < i.size)
    (hzs : z.cells.size = i.size) {l : Int} (hl : 0 ≤ IntKind.i64.wrap l) (hb : (IntKind.i64.wrap l).toNat * i.bytes ≤ 281474976710656)
    (hone : (z.cells.toList.map Cell.v).all oneOK = true) :
    Adds P ν w t u ty e i z (.int k l) (IntKind.i64.wrap l).toNat fun _ => z.cells.toList.map .v := by
  generalize hL : IntKind.i64.wrap l = L at hl hb
  obtain ⟨M, rfl⟩ := Int.eq_ofNat_of_zero_le hl
  simp only [Int.toNat_natCast] at hb ⊢
  have hnn : ¬ ((M : Int) < 0) := by omega
  have hbig : ¬ (281474976710656 : Int) < (M : Int) * (i.bytes : Int) := by
    rw [← Int.natCast_mul]; omega
  refine ⟨fun h0 base len cap hlc => ?_, fun hm => ?_⟩
  · subst h0
    cases base <;> simp [Builtin.append_, run_underlying ht, run_underlying hu, sizeOf, typeInfo, hi, asInt, asIntOf, hL, hlc, storeCells]
  · have hM : M ≠ 0 := by omega
    have hS : i.size ≠ 0 := by omega
    have hMS : ¬ M * i.size = 0 := fun h => by rcases Nat.mul_eq_zero.1 h with h | h <;> omega
    have hcells : RowCells ν (fun _ => z.cells.toList.map Cell.v) M i.size fun l => (Builtin.zeroCells z.cells M).toList[l]? := by
      intro j hj
      refine ⟨z.cells.toList, zero_hR hone, by simpa using hzs, fun q y hq => ?_⟩
      have hq' : q < z.cells.size := by have := (List.getElem?_eq_some_iff.1 hq).1; simpa using this
      have hlt : j * i.size + q < M * z.cells.size := by
        rw [hzs]
        have : j * i.size + i.size ≤ M * i.size := by rw [← Nat.succ_mul]; exact Nat.mul_le_mul_right _ hj
        omega
      have hmod : (j * i.size + q) % z.cells.size = q := by
        rw [hzs, Nat.add_comm, Nat.add_mul_mod_self_right, Nat.mod_eq_of_lt (by omega)]
      have hget : z.cells[q]? = some y := by simpa using hq
      simp [Builtin.zeroCells, hlt, hmod, hq']
      have := (Array.getElem?_eq_some_iff.1 hget).2
      exact this
    obtain ⟨news, n1, n2, n3, n4⟩ := hcells.list hpos
    have hnews : news = (Builtin.zeroCells z.cells M).toList := by
      apply List.ext_getElem
      · rw [n1]; simp [Builtin.zeroCells, hzs]
      · intro j h1 h2
        have := n2 j _ (List.getElem?_eq_getElem h1)
        rw [List.getElem?_eq_getElem h2] at this
        exact (Option.some.inj this).symm
    refine ⟨news, n1, n3, n4, fun h1 h2 => ?_, fun b sLen sCap cur h1 h2 h3 => ?_, fun b sLen sCap olds h1 h2 h3 h4 h5 => ?_⟩
    · have h63' : ¬ (9223372036854775807 < (M : Int)) := by omega
      have h48' : ¬ (281474976710656 < Builtin.nextslicecap M 0 * i.bytes) := by rw [nextslicecap_zero hm]; omega
      subst hnews
      simp [Builtin.append_, run_underlying ht, run_underlying hu, sizeOf, typeInfo, zeroValue, hi, hz, asInt, asIntOf, hL, hnn, hbig, hM, hS, h63', h48', Question.forced, run_firstCells_none, newRow, grownCap]
      exact fun h => absurd h hMS
    · have hst := run_storeCells_at P b (sLen * i.size) e news 0 cur w h1 (by simpa using h3) n3
      simp only [Nat.add_zero] at hst
      subst hnews
      simp [Builtin.append_, run_underlying ht, run_underlying hu, sizeOf, typeInfo, zeroValue, hi, hz, asInt, asIntOf, hL, hnn, hbig, hM, hS, h2, Addr.add_lit, hst]
      exact fun h => absurd h hMS
    · have hn : ¬ (sLen + M ≤ sCap) := by omega
      have h63' : ¬ (9223372036854775807 < ((sLen : Int) + (M : Int))) := by omega
      have h48' : ¬ (281474976710656 < Builtin.nextslicecap (sLen + M) sCap * i.bytes) := by omega
      have hfo := run_firstCells_some (P := P) w.drew i.size sLen b sLen sCap olds h1 (by simpa using h2)
      subst hnews
      simp [Builtin.append_, run_underlying ht, run_underlying hu, sizeOf, typeInfo, zeroValue, hi, hz, asInt, asIntOf, hL, hnn, hbig, hM, hS, hn, h63', h48', Question.forced, hfo, newRow, grownCap]
      exact fun h => absurd h hMS

theorem append_core {s s1 : LW} {w : World} {t ty e : TypeId} {sz by' : Nat} {X : Value} {len : Nat} {f : Nat → List Cell} (hd : Dest P ν s s1 w e sz X len f)
    (ht : P.underlying t = some (.slice e)) {i : TypeInfo} {z : Value} (hi : P.info? e = some i) (hz : i.zero = some z) (hsz : i.size = sz) (hby : i.bytes = by' + 1) (hzs : z.cells.size = sz) (hpos : 0 < sz)
    {u : TypeId} {Y : Value} {m : Nat} {g : Nat → List Cell} (hsrc : Adds P ν w t u ty e i z Y m g)
    (hbytes : (len + m) * (by' + 1) ≤ 140737488355328) {n : Nat} (hf : Fresh ν n (n + 1)) :
    ∃ ν' w' v, (Builtin.append_ #[t, u] ty #[X, Y]).run P w = .ok v w' ∧
      Rel ν' (s1.upd n (some (.row false e sz (len + m) (appF len f g)))) w' ∧
      Step ν s w ν' (s1.upd n (some (.row false e sz (len + m) (appF len f g)))) w' n (n + 1) ∧ cellR ν' (.r n) v := by
  have hnone : ν n = none := hf n (Nat.le_refl _) (by omega)
  have hsmall : len + m ≤ 140737488355328 := Nat.le_trans (Nat.le_mul_of_pos_right _ (by omega)) hbytes
  have hmax : len + m ≤ maxLen := by unfold maxLen; omega
  rcases Nat.eq_zero_or_pos m with rfl | hm
  · -- nothing is appended
    simp only [Nat.add_zero]
    rcases hd.val with ⟨A, rfl, rfl⟩ | ⟨b, cap, cur, rfl, h1, h2, h3, h4, h5, h6, h7⟩
    · have key := append_keeps (s := s) (w' := w) hd.rel hd.sub hf (i := ⟨none, 0, 0, sz, 0⟩) (e := .row false e sz 0 (appF 0 f g))
        ⟨rfl, hpos, rfl, Nat.le_refl _, Nat.zero_le _, rfl, rfl⟩ rfl rfl rfl (Nat.le_refl _) (fun _ _ _ => rfl) (fun b' hb' => by cases hb')
      exact ⟨_, w, _, hsrc.zero rfl _ 0 0 (Nat.le_refl _), key.1, key.2, ⟨_, A, Nu.set_same _ _ _, rfl, fun h => (h rfl).elim⟩⟩
    · have key := append_keeps (s := s) (w' := w) hd.rel hd.sub hf (i := ⟨some b, 0, cap, sz, len⟩) (e := .row false e sz len (appF len f g))
        (rowR_mk rfl hpos rfl h2 h3 rfl rfl h1 h4 (fun j hj => by
          obtain ⟨ys, k1, k2, k3⟩ := h7 j hj
          exact ⟨ys, zipSel_R' (by simp only [hj, decide_true, cond_true]; exact k1.mono fun _ _ => hR_mono (Nu.le_set _ hnone)), k2, k3⟩)) rfl rfl rfl (Nat.le_refl _) (fun _ _ _ => rfl) (fun b' hb' => by cases hb'; exact .inl ⟨h5, h6⟩)
      exact ⟨_, w, _, hsrc.zero rfl _ len cap h2, key.1, key.2, ⟨_, _, Nu.set_same _ _ _, rfl, fun _ => rfl⟩⟩
  · obtain ⟨news, n1, n3, n4, rnil, rroom, rgrow⟩ := hsrc.more hm
    rw [hsz] at n1 n4
    -- a row of its own with the old elements and the new ones
    have grown : ∀ (olds : List Value) (cap' : Nat), olds.length = len * sz → RowCells ν f len sz (fun l => olds[l]?) → len + m ≤ cap' → cap' ≤ maxLen →
        let cells := olds.toArray ++ news.toArray ++ Builtin.zeroCells z.cells (cap' - (len + m))
        ∃ ν', Rel ν' (s1.upd n (some (.row false e sz (len + m) (appF len f g)))) (w.drew.alloc (.cells cells e)) ∧
          Step ν s w ν' (s1.upd n (some (.row false e sz (len + m) (appF len f g)))) (w.drew.alloc (.cells cells e)) n (n + 1) ∧
          cellR ν' (.r n) (.slice (some ⟨w.heap.size, 0, none⟩) (len + m) cap') := by
      intro olds cap' ho1 ho2 hc1 hc2
      have hcs : (olds.toArray ++ news.toArray ++ Builtin.zeroCells z.cells (cap' - (len + m))).size = cap' * sz := by
        simp only [Array.size_append, List.size_toArray, size_zeroCells, hzs, ho1, n1, ← Nat.add_mul]
        congr 1
        omega
      have key := append_keeps (s := s) (w := w) (w' := w.drew.alloc (.cells (olds.toArray ++ news.toArray ++ Builtin.zeroCells z.cells (cap' - (len + m))) e)) hd.rel hd.sub hf
        (i := ⟨some w.heap.size, 0, cap', sz, len + m⟩) (e := .row false e sz (len + m) (appF len f g))
        (rowR_mk rfl hpos rfl hc1 hc2 rfl rfl (heap_alloc_new w.drew _) hcs (by
          have h1 : RowCells ν f len sz fun l => (olds.toArray ++ news.toArray ++ Builtin.zeroCells z.cells (cap' - (len + m)))[l]? := ho2.ext fun l v hl hv => by
            rw [Array.append_assoc, Array.getElem?_append_left (by simpa [ho1] using hl)]
            simpa using hv
          have h2 : RowCells ν g m sz fun l => (olds.toArray ++ news.toArray ++ Builtin.zeroCells z.cells (cap' - (len + m)))[len * sz + l]? := n4.ext fun l v hl hv => by
            rw [Array.append_assoc, Array.getElem?_append_right (by simp [ho1]), Array.getElem?_append_left (by simp [ho1, n1]; omega)]
            simpa [ho1] using hv
          intro j hj
          obtain ⟨ys, k1, k2, k3⟩ := h1.app h2 j hj
          exact ⟨ys, k1.mono fun _ _ => hR_mono (Nu.le_set _ hnone), k2, k3⟩))
        rfl rfl rfl (by simp) (fun b hb _ => heap_alloc_old w.drew _ b hb) (fun b hb => by cases hb; exact .inr (Nat.le_refl _))
      exact ⟨_, key.1, key.2, ⟨_, _, Nu.set_same _ _ _, rfl, fun _ => rfl⟩⟩
    rcases hd.val with ⟨A, rfl, rfl⟩ | ⟨b, cap, cur, rfl, h1, h2, h3, h4, h5, h6, h7⟩
    · -- onto nothing
      have hb' : m * (by' + 1) ≤ 140737488355328 := by simpa using hbytes
      have hge : m ≤ grownCap w m 0 e := grownCap_ge w m 0 e
      have hle : grownCap w m 0 e ≤ maxLen := grownCap_le_maxLen w m 0 e (by omega)
      obtain ⟨ν', k1, k2, k3⟩ := grown [] (grownCap w m 0 e) (by simp) (fun j hj => by omega) (by omega) hle
      simp only [Nat.zero_add] at k1 k2 k3 ⊢
      cases A with
      | none =>
        have hr := rnil (by omega) (by rw [hby]; omega)
        refine ⟨ν', _, _, hr, ?_, ?_, k3⟩
        · simpa using k1
        · simpa using k2
      | some a =>
        have hr := rgrow a 0 0 [] (by simp) (fun j v hj => by simp at hj) (by omega) (by omega)
          (growslice_fits (by omega) (by rw [hby]; simpa using hb'))
        simp only [Nat.zero_add] at hr
        exact ⟨ν', _, _, hr, k1, k2, k3⟩
    · by_cases hroom : len + m ≤ cap
      · -- there is room
        have hfit : len * i.size + news.length ≤ cur.size := by rw [n1, hsz, h4, ← Nat.add_mul]; exact Nat.mul_le_mul_right _ hroom
        have hr := rroom b len cap cur h1 hroom hfit
        rw [hsz] at hr
        have hcs : (cur.toList.take (len * sz) ++ news ++ cur.toList.drop (len * sz + news.length)).toArray.size = cap * sz := by
          have : len * sz + m * sz ≤ cap * sz := by rw [← Nat.add_mul]; exact Nat.mul_le_mul_right _ hroom
          have : len * sz ≤ cap * sz := Nat.mul_le_mul_right _ h2
          simp only [List.size_toArray, List.length_append, List.length_take, List.length_drop, Array.length_toList, h4, n1]
          omega
        have hto : (cur.toList.take (len * sz)).length = len * sz := by
          have : len * sz ≤ cap * sz := Nat.mul_le_mul_right _ h2
          simp only [List.length_take, Array.length_toList, h4]
          omega
        have key := append_keeps (s := s) (w := w) (w' := w.setRow b (cur.toList.take (len * sz) ++ news ++ cur.toList.drop (len * sz + news.length)).toArray) hd.rel hd.sub hf
          (i := ⟨some b, 0, cap, sz, len + m⟩) (e := .row false e sz (len + m) (appF len f g))
          (rowR_mk rfl hpos rfl hroom h3 rfl rfl (setRow_heap _ _ _ _ _ _ h1) hcs (by
            have g1 : RowCells ν f len sz fun l => (cur.toList.take (len * sz) ++ news ++ cur.toList.drop (len * sz + news.length)).toArray[l]? := h7.ext fun l v hl hv => by
              simp only [List.getElem?_toArray]
              rw [List.append_assoc, List.getElem?_append_left (by omega), List.getElem?_take, if_pos hl]
              simpa using hv
            have g2 : RowCells ν g m sz fun l => (cur.toList.take (len * sz) ++ news ++ cur.toList.drop (len * sz + news.length)).toArray[len * sz + l]? := n4.ext fun l v hl hv => by
              simp only [List.getElem?_toArray]
              rw [List.append_assoc, List.getElem?_append_right (by omega), hto, List.getElem?_append_left (by rw [n1]; omega), Nat.add_sub_cancel_left]
              exact hv
            intro j hj
            obtain ⟨ys, k1, k2, k3⟩ := g1.app g2 j hj
            exact ⟨ys, k1.mono fun _ _ => hR_mono (Nu.le_set _ hnone), k2, k3⟩))
          rfl rfl rfl (by simp) (fun k hk hne => setRow_other w b k _ fun e => hne (by rw [e])) (fun b' hb' => by cases hb'; exact .inl ⟨h5, h6⟩)
        exact ⟨_, _, _, hr, key.1, key.2, ⟨_, _, Nu.set_same _ _ _, rfl, fun _ => rfl⟩⟩
      · have ho1 : (cur.toList.take (len * sz)).length = len * sz := by
          have : len * sz ≤ cap * sz := Nat.mul_le_mul_right _ h2
          simp only [List.length_take, Array.length_toList, h4]
          omega
        have holds : ∀ j v, (cur.toList.take (len * sz))[j]? = some v → w.cell? ((⟨b, 0, none⟩ : Addr).add j) = some v := by
          intro j v hj
          rw [List.getElem?_take] at hj
          split at hj
          · rw [Addr.add_lit, Nat.zero_add, cell_of_row w b j cur e (0, 0) h1]; simpa using hj
          · simp at hj
        have hr := rgrow ⟨b, 0, none⟩ len cap (cur.toList.take (len * sz)) (by rw [ho1, hsz]) holds (by omega) (by omega)
          (growslice_fits (by omega) (by rw [hby]; exact hbytes))
        have hge := grownCap_ge w (len + m) cap e
        have hle := grownCap_le_maxLen w (len + m) cap e hmax
        obtain ⟨ν', k1, k2, k3⟩ := grown (cur.toList.take (len * sz)) (grownCap w (len + m) cap e) ho1 (h7.ext fun l v hl hv => by
          rw [List.getElem?_take, if_pos hl]; simpa using hv) hge hle
        exact ⟨ν', _, _, hr, k1, k2, k3⟩

theorem bytesL_info {t : TypeId} {n : Nat} (h : bytesL P t = some n) {i : TypeInfo} (hi : P.info? t = some i) : i.bytes = n := by
  unfold bytesL at h; rw [hi] at h; simpa using h

theorem appendWith_sound {s : LW} {w : World} (hr : Rel ν s w) {t u ty e : TypeId} {sz by' : Nat} {x : Cell} {X Y : Value} (hx : cellR ν x X) (ht : P.underlying t = some (.slice e)) {i : TypeInfo} {z : Value}
    (hi : P.info? e = some i) (hz : i.zero = some z) (hisz : i.size = sz) (hiby : i.bytes = by' + 1) (hzs : z.cells.size = sz) (hpos : 0 < sz)
    {src : ((m : Nat) → (Nat → List Cell) → Nat → Ac Out) → Ac Out} {n : Nat} (hf : Fresh ν n (n + 1)) {out : Out} {s' : LW}
    (H : ∀ k r wf, (src k).out s = some (out, s', r, wf) → ∃ m g sz', (∃ r', (k m g sz').out s = some (out, s', r', wf)) ∧ (sz' = sz → m * (by' + 1) ≤ 140737488355328 → Adds P ν w t u ty e i z Y m g))
    {r wf : List Nat} (h : (appendWith e sz by' x src n).out s = some (out, s', r, wf)) :
    ∃ v ν' w' y, out = .val v (n + 1) ∧ (Builtin.append_ #[t, u] ty #[X, Y]).run P w = .ok y w' ∧ Rel ν' s' w' ∧ Step ν s w ν' s' w' n (n + 1) ∧ lvR ν' v y := by
  unfold appendWith at h
  split at h
  · -- onto nil
    simp only [cellR] at hx
    subst hx
    obtain ⟨m, g, sz', ⟨r2, h2⟩, h3⟩ := H _ _ _ h
    split at h2
    case isFalse => simp at h2
    rename_i hh
    simp only [chk, Ac.out_br, decide_eq_true_eq] at h2
    split at h2
    · rename_i hb
      have hb' : m * (by' + 1) ≤ 140737488355328 := by simpa using hb
      simp [Ac.out_put] at h2
      obtain ⟨rfl, rfl, rfl, rfl⟩ := h2
      obtain ⟨ν', w', u, k1, k2, k3, k4⟩ := append_core (ty := ty) (s := s) (s1 := s) (len := 0) (f := fun _ => []) ⟨hr, fun _ _ h => h, .inl ⟨none, rfl, rfl⟩⟩ ht hi hz hisz hiby hzs hpos (h3 hh hb') (by simpa using hb') hf
      rw [appF_nil, Nat.zero_add] at k2 k3
      exact ⟨_, ν', w', u, rfl, k1, k2, k3, k4⟩
    · simp at h2
  · -- onto a row
    rename_i a
    simp only [Ac.out_get] at h
    cases hs : s a with
    | none => simp [hs] at h
    | some en =>
      simp only [hs] at h
      cases en with
      | cells _ _ => simp at h
      | map _ => simp at h
      | row ro e' sz2 len f =>
        cases ro with
        | true => simp at h
        | false =>
          simp only [] at h
          split at h
          case isFalse => simp at h
          rename_i hes
          obtain ⟨rfl, rfl⟩ := hes
          obtain ⟨i0, A0, k1, rfl, kA⟩ := hx
          obtain ⟨i1, g1, g2⟩ := hr.ent a _ hs
          rw [k1] at g1; obtain rfl := Option.some.inj g1
          have g3 := g2
          obtain ⟨e1, e2, e3, e4, e5, e6⟩ := g3
          have hd : Dest P ν s (s.upd a none) w e' sz2 (.slice A0 i0.len i0.cap) len f := by
            refine ⟨hr.drop a, fun k e hk => ?_, ?_⟩
            · by_cases hka : k = a
              · subst hka; rw [upd_same] at hk; cases hk
              · rwa [upd_other _ _ hka] at hk
            · cases hb : i0.blk with
              | none =>
                rw [hb] at e6
                refine .inl ⟨A0, ?_, by omega⟩
                rw [e6.1, show i0.len = 0 by omega]
              | some b =>
                simp only [hb] at e6
                obtain ⟨cur, t', fz, m1, m2, m3, m4⟩ := e6
                obtain ⟨m5, m6, rfl, rfl⟩ := m3 trivial
                by_cases hc0 : i0.cap = 0
                · refine .inl ⟨A0, ?_, by omega⟩
                  rw [hc0, show i0.len = 0 by omega]
                · refine .inr ⟨b, i0.cap, cur, ?_, m1, e4, e5, m6, ⟨a, _, i0, hs, k1, hb⟩, fun k en j q1 q2 q3 => ?_, fun j hj => ?_⟩
                  · rw [kA hc0, hb, m5, e3]; rfl
                  · by_cases hka : k = a
                    · subst hka; rw [upd_same] at q1; cases q1
                    · rw [upd_other _ _ hka] at q1
                      have := (hr.sep k a en _ j i0 b q1 hs q2 k1 q3 hb hka).2
                      simp [Entry.ro] at this
                  · obtain ⟨ys, q1, q2, q3⟩ := m4 j hj
                    exact ⟨ys, q1, q2, fun k y hk => by have := q3 k y hk; rwa [m5, Nat.zero_add] at this⟩
          cases hq : (src (fun m g sz' => if sz' = sz2 then chk (decide ((len + m) * (by' + 1) ≤ 140737488355328))
              (.put a none (.put n (some (.row false e' sz2 (len + m) (appF len f g))) (.ret (.val (.o (.c (.r n))) (n + 1))))) else .stuck)).out s with
          | none => rw [hq] at h; simp at h
          | some p =>
            obtain ⟨o1, s1, r1, w1⟩ := p
            rw [hq] at h
            simp at h
            obtain ⟨rfl, rfl, rfl, rfl⟩ := h
            obtain ⟨m, g, sz', ⟨r2, h2⟩, h3⟩ := H _ _ _ hq
            split at h2
            · rename_i hh
              simp only [chk, Ac.out_br, decide_eq_true_eq] at h2
              split at h2
              · rename_i hb
                simp [Ac.out_put] at h2
                obtain ⟨rfl, rfl, rfl, rfl⟩ := h2
                have hb' : m * (by' + 1) ≤ 140737488355328 := Nat.le_trans (Nat.mul_le_mul_right _ (Nat.le_add_left _ _)) hb
                obtain ⟨ν', w', u, k1, k2, k3, k4⟩ := append_core (ty := ty) hd ht hi hz hisz hiby hzs hpos (h3 hh hb') hb hf
                exact ⟨_, ν', w', u, rfl, k1, k2, k3, k4⟩
              · simp at h2
            · simp at h2
  · simp at h

theorem appendL_sound {s : LW} {w : World} (hr : Rel ν s w) {t ty : TypeId} {x y : V1} {X Y : Value} (hx : v1R ν x X) (hy : v1R ν y Y) {n : Nat} (hf : Fresh ν n (n + 1)) {out : Out} {s' : LW} {r wf : List Nat}
    (h : (appendL P t x y n).out s = some (out, s', r, wf)) :
    ∃ v ν' w' u, out = .val v (n + 1) ∧ (Builtin.append_ #[t, t] ty #[X, Y]).run P w = .ok u w' ∧ Rel ν' s' w' ∧ Step ν s w ν' s' w' n (n + 1) ∧ lvR ν' v u := by
  unfold appendL at h
  split at h
  case h_2 => simp at h
  rename_i e ht
  split at h
  case h_2 => simp at h
  rename_i sz by' x y hsz hby
  split at h
  · simp at h
  rename_i hcond
  obtain ⟨hpos, hz0⟩ := not_or.1 hcond
  obtain ⟨z, hz1, hz2⟩ := Option.map_eq_some_iff.1 (Classical.not_not.1 hz0)
  obtain ⟨i, zv, hi, hz, rfl⟩ := zeroL_spec hz1
  have hzs : zv.cells.size = sz := by simpa using hz2
  have hisz : i.size = sz := by
    obtain ⟨i', h1, h2⟩ := sizeL_info hsz
    rw [hi] at h1; obtain rfl := Option.some.inj h1; exact h2
  have hiby := bytesL_info hby hi
  refine appendWith_sound hr hx ht hi hz hisz hiby hzs (Nat.pos_of_ne_zero hpos) hf (fun k r wf hk => ?_) h
  obtain ⟨m, g, sz', hk1, hk2⟩ := srcL_spec hr hy hk
  refine ⟨m, g, sz', hk1, fun hh _ => ?_⟩
  obtain ⟨A, cap, rfl, h4⟩ := hk2 hh (Nat.pos_of_ne_zero hpos)
  exact adds_slice ht hi hz (by rw [hisz]; exact Nat.pos_of_ne_zero hpos) (by rw [hisz]; exact h4)

theorem appendZ_sound {s : LW} {w : World} (hr : Rel ν s w) {t u ty : TypeId} {x y : V1} {X Y : Value} (hx : v1R ν x X) (hy : v1R ν y Y) {n : Nat} (hf : Fresh ν n (n + 1)) {out : Out} {s' : LW} {r wf : List Nat}
    (h : (appendZ P t u x y n).out s = some (out, s', r, wf)) :
    ∃ v ν' w' y, out = .val v (n + 1) ∧ (Builtin.append_ #[t, u] ty #[X, Y]).run P w = .ok y w' ∧ Rel ν' s' w' ∧ Step ν s w ν' s' w' n (n + 1) ∧ lvR ν' v y := by
  unfold appendZ at h
  split at h
  case h_2 => simp at h
  rename_i e k' ht hu
  split at h
  case h_2 => simp at h
  rename_i sz by' x k l z hsz hby hz1
  split at h
  · simp at h
  rename_i hcond
  obtain ⟨hpos, hcond⟩ := not_or.1 hcond
  obtain ⟨hz2, hall⟩ := not_or.1 hcond
  obtain ⟨i, zv, hi, hz, rfl⟩ := zeroL_spec hz1
  have hzs : zv.cells.size = sz := by simpa using hz2
  have hisz : i.size = sz := by
    obtain ⟨i', h1, h2⟩ := sizeL_info hsz
    rw [hi] at h1; obtain rfl := Option.some.inj h1; exact h2
  have hiby := bytesL_info hby hi
  have hY : Y = .int k l := hy
  subst hY
  refine appendWith_sound hr hx ht hi hz hisz hiby hzs (Nat.pos_of_ne_zero hpos) hf (fun kk r wf hk => ?_) h
  simp only [chk, Ac.out_br, decide_eq_true_eq] at hk
  split at hk
  · rename_i hl
    refine ⟨_, _, _, ⟨r, hk⟩, fun _ hb => ?_⟩
    exact adds_zero ht hu hi hz (by rw [hisz]; exact Nat.pos_of_ne_zero hpos) (by rw [hzs, hisz]) hl (by rw [hiby]; exact Nat.le_trans hb (by decide)) (by simpa using hall)
  · simp at hk

end
end Go.Ev

namespace Go.Ev

section
variable {P : Program} {ν : Nu}

theorem plainArgs_spec : ∀ {vs : List V1} {xs ys : List Value}, plainArgs vs = some xs → All2 (v1R ν) vs ys → ys = xs
  | [], xs, ys, h, h2 => by simp [plainArgs] at h; subst h; cases h2; rfl
  | v :: vs, xs, ys, h, h2 => by
    cases h2 with
    | cons h3 h4 =>
      cases v <;> try (simp [plainArgs] at h; done)
      rename_i c
      cases c <;> try (simp [plainArgs] at h; done)
      cases hp : plainArgs vs with
      | none => simp [plainArgs, hp] at h
      | some us =>
        simp [plainArgs, hp] at h
        subst h
        rw [plainArgs_spec hp h4]
        simp only [v1R, cellR] at h3
        rw [h3]

/-- what an operation's outcome says of its run -/
def Good (ν : Nu) (s : LW) (w : World) (n : Nat) (out : Out) (s' : LW) (res : Result Next) (P : Program) : Prop :=
  match out with
  | .val v n' => n ≤ n' ∧ (Fresh ν n n' → ∃ ν' w' y, res = .ok (.value y) w' ∧ Step ν s w ν' s' w' n n' ∧ Rel ν' s' w' ∧ lvR ν' v y)
  | .skip => ∃ w', res = .ok .skip w' ∧ Step ν s w ν s' w' n n ∧ Rel ν s' w'
  | .call f args => s' = s ∧ ∃ ys, All2 (v1R ν) args ys ∧ res = (callFunc f ys.toArray).run P w

theorem Good.still {s : LW} {w : World} (hr : Rel ν s w) {n : Nat} {out : Out} {s' : LW} {x : Sem Value} (h : Still ν s n out s' fun w => x.run P w) :
    Good ν s w n out s' ((do pure (.value (← x)) : Sem Next).run P w) P := by
  obtain ⟨rfl, v, u, rfl, h1, h2⟩ := h
  refine ⟨Nat.le_refl _, fun _ => ⟨ν, w, u, ?_, Step.refl _ _ _ _, hr, h1⟩⟩
  simp only [Sem.run_bind, h2, Result.andThen_ok, Sem.run_pure]

def Ac.leaves {α : Type} (p : α → Prop) : Ac α → Prop
  | .ret a => p a
  | .stuck => True
  | .br _ t e => t.leaves p ∧ e.leaves p
  | .get _ k => ∀ e, (k e).leaves p
  | .put _ _ k => k.leaves p

theorem Ac.leaves_out {α : Type} {p : α → Prop} : ∀ {x : Ac α}, x.leaves p → ∀ {s : LW} {a : α} {s' : LW} {r w : List Nat}, x.out s = some (a, s', r, w) → p a
  | .ret a, hl, s, b, s', r, w, h => by simp at h; obtain ⟨rfl, _⟩ := h; exact hl
  | .stuck, _, s, b, s', r, w, h => by simp at h
  | .br b t e, hl, s, a, s', r, w, h => by
    cases b
    · simp at h; exact Ac.leaves_out hl.2 h
    · simp at h; exact Ac.leaves_out hl.1 h
  | .get i k, hl, s, a, s', r, w, h => by
    rw [Ac.out_get] at h
    cases hs : s i with
    | none => simp [hs] at h
    | some e =>
      simp only [hs] at h
      cases hk : (k e).out s with
      | none => simp [hk] at h
      | some q => obtain ⟨a1, s1, r1, w1⟩ := q; simp [hk] at h; obtain ⟨rfl, _⟩ := h; exact Ac.leaves_out (hl e) hk
  | .put i e k, hl, s, a, s', r, w, h => by
    rw [Ac.out_put] at h
    cases hk : k.out (s.upd i e) with
    | none => simp [hk] at h
    | some q => obtain ⟨a1, s1, r1, w1⟩ := q; simp [hk] at h; obtain ⟨rfl, _⟩ := h; exact Ac.leaves_out (x := k) hl hk

theorem sliceIn_leaves {p : Out → Prop} {c : Cell} {k : SliceIn → Ac Out} (h : ∀ d, (k d).leaves p) : (sliceIn c k).leaves p := by
  unfold sliceIn
  split
  · intro e; cases e <;> first | exact trivial | exact h _
  · intro e; cases e <;> first | exact trivial | exact h _
  · exact trivial

theorem srcL_leaves {p : Out → Prop} {c : Cell} {k : (m : Nat) → (Nat → List Cell) → Nat → Ac Out} {sz : Nat} (h : ∀ m g z, (k m g z).leaves p) : (srcL c k sz).leaves p := by
  unfold srcL
  split
  · exact h _ _ _
  · exact sliceIn_leaves fun d => h _ _ _

theorem appendWith_leaves {e : TypeId} {sz by' : Nat} {x : Cell} {src : ((m : Nat) → (Nat → List Cell) → Nat → Ac Out) → Ac Out} {n : Nat} {p : Out → Prop} (hp : ∀ v, p (.val v (n + 1)))
    (hs : ∀ k, (∀ m g z, (k m g z).leaves p) → (src k).leaves p) : (appendWith e sz by' x src n).leaves p := by
  unfold appendWith
  split
  · refine hs _ fun m g z => ?_
    split
    · exact ⟨hp _, trivial⟩
    · exact trivial
  · intro e
    cases e with
    | cells _ _ => exact trivial
    | map _ => exact trivial
    | row ro e' sz2 len f =>
      cases ro with
      | true => exact trivial
      | false =>
        simp only []
        split
        · refine hs _ fun m g z => ?_
          split
          · exact ⟨hp _, trivial⟩
          · exact trivial
        · exact trivial
  · exact trivial

theorem appendL_leaves (t : TypeId) (x y : V1) (n : Nat) : (appendL P t x y n).leaves fun out => ∃ v, out = .val v (n + 1) := by
  unfold appendL
  split
  · split
    · split
      · exact trivial
      · exact appendWith_leaves (fun v => ⟨v, rfl⟩) fun k hk => srcL_leaves hk
    · exact trivial
  · exact trivial

theorem appendZ_leaves (t u : TypeId) (x y : V1) (n : Nat) : (appendZ P t u x y n).leaves fun out => ∃ v, out = .val v (n + 1) := by
  unfold appendZ
  split
  · split
    · split
      · exact trivial
      · exact appendWith_leaves (fun v => ⟨v, rfl⟩) fun k hk => ⟨hk _ _ _, trivial⟩
    · exact trivial
  · exact trivial

theorem builtinL_sound {s : LW} {w : World} (hr : Rel ν s w) {b : Builtin} {ts : Array TypeId} {ty : TypeId} {consts : Array Bool} {args : List V1} {ys : List Value} (ha : All2 (v1R ν) args ys) {n : Nat} {out : Out} {s' : LW} {r wf : List Nat}
    (h : (builtinL P b ts ty args n).out s = some (out, s', r, wf)) : Good ν s w n out s' ((builtin b ts ty consts ys.toArray).run P w) P := by
  unfold builtinL at h
  split at h
  · -- len of a plain value
    cases ha with
    | cons h1 h2 =>
      cases h2
      simp only [v1R, cellR] at h1
      subst h1
      split at h
      · rename_i v hp
        exact Good.still hr (retc_still h rfl (prun_run _ _ hp))
      · simp at h
  · -- len of a slice
    rename_i c _
    cases ha with
    | cons h1 h2 =>
      cases h2
      split at h
      · rename_i et hu
        obtain ⟨d, ⟨m, hs, hc⟩, r', h⟩ := sliceIn_spec h
        obtain ⟨i, A, cap, g1, g2, rfl, _⟩ := slice_val hr (c := c) h1 hs hc
        obtain ⟨t0, ht0, hu0⟩ := Option.bind_eq_some_iff.1 hu
        refine Good.still (x := Builtin.len_ ts ty #[.slice A d.len cap]) hr (retc_still h rfl fun w => ?_)
        simp [Builtin.len_, ht0, run_underlying hu0, goInt]
      · simp at h
  · -- min
    split at h
    · rename_i xs hp
      obtain rfl := plainArgs_spec hp ha
      split at h
      · rename_i v hq
        exact Good.still hr (retc_still h rfl (prun_run _ _ hq))
      · simp at h
    · simp at h
  · split at h
    · rename_i xs hp
      obtain rfl := plainArgs_spec hp ha
      split at h
      · rename_i v hq
        exact Good.still hr (retc_still h rfl (prun_run _ _ hq))
      · simp at h
    · simp at h
  · -- append
    rename_i x y
    cases ha with
    | cons h1 h2 =>
      cases h2 with
      | cons h3 h4 =>
        cases h4
        split at h
        · rename_i t u ht hu
          have hrun : ∀ X Y w, (Builtin.append_ ts ty #[X, Y]).run P w = (Builtin.append_ #[t, u] ty #[X, Y]).run P w := by
            intro X Y w
            simp only [Builtin.append_, ht, hu]
            rfl
          split at h
          · rename_i htu
            subst htu
            by_cases hf : Fresh ν n (n + 1)
            · obtain ⟨v, ν', w', u, rfl, k1, k2, k3, k4⟩ := appendL_sound (ty := ty) hr h1 h3 hf h
              refine ⟨by omega, fun _ => ⟨ν', w', u, ?_, k3, k2, k4⟩⟩
              simp only [builtin, Sem.run_bind]
              rw [hrun, k1]
              rfl
            · -- the outcome's shape does not hang on the names
              obtain ⟨v, rfl⟩ := Ac.leaves_out (appendL_leaves t _ _ n) h
              exact ⟨by omega, fun hh => absurd hh hf⟩
          · by_cases hf : Fresh ν n (n + 1)
            · obtain ⟨v, ν', w', u, rfl, k1, k2, k3, k4⟩ := appendZ_sound (ty := ty) hr h1 h3 hf h
              refine ⟨by omega, fun _ => ⟨ν', w', u, ?_, k3, k2, k4⟩⟩
              simp only [builtin, Sem.run_bind]
              rw [hrun, k1]
              rfl
            · obtain ⟨v, rfl⟩ := Ac.leaves_out (appendZ_leaves t u _ _ n) h
              exact ⟨by omega, fun hh => absurd hh hf⟩
        · simp at h
  · simp at h

end
end Go.Ev

namespace Go.Ev

section
variable {P : Program} {ν : Nu}

theorem flatten_chunk (z : List Value) (sz : Nat) (hz : z.length = sz) : ∀ (n j : Nat), j < n → (((List.replicate n z).flatten).drop (j * sz)).take sz = z
  | 0, j, h => by omega
  | n + 1, 0, _ => by
    rw [List.replicate_succ, List.flatten_cons, Nat.zero_mul, List.drop_zero, ← hz]
    exact List.take_left
  | n + 1, j + 1, h => by
    rw [List.replicate_succ, List.flatten_cons, Nat.succ_mul, Nat.add_comm (j * sz) sz, ← List.drop_drop]
    have : (z ++ (List.replicate n z).flatten).drop sz = (List.replicate n z).flatten := by rw [← hz]; exact List.drop_left
    rw [this]
    exact flatten_chunk z sz hz n j (by omega)

theorem makeSliceL_sound {s : LW} {w : World} (hr : Rel ν s w) {t : TypeId} {l c : V1} {L C : Value} (hl : v1R ν l L) (hc : v1R ν c C) {n : Nat} {out : Out} {s' : LW} {r wf : List Nat}
    (h : (makeSliceL P t l c n).out s = some (out, s', r, wf)) : Good ν s w n out s' ((do pure (.value (← Instr.makeSlice t L C)) : Sem Next).run P w) P := by
  unfold makeSliceL at h
  split at h
  case h_2 => simp at h
  rename_i e kl l kc c ht
  simp only [v1R, cellR] at hl hc
  subst hl; subst hc
  split at h
  case h_2 => simp at h
  rename_i sz by' z hsz hby hz
  split at h
  · simp at h
  rename_i hcond
  have hpos : 0 < sz := Nat.pos_of_ne_zero fun e => hcond (.inl e)
  have hzl : z.length = sz := Classical.byContradiction fun e => hcond (.inr (.inl e))
  have hzo : z.all oneOK = true := by
    cases hh : z.all oneOK with
    | true => rfl
    | false => exact absurd (Or.inr (Or.inr hh)) hcond
  simp only [chk, Ac.out_br, decide_eq_true_eq] at h
  split at h
  case isFalse => simp at h
  rename_i hh
  obtain ⟨h0, h1, h2⟩ := hh
  simp [Ac.out_put] at h
  obtain ⟨rfl, rfl, rfl, rfl⟩ := h
  obtain ⟨i, v, hi, hzv, rfl⟩ := zeroL_spec hz
  have hisz : i.size = sz := by
    obtain ⟨i', g1, g2⟩ := sizeL_info hsz
    rw [hi] at g1; obtain rfl := Option.some.inj g1; exact g2
  have hiby := bytesL_info hby hi
  have hzs : v.cells.toList.length = sz := by simpa using hzl
  refine ⟨by omega, fun hf => ?_⟩
  have hb1 : (1 : Int) ≤ (by' : Int) + 1 := by omega
  have hc1 : c ≤ c * ((by' : Int) + 1) := by
    have := Int.mul_le_mul_of_nonneg_left hb1 (show (0 : Int) ≤ c by omega)
    simpa using this
  have hrun := run_make (P := P) w t e i v ht hi hzv kl kc l c h0 h1 (by rw [hiby, Int.mul_comm]; show c * ((by' : Int) + 1) ≤ _; omega) (by omega)
  have hml := madeCells_list v.cells.toList sz hzs hpos c.toNat
  have hcell : ∀ j k y, j < c.toNat → v.cells.toList[k]? = some y → (madeCells v.cells (c.toNat * sz))[j * sz + k]? = some y := by
    intro j k y hj hk
    have hks : k < sz := by rw [← hzs]; exact (List.getElem?_eq_some_iff.1 hk).1
    have := congrArg (fun l => l[k]?) (flatten_chunk v.cells.toList sz hzs c.toNat j hj)
    simp only [List.getElem?_take, hks, if_true, List.getElem?_drop] at this
    rw [← hml] at this
    rw [← hk, ← this]
    simp
  obtain ⟨ν', k1, k2, k3⟩ := newRow_sound (t := e) (sz := sz) (len := l.toNat) (cap := c.toNat) (f := fun _ => v.cells.toList.map Cell.v) (cur := madeCells v.cells (c.toNat * sz)) hr hf hpos (by omega) (by unfold maxLen; omega)
    (size_madeCells _ _) (fun j hj => ⟨v.cells.toList, allOK_R hzo (vcells_R ν _), hzs, fun k y hk => hcell j k y (by omega) hk⟩)
  rw [hisz] at hrun
  refine ⟨ν', _, _, ?_, k1, k2, k3⟩
  simp only [Sem.run_bind, hrun, Result.andThen_ok, Sem.run_pure]

/-! ## maps -/
theorem findNow_get {k0 : IntKind} (k : Int) : ∀ {es : List MapEntry} (_ : ∀ e ∈ es, ∃ q, e.key = .int .i64 q) (i : Nat),
    (mget es k = none → Instr.findNow (.int k0) (.int .i64 k) es i = some none) ∧ (∀ y, mget es k = some y → ∃ j, Instr.findNow (.int k0) (.int .i64 k) es i = some (some (j, y)))
  | [], _, i => ⟨fun _ => rfl, fun y h => by simp [mget] at h⟩
  | e :: es, hk, i => by
    obtain ⟨q, hq⟩ := hk e (by simp)
    have ih := findNow_get (k0 := k0) k (es := es) (fun e he => hk e (by simp [he])) (i + 1)
    have hs : Instr.sameNow (.int k0) (.int .i64 k) e.key = some (k == q) := by rw [hq]; simp [Instr.sameNow]
    by_cases h : k = q
    · subst h
      have : Instr.findNow (.int k0) (.int .i64 k) (e :: es) i = some (some (i, e.val)) := by simp [Instr.findNow, hs]
      refine ⟨fun hn => by simp [mget, hq] at hn, fun y hy => ?_⟩
      simp [mget, hq] at hy
      subst hy
      exact ⟨i, this⟩
    · have h' : (k == q) = false := by simpa using h
      have : Instr.findNow (.int k0) (.int .i64 k) (e :: es) i = Instr.findNow (.int k0) (.int .i64 k) es (i + 1) := by simp [Instr.findNow, hs, h']
      have hm : mget (e :: es) k = mget es k := by simp [mget, hq, h]
      rw [this, hm]
      exact ih

theorem mget_push {k : Int} {x : MapEntry} {q : Int} (hx : x.key = .int .i64 q) : ∀ (es : List MapEntry), mget (es ++ [x]) k = match mget es k with | some y => some y | none => if k = q then some x.val else none
  | [] => by
    by_cases h : k = q <;> simp [mget, hx, h]
  | e :: es => by
    have ih := mget_push (k := k) hx es
    cases he : e.key with
    | int kk p =>
      by_cases h : k = p
      · simp [mget, he, h]
      · simp [mget, he, h, ih]
    | _ => simp [mget, he, ih]

theorem MapR.push {f : Int → Option Cell} {es : List MapEntry} (h : MapR ν f es) {q : Int} (hf : f q = none) {x : MapEntry} (hx : x.key = .int .i64 q) {c : Cell} (hc : cellR ν c x.val) : MapR ν (setKey f q c) (es ++ [x]) := by
  refine ⟨fun e he => ?_, fun k => ?_⟩
  · rcases List.mem_append.1 he with he | he
    · exact h.keys e he
    · simp at he; subst he; exact ⟨q, hx⟩
  · rw [mget_push hx]
    by_cases hk : k = q
    · subst hk
      rcases h.vals k with ⟨_, h2⟩ | ⟨c', y, h1, _⟩
      · exact .inr ⟨c, x.val, by simp [setKey], by simp [h2], hc⟩
      · rw [hf] at h1; cases h1
    · rcases h.vals k with ⟨h1, h2⟩ | ⟨c', y, h1, h2, h3⟩
      · exact .inl ⟨by simp [setKey, hk, h1], by simp [h2, hk]⟩
      · exact .inr ⟨c', y, by simp [setKey, hk, h1], by simp [h2], h3⟩

theorem checkKey_run {kt : TypeId} {k0 : IntKind} (hk : P.underlying kt = some (.int k0)) (b : Bool) (m : Nat) (v : Value) (w : World) : (Instr.checkKey b (m + 1) kt v).run P w = .ok () w := by
  simp [Instr.checkKey, run_underlying hk]

theorem getObj_map {w : World} {b clock : Nat} {es : Array MapEntry} (h : w.heap[b]? = some (.map es clock)) : (getObj b).run P w = .ok (.map es clock) w := by
  simp [getObj, Sem.run, h]

theorem zero1_spec {t : TypeId} {v : Value} (h : zero1 P t = some v) : ∃ i, P.info? t = some i ∧ i.zero = some v := by
  unfold zero1 at h
  split at h
  · rename_i i hi
    split at h
    · simp at h
    · rename_i v' _ hz
      obtain rfl := Option.some.inj h
      exact ⟨i, hi, hz⟩
    · simp at h
  · simp at h

theorem lookupL_sound {s : LW} {w : World} (hr : Rel ν s w) {t : TypeId} {x i : V1} {X I : Value} (hx : v1R ν x X) (hi : v1R ν i I) {ok : Bool} {n : Nat} {out : Out} {s' : LW} {r wf : List Nat}
    (h : (lookupL P t x i ok n).out s = some (out, s', r, wf)) : Good ν s w n out s' ((do pure (.value (← Instr.lookup t X I ok)) : Sem Next).run P w) P := by
  unfold lookupL at h
  split at h
  case h_2 => simp at h
  rename_i kt elem a kx ht
  simp only [v1R, cellR] at hi
  subst hi
  split at h
  case h_2 => simp at h
  rename_i k0 hk
  simp only [Ac.out_get] at h
  cases hs : s a with
  | none => simp [hs] at h
  | some e =>
    simp only [hs] at h
    cases e with
    | cells _ _ => simp at h
    | row _ _ _ _ _ => simp at h
    | map f =>
      simp only [] at h
      obtain ⟨j, b, g1, g2, rfl⟩ := hx
      obtain ⟨j', k1, b', es', clock, k2, k3, k4⟩ := hr.ent a _ hs
      rw [g1] at k1; obtain rfl := Option.some.inj k1
      rw [g2] at k2; obtain rfl := Option.some.inj k2
      have base : ∀ (res : Option (Nat × Value)) (u : Value), Instr.findNow (.int k0) (.int .i64 kx) es'.toList 0 = some res →
          (match res with | some (_, v) => u = v | none => (zeroValue elem).run P w = .ok u w) →
          (Instr.lookup t (.map (some b)) (.int .i64 kx) false).run P w = .ok u w := by
        intro res u hfind hu
        simp only [Instr.lookup, Sem.run_bind, run_underlying ht, Result.andThen_ok, getObj_map k3, Sem.run_pure, checkKey_run hk, Instr.findKey, run_underlying hk, hfind]
        cases res with
        | none => simp only [] at hu; simp [hu]
        | some p => obtain ⟨pi, pv⟩ := p; simp only [] at hu; subst hu; simp
      have hfn := findNow_get (k0 := k0) kx k4.keys 0
      cases hq : (lookEnd P elem n (f kx)).out s with
      | none => rw [hq] at h; simp at h
      | some p =>
        obtain ⟨o1, s1, r1, w1⟩ := p
        rw [hq] at h
        simp at h
        obtain ⟨rfl, rfl, rfl, rfl⟩ := h
        rcases k4.vals kx with ⟨h1, h2⟩ | ⟨c, y, h1, h2, h3⟩
        · unfold lookEnd at hq
          simp only [h1] at hq
          split at hq
          · rename_i z hz
            obtain ⟨ti, hti, hzv⟩ := zero1_spec hz
            simp [retc] at hq
            obtain ⟨rfl, rfl, rfl, rfl⟩ := hq
            refine ⟨Nat.le_refl _, fun _ => ⟨ν, w, z, ?_, Step.refl _ _ _ _, hr, rfl⟩⟩
            have := base none z (hfn.1 h2) (zero_run hti hzv w)
            simp only [Sem.run_bind, this, Result.andThen_ok, Sem.run_pure]
          · simp at hq
        · simp [lookEnd, retc, h1] at hq
          obtain ⟨rfl, rfl, rfl, rfl⟩ := hq
          refine ⟨Nat.le_refl _, fun _ => ⟨ν, w, y, ?_, Step.refl _ _ _ _, hr, h3⟩⟩
          obtain ⟨jj, hj⟩ := hfn.2 y h2
          have := base (some (jj, y)) y hj rfl
          simp only [Sem.run_bind, this, Result.andThen_ok, Sem.run_pure]

theorem insertL_sound {s : LW} {w : World} (hr : Rel ν s w) {t : TypeId} {m k x : V1} {M K' X : Value} (hm : v1R ν m M) (hk : v1R ν k K') (hx : v1R ν x X) {n : Nat} {out : Out} {s' : LW} {r wf : List Nat}
    (h : (insertL P t m k x).out s = some (out, s', r, wf)) : Good ν s w n out s' ((do Instr.mapUpdate t M K' X; pure .skip : Sem Next).run P w) P := by
  unfold insertL at h
  split at h
  case h_2 => simp at h
  rename_i kt et a kx c ht
  simp only [v1R, cellR] at hk
  subst hk
  split at h
  case h_2 => simp at h
  rename_i k0 hk0
  simp only [Ac.out_get] at h
  cases hs : s a with
  | none => simp [hs] at h
  | some e =>
    simp only [hs] at h
    cases e with
    | cells _ _ => simp at h
    | row _ _ _ _ _ => simp at h
    | map f =>
      simp only [] at h
      obtain ⟨j, b, g1, g2, rfl⟩ := hm
      obtain ⟨j', k1, b', es', clock, k2, k3, k4⟩ := hr.ent a _ hs
      rw [g1] at k1; obtain rfl := Option.some.inj k1
      rw [g2] at k2; obtain rfl := Option.some.inj k2
      cases hfk : f kx with
      | some _ => simp [hfk] at h
      | none =>
        simp [hfk, Ac.out_put] at h
        obtain ⟨rfl, rfl, rfl, rfl⟩ := h
        have h2 : Instr.findNow (.int k0) (.int .i64 kx) es'.toList 0 = some none := by
          rcases k4.vals kx with ⟨_, h2⟩ | ⟨c', y, h1, _⟩
          · exact (findNow_get (k0 := k0) kx k4.keys 0).1 h2
          · rw [hfk] at h1; cases h1
        have hlt : b < w.heap.size := (Array.getElem?_eq_some_iff.1 k3).1
        have hwb : ∀ o, ({ w with heap := w.heap.setIfInBounds b o } : World).heap[b]? = some o := fun o => by simp [hlt]
        have key := write_own (w' := { w with heap := w.heap.setIfInBounds b (.map (es'.push { key := .int .i64 kx, val := X, born := clock }) (clock + 1)) }) hr hs g1 g2 rfl
          (fun k hk => by simp [Array.getElem?_setIfInBounds_ne (Ne.symm hk)]) (by simp) rfl rfl rfl (e' := .map (setKey f kx c))
          ⟨b, _, _, g2, hwb _, by
            rw [Array.toList_push]
            exact k4.push hfk rfl hx⟩ n
        refine ⟨_, ?_, key.2, key.1⟩
        have hset : ∀ o, (setObj b o).run P w = .ok () { w with heap := w.heap.setIfInBounds b o } := fun o => by simp [setObj, Sem.run, k3]
        simp only [Instr.mapUpdate, Sem.run_bind, run_underlying ht, Result.andThen_ok, getObj_map k3, checkKey_run hk0, Instr.findKey, run_underlying hk0, h2, Sem.run_pure, hset]

theorem sliceZ_sound {s : LW} {w : World} (hr : Rel ν s w) {t : TypeId} {x h m : V1} {X H M : Value} {lo : Option (Option V1)} {Lo : Option Value} (hx : v1R ν x X) (hh : v1R ν h H) (hm : v1R ν m M)
    (hlo : match lo, Lo with | none, none => True | some (some l), some L => v1R ν l L | some none, some _ => True | _, _ => False) {n : Nat} {out : Out} {s' : LW} {r wf : List Nat}
    (hs : (sliceZ P t x lo h m n).out s = some (out, s', r, wf)) : Good ν s w n out s' ((do pure (.value (← Instr.sliceAt t X Lo (some H) (some M))) : Sem Next).run P w) P := by
  unfold sliceZ at hs
  split at hs
  case h_2 => simp at hs
  rename_i e k hi k' mi ht
  have hH : H = .int k hi := hh
  have hM : M = .int k' mi := hm
  subst hH; subst hM
  split at hs
  case h_2 => simp at hs
  rename_i sz z c hsz hz
  split at hs
  · simp at hs
  rename_i hcond
  obtain ⟨hpos, hcond⟩ := not_or.1 hcond
  obtain ⟨h1, hcond⟩ := not_or.1 hcond
  obtain ⟨h2, h3⟩ := not_or.1 hcond
  have h1 : hi = 0 := Classical.not_not.1 h1
  have h2 : mi = 0 := Classical.not_not.1 h2
  subst h1; subst h2
  obtain ⟨m, g, sz', ⟨r2, hk⟩, hY⟩ := srcL_spec hr (c := c) hx hs
  split at hk
  case isFalse => simp at hk
  rename_i hss
  simp [Ac.out_put] at hk
  obtain ⟨rfl, rfl, rfl, rfl⟩ := hk
  obtain ⟨A, cap, rfl, _⟩ := hY hss (Nat.pos_of_ne_zero hpos)
  refine ⟨by omega, fun hf => ?_⟩
  have hlo' : ∀ w, (match Lo with | some v => Instr.sliceBound v 0 .slice3C | none => pure 0 : Sem Nat).run P w = .ok 0 w := by
    intro w
    cases Lo with
    | none => rfl
    | some L =>
      match lo, hlo, h3 with
      | some none, _, h3 => simp [zeroLo] at h3
      | none, hlo, _ => exact hlo.elim
      | some (some l), hlo, h3 =>
        match l, hlo, h3 with
        | .c (.v (.int k i)), hlo, h3 =>
          have hL : L = .int k i := hlo
          simp [zeroLo] at h3
          subst hL; subst h3
          simp [Instr.sliceBound, asIntOf]
        | .a _, _, h3 => simp [zeroLo] at h3
        | .c (.p _ _), _, h3 => simp [zeroLo] at h3
        | .c (.q _ _ _ _), _, h3 => simp [zeroLo] at h3
        | .c (.e _ _ _), _, h3 => simp [zeroLo] at h3
        | .c (.r _), _, h3 => simp [zeroLo] at h3
        | .c (.s _ _ _), _, h3 => simp [zeroLo] at h3
        | .c (.m _), _, h3 => simp [zeroLo] at h3
        | .c (.f _ _), _, h3 => simp [zeroLo] at h3
        | .c .u, _, h3 => simp [zeroLo] at h3
        | .c (.v x), hlo, h3 => cases x <;> simp [zeroLo] at h3 <;> (have hL : L = _ := hlo; subst hL; subst h3; simp [Instr.sliceBound, asIntOf])
  have key := bare_new (i := ⟨none, 0, 0, sz, 0⟩) (e := .row false e sz 0 fun _ => z) hr hf rfl ⟨rfl, Nat.pos_of_ne_zero hpos, rfl, Nat.le_refl _, Nat.zero_le _, rfl, rfl⟩
  refine ⟨_, _, .slice A 0 0, ?_, key.2, key.1, ⟨_, A, Nu.set_same _ _ _, rfl, fun h => (h rfl).elim⟩⟩
  have e0 : ∀ (k : IntKind) (c : Nat) (code : BoundsCode) (w : World), (Instr.sliceBound (.int k 0) c code).run P w = .ok 0 w := fun k c code w => by simp [Instr.sliceBound, asIntOf]
  simp only [Instr.sliceAt, Sem.run_bind, run_underlying ht, Result.andThen_ok, Instr.slice, Instr.sliceBounds]
  have hl := hlo' w
  cases Lo with
  | none => simp [e0, sizeL_run hsz]
  | some L =>
    simp only [] at hl
    simp [e0, hl, sizeL_run hsz]

theorem sliceZ_grow (t : TypeId) (x : V1) (lo : Option (Option V1)) (h m : V1) (n : Nat) : (sliceZ P t x lo h m n).leaves fun out => ∃ v, out = .val v (n + 1) := by
  unfold sliceZ
  split
  · split
    · split
      · trivial
      · exact srcL_leaves fun _ _ _ => by
          split
          · exact ⟨_, rfl⟩
          · trivial
    · trivial
  · trivial

end
end Go.Ev
