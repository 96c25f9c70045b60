/- The same evaluator along one path, and renaming of the memory; no conditions beyond the hypotheses named. -/
import Derived.Test.YtggpohgoebicjaaGreatDoorEvC
set_option linter.all false
namespace Go.Ev

/-! ## the evaluator along one path: some tests are forced, and what they say is collected -/
noncomputable section

/-- the tests that are forced: how many are passed over before, and which way the next one goes -/
abbrev Way := List (Nat × Bool)
abbrev Rz (Ω : Type) := Way → Bool → Option (Bool × Ω)

section
variable {Ω Ω' : Type} {rel : Ω → Ω' → Prop}
def badZ : Rz Ω := fun _ _ => none
def endZ (z : Ω) : Rz Ω := fun _ c => some (c, z)
def plainZ (b : Bool) (t f : Rz Ω) : Rz Ω := match b with | true => t | false => f
def forceZ (b d : Bool) (t f : Rz Ω) (o : Way) (c : Bool) : Option (Bool × Ω) := match d with | true => t o (c && b) | false => f o (c && !b)
def skipZ (n : Nat) (d b : Bool) (t f : Rz Ω) (o : Way) (c : Bool) : Option (Bool × Ω) :=
  match n with
  | 0 => forceZ b d t f o c
  | n + 1 => plainZ b t f ((n, d) :: o) c
def brZ (b : Bool) (t f : Rz Ω) : Rz Ω := fun o c =>
  match o with
  | [] => plainZ b t f [] c
  | (n, d) :: o => skipZ n d b t f o c

/-- x speaks for y, if what it has collected holds -/
def Fz (rel : Ω → Ω' → Prop) (x : Rz Ω) (y : Option Ω') : Prop := ∀ o c z, x o c = some (true, z) → c = true ∧ ∃ z', y = some z' ∧ rel z z'

theorem fz_bad (y : Option Ω') : Fz rel badZ y := fun _ _ _ h => by cases h
theorem fz_end {z : Ω} {z' : Ω'} (hz : rel z z') : Fz rel (endZ z) (some z') := fun o c z1 h => by
  unfold endZ at h
  simp only [Option.some.injEq, Prod.mk.injEq] at h
  obtain ⟨h1, rfl⟩ := h
  exact ⟨h1, z', rfl, hz⟩
def pickY {α : Type} (b : Bool) (t f : Option α) : Option α := match b with | true => t | false => f
theorem fz_br {b : Bool} {t f : Rz Ω} {t' f' : Option Ω'} (ht : Fz rel t t') (hf : Fz rel f f') : Fz rel (brZ b t f) (match b with | true => t' | false => f') := by
  have hp : ∀ o c z, plainZ b t f o c = some (true, z) → c = true ∧ ∃ z', pickY b t' f' = some z' ∧ rel z z' := by
    intro o c z h
    cases b with
    | true => exact ht o c z h
    | false => exact hf o c z h
  intro o c z h
  unfold brZ at h
  match o with
  | [] => exact hp _ _ _ h
  | (n, d) :: o =>
    match n with
    | n + 1 => exact hp _ _ _ h
    | 0 =>
      match d with
      | true =>
        obtain ⟨h1, h2⟩ := ht o (c && b) z h
        simp only [Bool.and_eq_true] at h1
        obtain ⟨h3, rfl⟩ := h1
        exact ⟨h3, h2⟩
      | false =>
        obtain ⟨h1, h2⟩ := hf o (c && !b) z h
        simp only [Bool.and_eq_true, Bool.not_eq_true'] at h1
        obtain ⟨h3, rfl⟩ := h1
        exact ⟨h3, h2⟩

def runZ {α : Type} : Ac α → LW → List Nat → List Nat → (α → LW → List Nat → List Nat → Rz Ω) → Rz Ω
  | .ret a, s, r, w, k => k a s r w
  | .stuck, _, _, _, _ => badZ
  | .br b t e, s, r, w, k => brZ b (runZ t s r w k) (runZ e s r w k)
  | .get h g, s, r, w, k => match s h with | some e => runZ (g e) s (h :: r) w k | none => badZ
  | .put h e g, s, r, w, k => runZ g (s.upd h e) r (h :: w) k

theorem fz_run {α : Type} : ∀ (x : Ac α) (s : LW) (r w : List Nat) (k : α → LW → List Nat → List Nat → Rz Ω) (k' : α → LW → List Nat → List Nat → Option Ω') (_ : ∀ a s r w, Fz rel (k a s r w) (k' a s r w)), Fz rel (runZ x s r w k) (x.run s r w k')
  | .ret a, s, r, w, k, k', hk => hk a s r w
  | .stuck, s, r, w, k, k', hk => fz_bad _
  | .br b t e, s, r, w, k, k', hk => fz_br (fz_run t s r w k k' hk) (fz_run e s r w k k' hk)
  | .get h g, s, r, w, k, k', hk => by
    unfold runZ Ac.run
    cases hs : s h with
    | none => exact fz_bad _
    | some e => exact fz_run (g e) s (h :: r) w k k' hk
  | .put h e g, s, r, w, k, k', hk => fz_run g (s.upd h e) r (h :: w) k k' hk


/-! ### slots: what is known of them -/
abbrev Env := List (Nat × LV)
structure En where
  k : Nat
  m : Nat
  l : Env
  a : Env

def bitOf (k t : Nat) : Nat := Nat.land (Nat.shiftRight k t) 1

def lookE (e : Env) : Nat → Option LV :=
  List.rec (motive := fun _ => Nat → Option LV) (fun _ => none) (fun x _ ih t => Bool.rec (motive := fun _ => Option LV) (ih t) (some x.2) (Nat.beq x.1 t)) e

def setE {Ω1 : Type} (t : Nat) (v : LV) (e : Env) : (Env → Ω1) → Ω1 :=
  List.rec (motive := fun _ => (Env → Ω1) → Ω1) (fun K => K [(t, v)]) (fun x xs ih K => Bool.rec (motive := fun _ => Ω1) (ih fun ys => K (x :: ys)) (K ((t, v) :: xs)) (Nat.beq x.1 t)) e

def getEn (e : En) (t : Nat) : Option LV := match e with
  | ⟨k, _, l, a⟩ => (match bitOf k t with | 0 => lookE a t | _ + 1 => lookE l t)

def setEn (e : En) (d : Nat) (v : LV) (K : En → Rz Ω) : Rz Ω := match e with
  | ⟨k, m, l, a⟩ => (match Nat.blt d m with
    | true => (match bitOf k d with
      | 0 => setE d v a fun a => K ⟨k, m, l, a⟩
      | _ + 1 => K ⟨k, m, (d, v) :: l, a⟩)
    | false => badZ)

def putEn (e : En) (dst : Option Tmp) (v : LV) (K : En → Rz Ω) : Rz Ω := match dst with
  | none => K e
  | some d => forceL v fun v => setEn e d v K

def clearEn (e : En) : En := match e with | ⟨k, m, _, a⟩ => ⟨k, m, [], a⟩

/-- what the slots are -/
def KE (e : En) (a : LAct) : Prop := e.m = a.length ∧ ∀ t v, getEn e t = some v → a[t]? = some v

theorem lookE_cons (d : Nat) (v : LV) (e : Env) (t : Nat) : lookE ((d, v) :: e) t = if d = t then some v else lookE e t := by
  show Bool.rec (motive := fun _ => Option LV) (lookE e t) (some v) (Nat.beq d t) = _
  cases hb : Nat.beq d t with
  | true => rw [if_pos (Nat.eq_of_beq_eq_true hb)]
  | false => rw [if_neg (fun h => by rw [h, Nat.beq_refl] at hb; cases hb)]

theorem setE_spec {Ω1 : Type} (d : Nat) (v : LV) : ∀ (e : Env) (K : Env → Ω1), ∃ e', setE d v e K = K e' ∧ ∀ t, lookE e' t = if d = t then some v else lookE e t
  | [], K => ⟨[(d, v)], rfl, fun t => lookE_cons d v [] t⟩
  | (c, u) :: e, K => by
    have h0 : setE d v ((c, u) :: e) K = Bool.rec (motive := fun _ => Ω1) (setE d v e fun ys => K ((c, u) :: ys)) (K ((d, v) :: e)) (Nat.beq c d) := rfl
    rw [h0]
    cases hb : Nat.beq c d with
    | true =>
      have hcd := Nat.eq_of_beq_eq_true hb
      refine ⟨(d, v) :: e, rfl, fun t => ?_⟩
      rw [lookE_cons, lookE_cons]
      split <;> rename_i h
      · rfl
      · rw [if_neg (fun h' => h (hcd ▸ h'))]
    | false =>
      have hcd : c ≠ d := fun h => by rw [h, Nat.beq_refl] at hb; cases hb
      obtain ⟨e', h1, h2⟩ := setE_spec d v e fun ys => K ((c, u) :: ys)
      refine ⟨(c, u) :: e', h1, fun t => ?_⟩
      rw [lookE_cons, lookE_cons, h2]
      by_cases hc : c = t
      · subst hc; rw [if_pos rfl, if_neg (Ne.symm hcd), if_pos rfl]
      · rw [if_neg hc, if_neg hc]

theorem setEn_fz {e : En} {a : LAct} (h : KE e a) (d : Nat) (v : LV) {K : En → Rz Ω} {y : Option Ω'} (hK : ∀ e', KE e' (a.set d v) → Fz rel (K e') y) : Fz rel (setEn e d v K) y := by
  obtain ⟨k, m, l, ae⟩ := e
  obtain ⟨hm, hg⟩ := h
  simp only at hm
  simp only [setEn]
  cases hb : Nat.blt d m with
  | false => exact fz_bad _
  | true =>
    have hd : d < a.length := by rw [← hm]; exact Nat.le_of_ble_eq_true hb
    simp only []
    cases hk : bitOf k d with
    | zero =>
      simp only []
      obtain ⟨e', h1, h2⟩ := setE_spec d v ae fun a => K ⟨k, m, l, a⟩
      rw [h1]
      refine hK _ ⟨by simpa using hm, fun t u ht => ?_⟩
      unfold getEn at ht
      simp only at ht
      cases hkt : bitOf k t with
      | zero =>
        rw [hkt] at ht
        simp only [h2] at ht
        split at ht
        · rename_i hdt; subst hdt; cases ht; simp [hd]
        · rename_i hdt
          rw [List.getElem?_set_ne hdt]
          exact hg t u (by simp only [getEn, hkt]; exact ht)
      | succ q =>
        rw [hkt] at ht
        have hdt : d ≠ t := fun h => by rw [h, hkt] at hk; cases hk
        rw [List.getElem?_set_ne hdt]
        exact hg t u (by simp only [getEn, hkt]; exact ht)
    | succ q =>
      simp only []
      refine hK _ ⟨by simpa using hm, fun t u ht => ?_⟩
      unfold getEn at ht
      simp only at ht
      cases hkt : bitOf k t with
      | zero =>
        rw [hkt] at ht
        have hdt : d ≠ t := fun h => by rw [h, hkt] at hk; cases hk
        rw [List.getElem?_set_ne hdt]
        exact hg t u (by simp only [getEn, hkt]; exact ht)
      | succ q' =>
        rw [hkt] at ht
        simp only [lookE_cons] at ht
        split at ht
        · rename_i hdt; subst hdt; cases ht; simp [hd]
        · rename_i hdt
          rw [List.getElem?_set_ne hdt]
          exact hg t u (by simp only [getEn, hkt]; exact ht)

theorem putEn_fz {e : En} {a : LAct} (h : KE e a) (d : Option Tmp) (v : LV) {K : En → Rz Ω} {k' : LAct → Option Ω'} (hK : ∀ e' a', KE e' a' → Fz rel (K e') (k' a')) : Fz rel (putEn e d v K) (putR a d v k') := by
  rw [putR_eq, putK_eq]
  cases d with
  | none => exact hK _ _ h
  | some d =>
    simp only [putEn, putL, forceL_eq]
    exact setEn_fz h d v fun e' h' => hK _ _ h'

theorem KE.clear {e : En} {a : LAct} (h : KE e a) : KE (clearEn e) a := by
  obtain ⟨k, m, l, ae⟩ := e
  refine ⟨h.1, fun t v ht => h.2 t v ?_⟩
  simp only [clearEn, getEn] at ht ⊢
  cases hk : bitOf k t with
  | zero => rw [hk] at ht; exact ht
  | succ q => rw [hk] at ht; cases ht

def evE (gl : Nat → Option Nat) (e : En) (o : Operand) : Option LV :=
  match o with
  | .tmp t => getEn e t
  | .const v => some (constL v)
  | .global g => some (match gl g with | some h => .o (.c (.p h 0)) | none => .o (.c (.v (.pointer (some ⟨g, 0, none⟩)))))
  | .func f => some (.o (.c (.f f [])))

theorem evE_spec {gl : Nat → Option Nat} {e : En} {a : LAct} (h : KE e a) {o : Operand} {v : LV} (hv : evE gl e o = some v) : evalL gl a o = v := by
  cases o with
  | tmp t =>
    have := h.2 t v hv
    simp [evalL, List.getD_eq_getElem?_getD, this]
  | const v' => exact Option.some.inj hv
  | global g => exact Option.some.inj hv
  | func f => exact Option.some.inj hv

/-! ### operations -/
def withV (x : Option LV) (f : LV → Ac Out) : Ac Out := match x with | some v => f v | none => .stuck
def with1 (x : Option LV) (f : V1 → Ac Out) : Ac Out := match x with | some (.o v) => f v | _ => .stuck
def withC (x : Option LV) (f : Cell → Ac Out) : Ac Out := match x with | some (.o (.c v)) => f v | _ => .stuck

def partsE (ev : Operand → Option LV) : List (Nat × Operand) → Option (List (Nat × V1))
  | [] => some []
  | (i, x) :: rest => match ev x, partsE ev rest with | some (.o v), some vs => some ((i, v) :: vs) | _, _ => none
def onesE (ev : Operand → Option LV) : List Operand → Option (List V1)
  | [] => some []
  | x :: xs => match ev x, onesE ev xs with | some (.o v), some vs => some (v :: vs) | _, _ => none

def optE (ev : Operand → Option LV) (x : Option Operand) (k : Option V1 → Ac Out) : Ac Out := match x with
  | none => k none
  | some x => with1 (ev x) fun v => k (some v)

def unE (P : Program) (op : UnOp) (c : Cell) (n : Nat) : Ac Out := match c with | .v x => unF P op x n | _ => .stuck
def convE (P : Program) (s d : TypeId) (c : Cell) (n : Nat) : Ac Out := match c with | .v x => convF P s d x n | _ => .stuck
def nilE (c : Cell) (n : Nat) : Ac Out := match c with
  | .p h off => retc (.p h off) n
  | .e h i off => retc (.e h i off) n
  | .q h off len i => retc (.q h off len i) n
  | .f fn caps => retc (.f fn caps) n
  | _ => .stuck
def faE (c : Cell) (d : Option Nat) (n : Nat) : Ac Out := match c with
  | .p h off => (match d with | some d => retc (.p h (off + d)) n | none => .stuck)
  | .e h i off => (match d with | some d => retc (.e h i (off + d)) n | none => .stuck)
  | _ => .stuck
def buildE (P : Program) (t : TypeId) (ps : Option (List (Nat × V1))) (n : Nat) : Ac Out := match zeroL P t, ps, places P t with
  | some z, some ps, some pl => (match fillL pl z ps with | some cs => retv (.a cs) n | none => .stuck)
  | _, _, _ => .stuck
def buildSliceE (P : Program) (t : TypeId) (len : Nat) (ps : Option (List (Nat × V1))) (n : Nat) : Ac Out := match P.underlying t with
    | some (.slice e) => (match sizeL P e, zeroL P e, ps with
      | some sz, some z, some ps =>
        if sz = 0 ∨ z.length ≠ sz ∨ len * sz > 100000 then .stuck else
        (match fillL (fun i => some (i * sz, sz)) ((List.replicate len z).flatten) ps with
        | some cs => if cs.all oneOK then .put n (some (.row false e sz len (builtRow z sz cs len))) (.ret (.val (.o (.c (.r n))) (n + 1))) else .stuck
        | none => .stuck)
      | _, _, _ => .stuck)
    | _ => .stuck
def fieldE (P : Program) (t : TypeId) (x : V1) (f : Nat) (n : Nat) : Ac Out := match P.underlying t, x with
    | some (.struct fields), .a cs => (match fields[f]? with
      | some fd => (match partL P fd.type cs fd.offset with | some v => retv v n | none => .stuck)
      | none => .stuck)
    | _, _ => .stuck
def extE (v : LV) (i : Nat) (n : Nat) : Ac Out := match v with
    | .t vs => (match vs[i]? with | some v => retv v n | none => .stuck)
    | _ => .stuck
def funcE (args : List V1) (v : LV) : Ac Out := match v with
    | .o (.c (.f fn caps)) => .ret (.call fn (args ++ caps.map Cap.cell))
    | _ => .stuck
def callE (P : Program) (ev : Operand → Option LV) (c : Call) (t : TypeId) (args : Option (List V1)) (n : Nat) : Ac Out := match args with
  | some args => (match c.callee with
    | .builtin b => builtinL P b c.argTypes t args n
    | .value f => withV (ev f) (funcE args)
    | .invoke _ _ => .stuck)
  | none => .stuck
def capE (f : FuncId) (first : Array Operand) (args : Option (List V1)) (n : Nat) : Ac Out :=
  match decide (first.size = 0) with
  | true => (match args.bind capsL with | some caps => retc (.f f caps) n | none => .stuck)
  | false => .stuck

def opSemE (o : Op) : Program → (Operand → Option LV) → TypeId → Nat → Ac Out :=
  match o with
  | .move x => fun _ ev _ n => withV (ev x) fun v => .ret (.val v n)
  | .assign x => fun _ ev _ n => withV (ev x) fun v => .ret (.val v n)
  | .pick c x y => fun _ ev _ n => withC (ev c) fun | .v (.bool b) => .br b (withV (ev x) fun v => .ret (.val v n)) (withV (ev y) fun v => .ret (.val v n)) | _ => .stuck
  | .alloc t => fun P _ _ n => allocOq P t n
  | .box t x => fun _ ev _ n => with1 (ev x) fun v => if v.ok then newCells t v.cells n else .stuck
  | .load t x => fun P ev _ n => withC (ev x) fun c => loadL P t c fun v => retv v n
  | .store t x y => fun P ev _ _ => withC (ev x) fun c => with1 (ev y) fun v => storeL P t c v
  | .binOp op t x y _ => fun P ev _ n => with1 (ev x) fun x => with1 (ev y) fun y => binLF P op t x y n
  | .fieldAddr s x f => fun P ev _ n => withC (ev x) fun c => faE c (fieldOff P s f) n
  | .nilCheck x => fun _ ev _ n => withC (ev x) fun c => nilE c n
  | .unOp op _ x => fun P ev _ n => withC (ev x) fun c => unE P op c n
  | .convert s d x => fun P ev _ n => withC (ev x) fun c => convE P s d c n
  | .build t ps => fun P ev _ n => buildE P t (partsE ev ps.toList) n
  | .buildSlice t len ps => fun P ev _ n => buildSliceE P t len (partsE ev ps.toList) n
  | .index t x i => fun P ev _ n => with1 (ev x) fun x => withC (ev i) fun | .v i => indexL P t x i n | _ => .stuck
  | .indexAddr t x i => fun P ev _ n => with1 (ev x) fun x => withC (ev i) fun | .v (.int _ i) => indexAddrL P t x i n | _ => .stuck
  | .extract t i => fun _ ev _ n => withV (ev t) fun v => extE v i n
  | .field t x f => fun P ev _ n => with1 (ev x) fun x => fieldE P t x f n
  | .call c => fun P ev ty n => callE P ev c ty (onesE ev c.args.toList) n
  | .lookup t x i ok => fun P ev _ n => with1 (ev x) fun x => with1 (ev i) fun i => lookupL P t x i ok n
  | .makeSlice t l c => fun P ev _ n => with1 (ev l) fun l => with1 (ev c) fun c => makeSliceL P t l c n
  | .makeMap t none => fun P _ _ n => (match P.underlying t with
    | some (.map _ _) => .put n (some (.map fun _ => none)) (.ret (.val (.o (.c (.m n))) (n + 1)))
    | _ => .stuck)
  | .makeFunc (.func f) first captured => fun _ ev _ n => capE f first (onesE ev captured.toList) n
  | .slice t x lo hi none => fun P ev _ n => with1 (ev x) fun x => optE ev lo fun lo => optE ev hi fun hi => sliceL P t x lo hi n
  | .slice t x lo (some hi) (some mx) => fun P ev _ n => with1 (ev x) fun x => with1 (ev hi) fun h => with1 (ev mx) fun m => optE ev lo fun lo => sliceZ P t x (lo.map some) h m n
  | .mapUpdate t m k x => fun P ev _ _ => with1 (ev m) fun m => with1 (ev k) fun k => with1 (ev x) fun x => insertL P t m k x
  | .insert t m k x => fun P ev _ _ => with1 (ev m) fun m => with1 (ev k) fun k => with1 (ev x) fun x => insertL P t m k x
  | _ => fun _ _ _ _ => .stuck

/-- x speaks for y -/
def AcRef (x y : Ac Out) : Prop := ∀ (Ω Ω' : Type) (rel : Ω → Ω' → Prop) (s : LW) (r w : List Nat) (k : Out → LW → List Nat → List Nat → Rz Ω) (k' : Out → LW → List Nat → List Nat → Option Ω'), (∀ a s r w, Fz rel (k a s r w) (k' a s r w)) → Fz rel (runZ x s r w k) (y.run s r w k')
theorem AcRef.refl (x : Ac Out) : AcRef x x := fun _ _ _ s r w k k' h => fz_run x s r w k k' h
theorem AcRef.stuck (y : Ac Out) : AcRef .stuck y := fun _ _ _ _ _ _ _ _ _ => fz_bad _
theorem AcRef.br {b : Bool} {t f t' f' : Ac Out} (h : AcRef t t') (h' : AcRef f f') : AcRef (.br b t f) (.br b t' f') := fun _ _ _ s r w k k' hk => fz_br (h _ _ _ s r w k k' hk) (h' _ _ _ s r w k k' hk)
theorem AcRef.of_eq {x y : Ac Out} (h : x = y) : AcRef x y := h ▸ .refl x
theorem ref_withV {x : Option LV} {f : LV → Ac Out} {y : Ac Out} (h : ∀ v, x = some v → AcRef (f v) y) : AcRef (withV x f) y := by
  cases x with
  | none => exact .stuck _
  | some v => exact h v rfl
theorem ref_with1 {x : Option LV} {f : V1 → Ac Out} {y : Ac Out} (h : ∀ v, x = some (.o v) → AcRef (f v) y) : AcRef (with1 x f) y := by
  cases x with
  | none => exact .stuck _
  | some v => cases v with
    | o v => exact h v rfl
    | t vs => exact .stuck _
theorem ref_withC {x : Option LV} {f : Cell → Ac Out} {y : Ac Out} (h : ∀ v, x = some (.o (.c v)) → AcRef (f v) y) : AcRef (withC x f) y := by
  cases x with
  | none => exact .stuck _
  | some v => cases v with
    | o v => cases v with
      | c v => exact h v rfl
      | a cs => exact .stuck _
    | t vs => exact .stuck _

section
variable {gl : Nat → Option Nat} {a : LAct} {ev : Operand → Option LV}
theorem one_ev (hev : ∀ x v, ev x = some v → evalL gl a x = v) {x : Operand} {v : V1} (h : ev x = some (.o v)) : one? (evalL gl a x) = some v := by rw [hev x _ h]; rfl
theorem partsE_spec (hev : ∀ x v, ev x = some v → evalL gl a x = v) : ∀ {l : List (Nat × Operand)} {ps : List (Nat × V1)}, partsE ev l = some ps → partsL gl a l = some ps
  | [], ps, h => h
  | (i, x) :: l, ps, h => by
    unfold partsE at h
    split at h
    · rename_i v vs h1 h2
      cases h
      simp [partsL, one_ev hev h1, partsE_spec hev h2]
    · cases h
theorem onesE_spec (hev : ∀ x v, ev x = some v → evalL gl a x = v) : ∀ {l : List Operand} {vs : List V1}, onesE ev l = some vs → ones? (l.map (evalL gl a)) = some vs
  | [], vs, h => h
  | x :: l, vs, h => by
    unfold onesE at h
    split at h
    · rename_i v vs h1 h2
      cases h
      simp [ones?, one_ev hev h1, onesE_spec hev h2]
    · cases h
theorem ref_opt (hev : ∀ x v, ev x = some v → evalL gl a x = v) {x : Option Operand} {k : Option V1 → Ac Out} {y : Ac Out} (h : ∀ v : Option V1, (x.map fun x => one? (evalL gl a x)) = v.map some → AcRef (k v) y) : AcRef (optE ev x k) y := by
  cases x with
  | none => exact h none rfl
  | some x => exact ref_with1 fun v hv => h (some v) (by simp [one_ev hev hv])

theorem opE_ref (P : Program) (hev : ∀ x v, ev x = some v → evalL gl a x = v) (o : Oper) (n : Nat) : AcRef (opSemE o.op P ev o.type n) (evOp P gl a o n) := by
  unfold evOp
  cases ho : o.op <;> simp only [opSemE] <;> first | exact .stuck _ | skip
  case move x => exact ref_withV fun v hv => .of_eq (by rw [hev _ _ hv])
  case assign x => exact ref_withV fun v hv => .of_eq (by rw [hev _ _ hv])
  case pick c x y =>
    refine ref_withC fun v hv => ?_
    rw [hev _ _ hv]
    split
    · exact .br (ref_withV fun v hv => .of_eq (by rw [hev _ _ hv])) (ref_withV fun v hv => .of_eq (by rw [hev _ _ hv]))
    · exact .stuck _
  case alloc t => exact .refl _
  case box t x => exact ref_with1 fun v hv => .of_eq (by rw [one_ev hev hv])
  case load t x => exact ref_withC fun v hv => .of_eq (by rw [one_ev hev hv])
  case store t x y => exact ref_withC fun v hv => ref_with1 fun u hu => .of_eq (by rw [one_ev hev hv, one_ev hev hu])
  case binOp op t x y u => exact ref_with1 fun v hv => ref_with1 fun u hu => .of_eq (by rw [one_ev hev hv, one_ev hev hu, binLF_eq])
  case fieldAddr s x f =>
    refine ref_withC fun v hv => .of_eq ?_
    rw [one_ev hev hv]
    unfold faE
    cases v <;> (try rfl) <;> (cases fieldOff P s f <;> rfl)
  case nilCheck x =>
    refine ref_withC fun v hv => .of_eq ?_
    rw [one_ev hev hv]
    cases v <;> rfl
  case unOp op t x =>
    refine ref_withC fun v hv => .of_eq ?_
    rw [one_ev hev hv]
    cases v <;> rfl
  case convert s d x =>
    refine ref_withC fun v hv => .of_eq ?_
    rw [one_ev hev hv]
    cases v <;> rfl
  case build t ps =>
    cases hp : partsE ev ps.toList with
    | none => unfold buildE; cases zeroL P t <;> exact .stuck _
    | some l => rw [partsE_spec hev hp]; exact .refl _
  case buildSlice t len ps =>
    cases hp : partsE ev ps.toList with
    | none =>
      have : buildSliceE P t len none n = .stuck := by
        unfold buildSliceE
        split
        · split
          · rename_i h; cases h
          · rfl
        · rfl
      rw [this]; exact .stuck _
    | some l => rw [partsE_spec hev hp]; exact .refl _
  case index t x i =>
    refine ref_with1 fun v hv => ref_withC fun u hu => ?_
    rw [one_ev hev hv, one_ev hev hu]
    split
    · exact .refl _
    · exact .stuck _
  case indexAddr t x i =>
    refine ref_with1 fun v hv => ref_withC fun u hu => ?_
    rw [one_ev hev hv, one_ev hev hu]
    split
    · exact .refl _
    · exact .stuck _
  case extract t i => exact ref_withV fun v hv => .of_eq (by rw [hev _ _ hv]; rfl)
  case field t x f =>
    refine ref_with1 fun v hv => .of_eq ?_
    rw [one_ev hev hv]
    unfold fieldE
    cases P.underlying t with
    | none => rfl
    | some d => cases d <;> first | rfl | (cases v <;> rfl)
  case call c =>
    cases hp : onesE ev c.args.toList with
    | none => exact .stuck _
    | some l =>
      rw [onesE_spec hev hp]
      unfold callE
      simp only []
      cases c.callee with
      | builtin b => exact .refl _
      | value f => exact ref_withV fun v hv => .of_eq (by simp only [hev _ _ hv]; rfl)
      | invoke _ _ => exact .stuck _
  case lookup t x i ok => exact ref_with1 fun v hv => ref_with1 fun u hu => .of_eq (by rw [one_ev hev hv, one_ev hev hu])
  case makeSlice t l c => exact ref_with1 fun v hv => ref_with1 fun u hu => .of_eq (by rw [one_ev hev hv, one_ev hev hu])
  case makeMap t r =>
    cases r with
    | none => exact .refl _
    | some _ => exact .stuck _
  case makeFunc fn first captured =>
    cases fn <;> simp only [] <;> first | exact .stuck _ | skip
    rename_i f
    unfold capE
    by_cases h0 : first.size = 0
    · simp only [h0, decide_true, if_true]
      cases hp : onesE ev captured.toList with
      | none => exact .stuck _
      | some l => rw [onesE_spec hev hp]; exact .refl _
    · simp only [h0, decide_false]; exact .stuck _
  case slice t x lo hi mx =>
    cases mx with
    | none =>
      simp only []
      refine ref_with1 fun v hv => ref_opt hev fun l hl => ref_opt hev fun h hh => .of_eq ?_
      rw [one_ev hev hv, hl, hh]
      cases l <;> cases h <;> rfl
    | some mx =>
      cases hi with
      | none => exact .stuck _
      | some hi =>
        simp only []
        refine ref_with1 fun v hv => ref_with1 fun h hh => ref_with1 fun m hm => ref_opt hev fun l hl => .of_eq ?_
        rw [one_ev hev hv, one_ev hev hh, one_ev hev hm, hl]
  case mapUpdate t m k x => exact ref_with1 fun v hv => ref_with1 fun u hu => ref_with1 fun z hz => .of_eq (by rw [one_ev hev hv, one_ev hev hu, one_ev hev hz])
  case insert t m k x => exact ref_with1 fun v hv => ref_with1 fun u hu => ref_with1 fun z hz => .of_eq (by rw [one_ev hev hv, one_ev hev hu, one_ev hev hz])
end

abbrev Kz (Ω : Type) := En → LW → Nat → List Nat → List Nat → Rz Ω
abbrev KCz (Ω : Type) := LV → LW → Nat → List Nat → List Nat → Rz Ω
abbrev CallZ (Ω : Type) := FuncId → List V1 → LW → Nat → List Nat → List Nat → KCz Ω → Rz Ω

def FzK (rel : Ω → Ω' → Prop) (k : Kz Ω) (k' : K Ω') : Prop := ∀ e a s n r w, KE e a → Fz rel (k e s n r w) (k' a s n r w)
def FzC (rel : Ω → Ω' → Prop) (k : KCz Ω) (k' : LV → LW → Nat → List Nat → List Nat → Option Ω') : Prop := ∀ v s n r w, Fz rel (k v s n r w) (k' v s n r w)
def FzCall (rel : Ω → Ω' → Prop) (c : CallZ Ω) (c' : CallF Ω') : Prop := ∀ f args s n r w k k', FzC rel k k' → Fz rel (c f args s n r w k) (c' f args s n r w k')

def outZ (call : CallZ Ω) (dst : Option Tmp) (e : En) (n : Nat) (k : Kz Ω) (out : Out) (s : LW) (r w : List Nat) : Rz Ω :=
  match out with
  | .val v n' => putEn e dst v fun e => k e s n' r w
  | .skip => putEn e dst undefL fun e => k e s n r w
  | .call f args => call f args s n r w fun v s n r w => putEn e dst v fun e => k e s n r w

def execZ (P : Program) (gl : Nat → Option Nat) (call : CallZ Ω) (o : Oper) (e : En) (s : LW) (n : Nat) (r w : List Nat) (k : Kz Ω) : Rz Ω :=
  runZ (opSemE o.op P (evE gl e) o.type n) s r w (outZ call o.dst e n k)

theorem fz_exec {P : Program} {gl : Nat → Option Nat} {call : CallZ Ω} {call' : CallF Ω'} (hc : FzCall rel call call') (o : Oper) {e : En} {a : LAct} (he : KE e a) (s : LW) (n : Nat) (r w : List Nat) {k : Kz Ω} {k' : K Ω'} (hk : FzK rel k k') :
    Fz rel (execZ P gl call o e s n r w k) (execF P gl call' o a s n r w k') := by
  unfold execF
  rw [opSem2_eq]
  refine opE_ref P (fun x v hv => evE_spec he hv) o n Ω Ω' rel s r w _ _ fun out s r w => ?_
  cases out with
  | val v n' => exact putEn_fz he _ _ fun e' a' h' => hk _ _ _ _ _ _ h'
  | skip => exact putEn_fz he _ _ fun e' a' h' => hk _ _ _ _ _ _ h'
  | call f args => exact hc _ _ _ _ _ _ _ _ fun v s n r w => putEn_fz he _ _ fun e' a' h' => hk _ _ _ _ _ _ h'

def noopZ (o : Oper) (e : En) (s : LW) (n : Nat) (r w : List Nat) (k : Kz Ω) : Rz Ω := putEn e o.dst undefL fun e => k e s n r w
theorem fz_noop (o : Oper) {e : En} {a : LAct} (he : KE e a) (s : LW) (n : Nat) (r w : List Nat) {k : Kz Ω} {k' : K Ω'} (hk : FzK rel k k') : Fz rel (noopZ o e s n r w k) (skipK o a s n r w k') := putEn_fz he _ _ fun _ _ h' => hk _ _ _ _ _ _ h'

def boolOf (v : Option LV) (t f : Rz Ω) : Rz Ω := match v with
  | some (.o (.c (.v (.bool b)))) => brZ b t f
  | _ => badZ

def wantZ (want : Bool) (x y : Rz Ω) : Rz Ω := match want with | true => x | false => y

def guardOf (v : Option LV) (t f x : Rz Ω) : Rz Ω := match v with
  | some (.o (.c (.v (.bool b)))) => brZ b t f
  | some _ => x
  | none => badZ

def guardZ (P : Program) (gl : Nat → Option Nat) (call : CallZ Ω) (o : Oper) (d : Tmp) (want : Bool) (e : En) (s : LW) (n : Nat) (r w : List Nat) (k : Kz Ω) : Rz Ω :=
  guardOf (getEn e d) (setEn e d (.o (.c (.v (.bool true)))) fun e => wantZ want (execZ P gl call o e s n r w k) (noopZ o e s n r w k))
    (setEn e d (.o (.c (.v (.bool false)))) fun e => wantZ want (noopZ o e s n r w k) (execZ P gl call o e s n r w k)) (noopZ o e s n r w k)

theorem fz_guard {P : Program} {gl : Nat → Option Nat} {call : CallZ Ω} {call' : CallF Ω'} (hc : FzCall rel call call') (o : Oper) (d : Tmp) (want : Bool) {e : En} {a : LAct} (he : KE e a) (s : LW) (n : Nat) (r w : List Nat) {k : Kz Ω} {k' : K Ω'} (hk : FzK rel k k') :
    Fz rel (guardZ P gl call o d want e s n r w k) (guardK P gl call' o d want a s n r w k') := by
  unfold guardZ guardOf
  cases hg : getEn e d with
  | none => exact fz_bad _
  | some v =>
    have ha' : a[d]? = some v := he.2 _ _ hg
    have ha : getO a d = some v := by rw [getO_eq]; exact ha'
    have hno := fz_noop (rel := rel) o he s n r w hk
    unfold guardK
    rw [ha]
    cases v with
    | t vs => exact hno
    | o v =>
      cases v with
      | a cs => exact hno
      | c x =>
        cases x with
        | v y =>
          cases y with
          | bool b =>
            refine fz_br ?_ ?_
            · refine setEn_fz he _ _ fun e' h' => ?_
              rw [setR_eq, setK_eq]
              cases want
              · exact fz_noop o h' s n r w hk
              · exact fz_exec hc o h' s n r w hk
            · refine setEn_fz he _ _ fun e' h' => ?_
              rw [setR_eq, setK_eq]
              cases want
              · exact fz_exec hc o h' s n r w hk
              · exact fz_noop o h' s n r w hk
          | _ => exact hno
        | _ => exact hno

def stepZ (P : Program) (gl : Nat → Option Nat) (call : CallZ Ω) (ops : Array Oper) (o : Oper) (e : En) (s : LW) (n : Nat) (r w : List Nat) (k : Kz Ω) : Rz Ω :=
  match o.guard with
  | none => execZ P gl call o e s n r w k
  | some (j, want) => (match guardSlot ops j with
    | none => noopZ o e s n r w k
    | some d => guardZ P gl call o d want e s n r w k)

theorem fz_step {P : Program} {gl : Nat → Option Nat} {call : CallZ Ω} {call' : CallF Ω'} (hc : FzCall rel call call') (ops : Array Oper) (o : Oper) {e : En} {a : LAct} (he : KE e a) (s : LW) (n : Nat) (r w : List Nat) {k : Kz Ω} {k' : K Ω'} (hk : FzK rel k k') :
    Fz rel (stepZ P gl call ops o e s n r w k) (stepF P gl call' ops o a s n r w k') := by
  unfold stepZ stepF
  cases o.guard with
  | none => exact fz_exec hc _ he _ _ _ _ hk
  | some g =>
    obtain ⟨j, want⟩ := g
    simp only []
    cases guardSlot ops j with
    | none => exact fz_noop o he s n r w hk
    | some d => exact fz_guard hc _ _ _ he _ _ _ _ hk

def seqZ (P : Program) (gl : Nat → Option Nat) (call : CallZ Ω) (ops : Array Oper) : List Oper → Kz Ω → Kz Ω
  | [], k => k
  | o :: rest, k => fun e s n r w => stepZ P gl call ops o e s n r w (seqZ P gl call ops rest k)

theorem fz_seq {P : Program} {gl : Nat → Option Nat} {call : CallZ Ω} {call' : CallF Ω'} (hc : FzCall rel call call') (ops : Array Oper) {k : Kz Ω} {k' : K Ω'} (hk : FzK rel k k') : ∀ l : List Oper, FzK rel (seqZ P gl call ops l k) (seqF P gl call' ops l k')
  | [] => hk
  | o :: rest => fun e a s n r w he => fz_step hc ops o he s n r w (fz_seq hc ops hk rest)

def endDZ (ops : Array Oper) (k : Kz Ω) (fps : List (List Nat × List Nat)) (r w : List Nat) (e : En) (s : LW) (n : Nat) : Rz Ω :=
  match drawOK ops fps with | true => k e s n r w | false => badZ

def drawZ (P : Program) (gl : Nat → Option Nat) (call : CallZ Ω) (ops : Array Oper) (k : Kz Ω) : List Oper → List (List Nat × List Nat) → List Nat → List Nat → En → LW → Nat → Rz Ω
  | [], fps, r, w => endDZ ops k fps r w
  | o :: rest, fps, r, w => fun e s n => stepZ P gl call ops o e s n [] [] fun e s n r' w' =>
    appK fps [(r', w')] fun fps => appK r' r fun r => appK w' w fun w => drawZ P gl call ops k rest fps r w e s n

theorem fz_draw {P : Program} {gl : Nat → Option Nat} {call : CallZ Ω} {call' : CallF Ω'} (hc : FzCall rel call call') (ops : Array Oper) {k : Kz Ω} {k' : K Ω'} (hk : FzK rel k k') : ∀ (l : List Oper) (fps : List (List Nat × List Nat)) (r w : List Nat) (e : En) (a : LAct) (s : LW) (n : Nat), KE e a →
    Fz rel (drawZ P gl call ops k l fps r w e s n) (drawF P gl call' ops k' l fps r w a s n)
  | [], fps, r, w, e, a, s, n, he => by
    unfold drawZ drawF endDZ endK
    cases drawOK ops fps
    · exact fz_bad _
    · exact hk _ _ _ _ _ _ he
  | o :: rest, fps, r, w, e, a, s, n, he => by
    refine fz_step hc ops o he s n [] [] fun e a s n r' w' h' => ?_
    simp only [appK_eq]
    exact fz_draw hc ops hk rest _ _ _ e a s n h'

abbrev EvlZ (Ω : Type) := Code → En → LW → Nat → List Nat → List Nat → (LExit → Kz Ω) → Rz Ω
def FzE (rel : Ω → Ω' → Prop) (k : LExit → Kz Ω) (k' : LExit → K Ω') : Prop := ∀ e, FzK rel (k e) (k' e)
def FzEv (rel : Ω → Ω' → Prop) (ev : EvlZ Ω) (ev' : Evl Ω') : Prop := ∀ c e a s n r w k k', KE e a → FzE rel k k' → Fz rel (ev c e s n r w k) (ev' c a s n r w k')

def seqCZ (ev : EvlZ Ω) (y : Code) (k : LExit → Kz Ω) (e : LExit) : Kz Ω :=
  match e with
  | .normal => fun a s n r w => ev y a s n r w k
  | .exit i => k (.exit i)
  | .ret => k .ret
def blockCZ (id : Nat) (k : LExit → Kz Ω) (e : LExit) : Kz Ω :=
  match e with
  | .normal => k .normal
  | .exit i => (match Nat.beq i id with | true => k .normal | false => k (.exit i))
  | .ret => k .ret
def condCZ (gl : Nat → Option Nat) (ev : EvlZ Ω) (c : Operand) (x y : Code) (e : En) (s : LW) (n : Nat) (r w : List Nat) (k : LExit → Kz Ω) : Rz Ω :=
  boolOf (evE gl e c) (ev x e s n r w k) (ev y e s n r w k)
def regionCZ (P : Program) (gl : Nat → Option Nat) (call : CallZ Ω) (ops : Array Oper) (draw : Bool) (e : En) (s : LW) (n : Nat) (r w : List Nat) (k : LExit → Kz Ω) : Rz Ω :=
  match draw with
  | false => seqZ P gl call ops ops.toList (k .normal) (clearEn e) s n r w
  | true => drawZ P gl call ops (k .normal) ops.toList [] r w (clearEn e) s n
def resultE (P : Program) (e : En) : List ResultVar → (List V1 → Ac LV) → Ac LV
  | [], k => k []
  | .tmp t :: rest, k => (match getEn e t with
    | some (.o v) => resultE P e rest fun vs => k (v :: vs)
    | _ => .stuck)
  | .cell x t :: rest, k => (match getEn e x with
    | some (.o (.c (.p h off))) => .get h fun
      | .cells _ cs => (match partL P t cs off with
        | some v => resultE P e rest fun vs => k (v :: vs)
        | none => .stuck)
      | _ => .stuck
    | _ => .stuck)
def resultsE (P : Program) (fn : Func) (e : En) : Ac LV :=
  resultE P e fn.results.toList fun
    | [v] => .ret (.o v)
    | vs => .ret (.t vs)
def retCZ (P : Program) (fn : Func) (k : KCz Ω) (x : LExit) (e : En) (s : LW) (n : Nat) (r w : List Nat) : Rz Ω :=
  match x with
  | .exit _ => badZ
  | _ => runZ (resultsE P fn (clearEn e)) s r w fun v s r w => k v s n r w
def primCZ (g : Prim) (args : List V1) (s : LW) (n : Nat) (r w : List Nat) (k : KCz Ω) : Rz Ω := runZ (g args n) s r w fun x s r w => k x.1 s x.2 r w
def argsE : Nat → List V1 → Env
  | _, [] => []
  | i, v :: vs => (i, .o v) :: argsE (i + 1) vs
def bodyCZ (P : Program) (M : Nat) (fn : Func) (ev : EvlZ Ω) (args : List V1) (s : LW) (n : Nat) (r w : List Nat) (k : KCz Ω) : Rz Ω :=
  match fn.body with
  | none => badZ
  | some c => (match Nat.ble args.length fn.ntmps with
    | true => ev c ⟨M, fn.ntmps, [], argsE 0 args⟩ s n r w (retCZ P fn k)
    | false => badZ)
def callZ (P : Program) (T : FuncId → Option Prim) (M : FuncId → Nat) (ev : EvlZ Ω) : CallZ Ω := fun f args s n r w k =>
  match T f with
  | some g => primCZ g args s n r w k
  | none => (match P.funcs[f]? with
    | none => badZ
    | some fn => bodyCZ P (M f) fn ev args s n r w k)

theorem resultE_fz {P : Program} {e : En} {a : LAct} (he : KE e a) : ∀ (l : List ResultVar) {Ω Ω' : Type} {rel : Ω → Ω' → Prop} (f : List V1 → Ac LV) (s : LW) (r w : List Nat) (k : LV → LW → List Nat → List Nat → Rz Ω) (k' : LV → LW → List Nat → List Nat → Option Ω'),
    (∀ a s r w, Fz rel (k a s r w) (k' a s r w)) → Fz rel (runZ (resultE P e l f) s r w k) ((resultL P a l f).run s r w k')
  | [], _, _, _, f, s, r, w, k, k', hk => fz_run _ _ _ _ _ _ hk
  | .tmp t :: rest, _, _, _, f, s, r, w, k, k', hk => by
    unfold resultE resultL
    split
    · rename_i v hv
      have := he.2 _ _ hv
      simp only [List.getD_eq_getElem?_getD, this, Option.getD_some, one?]
      exact resultE_fz he rest _ s r w k k' hk
    · exact fz_bad _
  | .cell x t :: rest, _, _, _, f, s, r, w, k, k', hk => by
    unfold resultE resultL
    split
    · rename_i h off hv
      have := he.2 _ _ hv
      simp only [List.getD_eq_getElem?_getD, this, Option.getD_some]
      unfold runZ Ac.run
      cases hs : s h with
      | none => exact fz_bad _
      | some en =>
        simp only []
        cases en with
        | cells ct cs =>
          simp only []
          cases partL P t cs off with
          | none => exact fz_bad _
          | some v => exact resultE_fz he rest _ s (h :: r) w k k' hk
        | row _ _ _ _ _ => exact fz_bad _
        | map _ => exact fz_bad _
    · exact fz_bad _

theorem argsE_look : ∀ (args : List V1) (i t : Nat) (v : LV), lookE (argsE i args) t = some v → i ≤ t ∧ ∃ u, args[t - i]? = some u ∧ v = .o u
  | [], i, t, v, h => by cases h
  | u :: us, i, t, v, h => by
    unfold argsE at h
    rw [lookE_cons] at h
    split at h
    · rename_i hit; subst hit; cases h; exact ⟨Nat.le_refl _, u, by simp, rfl⟩
    · obtain ⟨h1, u', h2, h3⟩ := argsE_look us (i + 1) t v h
      refine ⟨by omega, u', ?_, h3⟩
      rw [show t - i = (t - (i + 1)) + 1 by omega]
      simpa using h2

theorem fz_call {P : Program} {T : FuncId → Option Prim} {M : FuncId → Nat} {ev : EvlZ Ω} {ev' : Evl Ω'} (hev : FzEv rel ev ev') : FzCall rel (callZ P T M ev) (callF P T ev') := by
  intro f args s n r w k k' hk
  unfold callZ callF
  cases T f with
  | some g => exact fz_run _ _ _ _ _ _ fun x s r w => hk _ _ _ _ _
  | none =>
    simp only []
    cases P.funcs[f]? with
    | none => exact fz_bad _
    | some fn =>
      simp only []
      unfold bodyCZ bodyC
      cases fn.body with
      | none => exact fz_bad _
      | some c =>
        simp only [appK_eq]
        cases hb : Nat.ble args.length fn.ntmps with
        | false => exact fz_bad _
        | true =>
          have hle := Nat.le_of_ble_eq_true hb
          refine hev _ _ _ _ _ _ _ _ _ ⟨by simp; omega, fun t v ht => ?_⟩ fun x e a s n r w he => ?_
          · unfold getEn at ht
            simp only at ht
            cases hk : bitOf (M f) t with
            | succ q => rw [hk] at ht; cases ht
            | zero =>
              rw [hk] at ht
              obtain ⟨_, u, h2, rfl⟩ := argsE_look args 0 t v ht
              simp only [Nat.sub_zero] at h2
              have hlt : t < args.length := (List.getElem?_eq_some_iff.1 h2).1
              rw [List.getElem?_append_left (by simpa using hlt)]
              simp [h2]
          · cases x with
            | exit i => exact fz_bad _
            | normal => exact resultE_fz he.clear _ _ _ _ _ _ _ fun v s r w => hk _ _ _ _ _
            | ret => exact resultE_fz he.clear _ _ _ _ _ _ _ fun v s r w => hk _ _ _ _ _

def codeSemZ (c : Code) : Program → (Nat → Option Nat) → (FuncId → Option Prim) → (FuncId → Nat) → EvlZ Ω → En → LW → Nat → List Nat → List Nat → (LExit → Kz Ω) → Rz Ω :=
  match c with
  | .skip => fun _ _ _ _ _ a s n r w k => k .normal a s n r w
  | .region _ ops draw => fun P gl T M ev a s n r w k => regionCZ P gl (callZ P T M ev) ops draw a s n r w k
  | .seq x y => fun _ _ _ _ ev a s n r w k => ev x a s n r w (seqCZ ev y k)
  | .cond c x y => fun _ gl _ _ ev a s n r w k => condCZ gl ev c x y a s n r w k
  | .block id c => fun _ _ _ _ ev a s n r w k => ev c a s n r w (blockCZ id k)
  | .loop c => fun _ _ _ _ ev a s n r w k => ev c a s n r w (seqCZ ev (.loop c) k)
  | .exit id => fun _ _ _ _ _ a s n r w k => k (.exit id) a s n r w
  | .ret => fun _ _ _ _ _ a s n r w k => k .ret a s n r w
  | _ => fun _ _ _ _ _ _ _ _ _ _ _ => badZ

def codeZ (P : Program) (gl : Nat → Option Nat) (T : FuncId → Option Prim) (M : FuncId → Nat) : Nat → EvlZ Ω
  | 0 => fun _ _ _ _ _ _ _ => badZ
  | fuel + 1 => fun c => codeSemZ c P gl T M (codeZ P gl T M fuel)

theorem fz_code (P : Program) (gl : Nat → Option Nat) (T : FuncId → Option Prim) (M : FuncId → Nat) : ∀ fuel : Nat, FzEv rel (codeZ P gl T M fuel : EvlZ Ω) (codeF P gl T fuel : Evl Ω')
  | 0 => fun _ _ _ _ _ _ _ _ _ _ _ => fz_bad _
  | fuel + 1 => by
    have ih : FzEv rel (codeZ P gl T M fuel : EvlZ Ω) (codeF P gl T fuel : Evl Ω') := fz_code P gl T M fuel
    intro c e a s n r w k k' he hk
    have hs : ∀ y, FzE rel (seqCZ (codeZ P gl T M fuel) y k) (seqC (codeF P gl T fuel) y k') := fun y x => by
      cases x with
      | normal => exact fun e a s n r w he => ih _ _ _ _ _ _ _ _ _ he hk
      | exit i => exact hk _
      | ret => exact hk _
    show Fz rel (codeSemZ c P gl T M (codeZ P gl T M fuel) e s n r w k) (codeSem c P gl T (codeF P gl T fuel) a s n r w k')
    cases c with
    | skip => exact hk _ _ _ _ _ _ _ he
    | region id ops draw =>
      cases draw with
      | false => exact fz_seq (fz_call ih) ops (hk .normal) ops.toList _ a s n r w he.clear
      | true => exact fz_draw (fz_call ih) ops (hk .normal) ops.toList _ _ _ _ a s n he.clear
    | seq x y => exact ih _ _ _ _ _ _ _ _ _ he (hs y)
    | cond c x y =>
      simp only [codeSemZ, codeSem]
      unfold condCZ boolOf condC
      split
      · rename_i b hb
        rw [evalQ_eq, evE_spec he hb]
        exact fz_br (ih _ _ _ _ _ _ _ _ _ he hk) (ih _ _ _ _ _ _ _ _ _ he hk)
      · exact fz_bad _
    | block id c =>
      refine ih _ _ _ _ _ _ _ _ _ he fun x => ?_
      cases x with
      | normal => exact hk _
      | exit i =>
        simp only [blockCZ, blockC]
        cases hb : Nat.beq i id with
        | true => rw [if_pos (Nat.eq_of_beq_eq_true hb)]; exact hk _
        | false => rw [if_neg (fun h => by rw [h, Nat.beq_refl] at hb; cases hb)]; exact hk _
      | ret => exact hk _
    | loop c => exact ih _ _ _ _ _ _ _ _ _ he (hs (.loop c))
    | exit id => exact hk _ _ _ _ _ _ _ he
    | ret => exact hk _ _ _ _ _ _ _ he
    | _ => exact fz_bad _
end

/-- a call along one path -/
def wayOut {Ω : Type} (P : Program) (gl : Nat → Option Nat) (T : FuncId → Option Prim) (M : FuncId → Nat) (fuel : Nat) (o : Way) (f : FuncId) (args : List V1) (s : LW) (n : Nat) (k : LV → LW → Nat → List Nat → List Nat → Ω) : Option (Bool × Ω) :=
  callZ P T M (codeZ P gl T M fuel) f args s n [] [] (fun v s n r w => endZ (k v s n r w)) o true

theorem way_sound {P : Program} {gl : Nat → Option Nat} {T : FuncId → Option Prim} {M : FuncId → Nat} {fuel : Nat} {o : Way} {f : FuncId} {args : List V1} {s : LW} {n : Nat} {Ω : Type} {k : LV → LW → Nat → List Nat → List Nat → Ω} {z : Ω}
    (h : wayOut P gl T M fuel o f args s n k = some (true, z)) : ∃ v n' s' r w, callOut (callP P gl T fuel) f args s n = some ((v, n'), s', r, w) ∧ k v s' n' r w = z := by
  have h1 := (fz_call (rel := fun z (p : (LV × Nat) × LW × List Nat × List Nat) => k p.1.1 p.2.1 p.1.2 p.2.2.1 p.2.2.2 = z) (fz_code P gl T M fuel) f args s n [] [] _ (fun v s n r w => some ((v, n), s, r, w)) (fun v s n r w => fz_end rfl) o true z h).2
  obtain ⟨⟨⟨v, n'⟩, s', r, w⟩, h2, h3⟩ := h1
  have h4 : (quick P gl T fuel : CallF _) f args s n [] [] (fun v s n r w => some ((v, n), s, r, w)) = some ((v, n'), s', r, w) := h2
  rw [quick_eq] at h4
  exact ⟨v, n', s', r, w, h4, h3⟩

def wayCode {Ω : Type} (P : Program) (gl : Nat → Option Nat) (T : FuncId → Option Prim) (M : FuncId → Nat) (fuel : Nat) (o : Way) (c : Code) (e : En) (s : LW) (n : Nat) (k : LExit → En → LW → Ω) : Option (Bool × Ω) :=
  codeZ P gl T M fuel c e s n [] [] (fun x e s _ _ _ => endZ (k x e s)) o true

theorem wayCode_sound {P : Program} {gl : Nat → Option Nat} {T : FuncId → Option Prim} {M : FuncId → Nat} {fuel : Nat} {o : Way} {c : Code} {e : En} {a : LAct} (he : KE e a) {s : LW} {n : Nat} {Ω : Type} {k : LExit → En → LW → Ω} {z : Ω}
    (h : wayCode P gl T M fuel o c e s n k = some (true, z)) : ∃ x e' a' n' s' r w, codeOut P gl T fuel c a s n = some ((x, a', n'), s', r, w) ∧ KE e' a' ∧ k x e' s' = z := by
  have h1 := (fz_code (rel := fun z (p : (LExit × LAct × Nat) × LW × List Nat × List Nat) => ∃ e', KE e' p.1.2.1 ∧ k p.1.1 e' p.2.1 = z) P gl T M fuel c e a s n [] [] _ (fun x a s n r w => some ((x, a, n), s, r, w)) he
    (fun x e a s n r w he => fz_end ⟨e, he, rfl⟩) o true z h).2
  obtain ⟨⟨⟨x, a', n'⟩, s', r, w⟩, h2, e', h3, h4⟩ := h1
  rw [codeF_eq] at h2
  exact ⟨x, e', a', n', s', r, w, h2, h3, h4⟩
end
end Go.Ev

namespace Go.Ev

/-! ## the same memory under other names -/
inductive Ren where
  | to (g : Nat)
  | nil (sz : Nat)
  | sub (g lo len : Nat)
  | off
  deriving Inhabited

def nuSub (i : HI) (lo len : Nat) : HI := ⟨i.blk, i.base + lo * i.sz, i.cap - lo, i.sz, len⟩

def pullNu (ν : Nu) (R : Nat → Ren) : Nu := fun h => match R h with
  | .to g => ν g
  | .nil sz => some ⟨none, 0, 0, sz, 0⟩
  | .sub g lo len => (ν g).map fun i => nuSub i lo len
  | .off => none

def atOf (R : Nat → Ren) (h : Nat) : Option Nat := match R h with | .to g => some g | _ => none

def capI (R : Nat → Ren) : Cap → Option Cap
  | .v x => some (.v x)
  | .p h off => match atOf R h with | some g => some (.p g off) | none => none

def capsI (R : Nat → Ren) : List Cap → Option (List Cap)
  | [] => some []
  | c :: cs => match capI R c, capsI R cs with | some c, some cs => some (c :: cs) | _, _ => none

def cellI (R : Nat → Ren) : Cell → Option Cell
  | .v x => some (.v x)
  | .p h off => match atOf R h with | some g => some (.p g off) | none => none
  | .q h off len i => match atOf R h with | some g => some (.q g off len i) | none => none
  | .e h i off => match atOf R h with | some g => some (.e g i off) | none => none
  | .r h => match R h with | .to g => some (.r g) | .nil _ => some (.v (.slice none 0 0)) | .sub g lo len => some (.s g lo len) | .off => none
  | .s h lo len => match atOf R h with | some g => some (.s g lo len) | none => none
  | .m h => match atOf R h with | some g => some (.m g) | none => none
  | .f fn caps => match capsI R caps with | some cs => some (.f fn cs) | none => none
  | .u => some .u

/-- says nothing of a bool -/
def dull : Cell → Bool
  | .v (.bool _) => false
  | .v (.agg _) => false
  | .v (.tuple _) => false
  | _ => true

/-- what is seen of a cell, when c0 is asked for -/
def cellS (c0 c : Cell) : Option Cell := match c0 with | .u => (match dull c with | true => some .u | false => none) | _ => some c

def cellsI (R : Nat → Ren) : List Cell → List (Option Cell)
  | [] => []
  | c :: cs => cellI R c :: cellsI R cs
def cellsS : List Cell → List Cell → List (Option Cell)
  | c0 :: cs0, c :: cs => cellS c0 c :: cellsS cs0 cs
  | [], [] => []
  | _ :: _, [] => []
  | [], _ :: _ => [none]

def v1I (R : Nat → Ren) : V1 → List (Option Cell)
  | .c x => [some .u, cellI R x]
  | .a cs => cellsI R cs
def v1S : V1 → V1 → List (Option Cell)
  | .c x, .c y => [some .u, cellS x y]
  | .a xs, .a ys => cellsS xs ys
  | _, _ => [none]

def v1sI (R : Nat → Ren) : List V1 → List (List (Option Cell))
  | [] => []
  | v :: vs => v1I R v :: v1sI R vs
def v1sS : List V1 → List V1 → List (List (Option Cell))
  | v0 :: vs0, v :: vs => v1S v0 v :: v1sS vs0 vs
  | [], [] => []
  | _ :: _, [] => []
  | [], _ :: _ => [[none]]

inductive SeenV where
  | o (a : Bool) (l : List (Option Cell))
  | t (l : List Bool) (ls : List (List (Option Cell)))
  | bad

def isA : V1 → Bool
  | .a _ => true
  | .c _ => false

def lvI (R : Nat → Ren) : LV → SeenV
  | .o v => .o (isA v) (v1I R v)
  | .t vs => .t (vs.map isA) (v1sI R vs)
def lvS : LV → LV → SeenV
  | .o v0, .o v => .o (isA v) (v1S v0 v)
  | .t vs0, .t vs => .t (vs.map isA) (v1sS vs0 vs)
  | _, _ => .bad

inductive SeenE where
  | cells (t : TypeId) (l : List (Option Cell))
  | row (ro : Bool) (t : TypeId) (sz n : Nat) (f : Nat → List (Option Cell))
  | map (f : Int → Option Cell)
  | nil (sz : Nat)
  | bad

def entAtI (R : Nat → Ren) : Entry → SeenE
  | .cells t cs => .cells t (cellsI R cs)
  | .row ro t sz n f => .row ro t sz n fun j => cellsI R (f j)
  | .map f => .map f
def entAtS : Entry → Entry → SeenE
  | .cells _ cs0, .cells t cs => .cells t (cellsS cs0 cs)
  | .row ro0 _ _ _ f0, .row ro t sz n f => .row (match ro0 with | true => true | false => ro) t sz n fun j => cellsS (f0 j) (f j)
  | .map _, .map f => .map f
  | _, _ => .bad

def entI (R : Nat → Ren) (h : Nat) (e0 : Entry) : SeenE := match R h with
  | .to _ => entAtI R e0
  | .nil sz => (match e0 with | .row _ _ _ _ _ => .nil sz | _ => .map fun _ => none)
  | .sub _ _ _ => (match e0 with | .row ro t sz n f => .row ro t sz n fun j => cellsI R (f j) | _ => .map fun _ => none)
  | .off => .map fun _ => none
def entS (R : Nat → Ren) (s : LW) (h : Nat) (e0 : Entry) : SeenE := match R h with
  | .to g => (match s g with | some e => entAtS e0 e | none => .bad)
  | .nil _ => (match e0 with | .row _ _ (sz + 1) 0 _ => .nil (sz + 1) | _ => .bad)
  | .sub g lo len => (match s g with
    | some (.row _ t sz _ f) => (match e0 with | .row true _ _ _ f0 => .row true t sz len fun j => cellsS (f0 j) (f (lo + j)) | _ => .bad)
    | _ => .bad)
  | .off => .bad

/-- what a part of a row asks: that it lies in the row -/
def entB (R : Nat → Ren) (s : LW) (h : Nat) : Bool := match R h with
  | .sub g lo len => (match s g with | some (.row _ _ _ n _) => decide (lo + len ≤ n) | _ => false)
  | _ => true

def memI (R : Nat → Ren) : List (Nat × Entry) → List SeenE
  | [] => []
  | (h, e) :: l => entI R h e :: memI R l
def memS (R : Nat → Ren) (s : LW) : List (Nat × Entry) → List SeenE
  | [] => []
  | (h, e) :: l => entS R s h e :: memS R s l
def memB (R : Nat → Ren) (s : LW) : List (Nat × Entry) → Bool
  | [] => true
  | (h, _) :: l => match entB R s h with | true => memB R s l | false => false

def ofList : List (Nat × Entry) → LW
  | [], _ => none
  | (h, e) :: l, k => match Nat.beq k h with | true => some e | false => ofList l k

theorem ofList_mem : ∀ {l : List (Nat × Entry)} {k : Nat} {e : Entry}, ofList l k = some e → (k, e) ∈ l
  | [], k, e, h => by cases h
  | (g, e') :: l, k, e, h => by
    unfold ofList at h
    split at h
    · rename_i hb
      have := Nat.eq_of_beq_eq_true hb
      subst this
      cases h; simp
    · exact List.mem_cons_of_mem _ (ofList_mem h)

theorem memS_mem {R : Nat → Ren} {s : LW} : ∀ {l : List (Nat × Entry)}, memS R s l = memI R l → ∀ x ∈ l, entS R s x.1 x.2 = entI R x.1 x.2
  | [], _, x, hx => by simp at hx
  | (h, e) :: l, he, x, hx => by
    simp only [memS, memI, List.cons.injEq] at he
    rcases List.mem_cons.1 hx with rfl | hx
    · exact he.1
    · exact memS_mem he.2 x hx
theorem memB_mem {R : Nat → Ren} {s : LW} : ∀ {l : List (Nat × Entry)}, memB R s l = true → ∀ x ∈ l, entB R s x.1 = true
  | [], _, x, hx => by simp at hx
  | (h, e) :: l, he, x, hx => by
    unfold memB at he
    split at he
    · rename_i hb
      rcases List.mem_cons.1 hx with rfl | hx
      · exact hb
      · exact memB_mem he x hx
    · cases he

section
variable {ν : Nu} {R : Nat → Ren}

theorem atOf_spec {h g : Nat} (e : atOf R h = some g) : R h = .to g := by
  unfold atOf at e
  split at e
  · cases e; assumption
  · cases e
theorem pullNu_at {h g : Nat} (e : R h = .to g) : pullNu ν R h = ν g := by simp [pullNu, e]

theorem atR_pull {h g : Nat} (e : R h = .to g) {off : HI → Nat} {y : Value} (hy : atR ν g off y) : atR (pullNu ν R) h off y := by
  obtain ⟨i, b, h1, h2, h3⟩ := hy
  exact ⟨i, b, by rw [pullNu_at e]; exact h1, h2, h3⟩

theorem capI_R {c0 c : Cap} (h : capI R c0 = some c) {y : Value} (hy : capR ν c y) : capR (pullNu ν R) c0 y := by
  cases c0 with
  | v x => simp [capI] at h; subst h; exact hy
  | p a off =>
    cases ha : atOf R a with
    | none => simp [capI, ha] at h
    | some g => simp [capI, ha] at h; subst h; exact atR_pull (atOf_spec ha) hy

theorem capsI_R : ∀ {cs0 cs : List Cap}, capsI R cs0 = some cs → ∀ {ys : List Value}, All2 (capR ν) cs ys → All2 (capR (pullNu ν R)) cs0 ys
  | [], cs, h, ys, hy => by simp [capsI] at h; subst h; cases hy; exact .nil
  | c0 :: cs0, cs, h, ys, hy => by
    cases h1 : capI R c0 with
    | none => simp [capsI, h1] at h
    | some c =>
      cases h2 : capsI R cs0 with
      | none => simp [capsI, h1, h2] at h
      | some cs' =>
        simp [capsI, h1, h2] at h
        subst h
        cases hy with
        | cons k1 k2 => exact .cons (capI_R h1 k1) (capsI_R h2 k2)

theorem dull_R {c : Cell} (h : dull c = true) {y : Value} (hy : cellR ν c y) : y.oneCell' = true ∧ ∀ b, y ≠ .bool b := by
  cases c with
  | v x => have : y = x := hy; subst this; cases y <;> simp [dull] at h <;> exact ⟨rfl, fun b => by simp⟩
  | p a off => obtain ⟨i, b, _, _, rfl⟩ := hy; exact ⟨rfl, fun b => by simp⟩
  | q a off l j => obtain ⟨i, b, _, _, rfl⟩ := hy; exact ⟨rfl, fun b => by simp⟩
  | e a j off => obtain ⟨i, b, _, _, rfl⟩ := hy; exact ⟨rfl, fun b => by simp⟩
  | r a => obtain ⟨i, A, _, rfl, _⟩ := hy; exact ⟨rfl, fun b => by simp⟩
  | s a lo len => obtain ⟨i, A, c, _, rfl, _⟩ := hy; exact ⟨rfl, fun b => by simp⟩
  | m a => obtain ⟨i, b, _, _, rfl⟩ := hy; exact ⟨rfl, fun b => by simp⟩
  | f fn caps => obtain ⟨cs, _, rfl⟩ := hy; exact ⟨rfl, fun b => by simp⟩
  | u => exact hy

theorem cellI_R {c0 c : Cell} (h : cellS c0 c = cellI R c0) {y : Value} (hy : cellR ν c y) : cellR (pullNu ν R) c0 y := by
  have at' : ∀ {h g : Nat} {off : HI → Nat}, atOf R h = some g → atR ν g off y → atR (pullNu ν R) h off y := fun e hy => atR_pull (atOf_spec e) hy
  cases c0 with
  | v x => simp [cellS, cellI] at h; subst h; exact hy
  | p a off =>
    cases ha : atOf R a with
    | none => simp [cellI, cellS, ha] at h
    | some g => simp [cellI, cellS, ha] at h; subst h; exact at' ha hy
  | q a off len j =>
    cases ha : atOf R a with
    | none => simp [cellI, cellS, ha] at h
    | some g => simp [cellI, cellS, ha] at h; subst h; exact at' ha hy
  | e a j off =>
    cases ha : atOf R a with
    | none => simp [cellI, cellS, ha] at h
    | some g => simp [cellI, cellS, ha] at h; subst h; exact at' ha hy
  | r a =>
    cases ha : R a with
    | to g =>
      simp [cellI, cellS, ha] at h; subst h
      obtain ⟨i, A, h1, h2, h3⟩ := hy
      exact ⟨i, A, by rw [pullNu_at ha]; exact h1, h2, h3⟩
    | nil sz =>
      simp [cellI, cellS, ha] at h; subst h
      exact ⟨⟨none, 0, 0, sz, 0⟩, none, by simp [pullNu, ha], hy, fun hc => (hc rfl).elim⟩
    | sub g lo len =>
      simp [cellI, cellS, ha] at h; subst h
      obtain ⟨i, A, c, h1, h2, h3, h4, h5, h6⟩ := hy
      refine ⟨nuSub i lo len, A, by simp [pullNu, ha, h1], ?_, fun hc => ?_⟩
      · rw [h2]; simp [nuSub]; omega
      · rw [h6 (by simp [nuSub] at hc; omega)]; simp [nuSub]
    | off => simp [cellI, cellS, ha] at h
  | s a lo len =>
    cases ha : atOf R a with
    | none => simp [cellI, cellS, ha] at h
    | some g =>
      simp [cellI, cellS, ha] at h; subst h
      obtain ⟨i, A, c, h1, h2⟩ := hy
      exact ⟨i, A, c, by rw [pullNu_at (atOf_spec ha)]; exact h1, h2⟩
  | m a =>
    cases ha : atOf R a with
    | none => simp [cellI, cellS, ha] at h
    | some g =>
      simp [cellI, cellS, ha] at h; subst h
      obtain ⟨i, b, h1, h2⟩ := hy
      exact ⟨i, b, by rw [pullNu_at (atOf_spec ha)]; exact h1, h2⟩
  | f fn caps =>
    cases ha : capsI R caps with
    | none => simp [cellI, cellS, ha] at h
    | some cs =>
      simp [cellI, cellS, ha] at h; subst h
      obtain ⟨ys, h1, h2⟩ := hy
      exact ⟨ys, capsI_R ha h1, h2⟩
  | u =>
    cases hd : dull c with
    | false => simp [cellI, cellS, hd] at h
    | true => exact dull_R hd hy

theorem cellsI_R : ∀ {cs0 cs : List Cell}, cellsS cs0 cs = cellsI R cs0 → ∀ {ys : List Value}, All2 (cellR ν) cs ys → All2 (cellR (pullNu ν R)) cs0 ys
  | [], [], _, ys, hy => by cases hy; exact .nil
  | [], c :: cs, h, ys, hy => by simp [cellsS, cellsI] at h
  | c0 :: cs0, [], h, ys, hy => by
    simp [cellsS, cellsI] at h
  | c0 :: cs0, c :: cs, h, ys, hy => by
    simp only [cellsS, cellsI, List.cons.injEq] at h
    cases hy with
    | cons k1 k2 => exact .cons (cellI_R h.1 k1) (cellsI_R h.2 k2)

theorem v1I_R {v0 v : V1} (ha : isA v = isA v0) (h : v1S v0 v = v1I R v0) {y : Value} (hy : v1R ν v y) : v1R (pullNu ν R) v0 y := by
  cases v0 with
  | c x =>
    cases v with
    | c z => simp only [v1S, v1I, List.cons.injEq, and_true, true_and] at h; exact cellI_R h hy
    | a cs => simp [isA] at ha
  | a cs0 =>
    cases v with
    | c z => simp [isA] at ha
    | a cs => obtain ⟨ys, h1, h2⟩ := hy; exact ⟨ys, cellsI_R h h1, h2⟩

theorem v1sI_R : ∀ {vs0 vs : List V1}, vs.map isA = vs0.map isA → v1sS vs0 vs = v1sI R vs0 → ∀ {ys : List Value}, All2 (v1R ν) vs ys → All2 (v1R (pullNu ν R)) vs0 ys
  | [], [], _, _, ys, hy => by cases hy; exact .nil
  | [], v :: vs, ha, _, ys, hy => by simp at ha
  | v0 :: vs0, [], ha, _, ys, hy => by simp at ha
  | v0 :: vs0, v :: vs, ha, h, ys, hy => by
    simp only [List.map_cons, List.cons.injEq] at ha
    simp only [v1sS, v1sI, List.cons.injEq] at h
    cases hy with
    | cons k1 k2 => exact .cons (v1I_R ha.1 h.1 k1) (v1sI_R ha.2 h.2 k2)

theorem lvI_R {v0 v : LV} (h : lvS v0 v = lvI R v0) {y : Value} (hy : lvR ν v y) : lvR (pullNu ν R) v0 y := by
  cases v0 with
  | o v0 =>
    cases v with
    | o v => simp only [lvS, lvI, SeenV.o.injEq] at h; exact v1I_R h.1 h.2 hy
    | t vs => simp [lvS, lvI] at h
  | t vs0 =>
    cases v with
    | o v => simp [lvS, lvI] at h
    | t vs =>
      simp only [lvS, lvI, SeenV.t.injEq] at h
      obtain ⟨ys, h1, h2⟩ := hy
      exact ⟨ys, v1sI_R h.1 h.2 h1, h2⟩

theorem cellsI_hR {cs0 cs : List Cell} (h : cellsS cs0 cs = cellsI R cs0) {ys : List Value} (hy : All2 (hR ν) cs ys) : All2 (hR (pullNu ν R)) cs0 ys := by
  have h1 := cellsI_R h (hR_cell hy)
  refine All2.of_get h1.length fun i x y hx hy' => ?_
  obtain ⟨y', e1, e2⟩ := h1.get hx
  rw [hy'] at e1; obtain rfl := Option.some.inj e1
  exact ⟨e2, hR_all hy _ (List.mem_of_getElem? hy')⟩

/-- the cells of a map keep their names -/
def MapFix (R : Nat → Ren) (f : Int → Option Cell) : Prop := ∀ k c, f k = some c → cellI R c = some c ∧ c ≠ .u

/-- what has to be said of the maps -/
def MapsFix (R : Nat → Ren) : List (Nat × Entry) → Prop
  | [] => True
  | (_, .map f) :: l => MapFix R f ∧ MapsFix R l
  | _ :: l => MapsFix R l

theorem MapsFix.mem : ∀ {l : List (Nat × Entry)}, MapsFix R l → ∀ {h : Nat} {f : Int → Option Cell}, (h, .map f) ∈ l → MapFix R f
  | [], _, h, f, hm => by simp at hm
  | (g, e) :: l, hl, h, f, hm => by
    cases e with
    | map f' =>
      rcases List.mem_cons.1 hm with he | hm
      · cases he; exact hl.1
      · exact MapsFix.mem hl.2 hm
    | cells t cs =>
      rcases List.mem_cons.1 hm with he | hm
      · cases he
      · exact MapsFix.mem (l := l) hl hm
    | row ro t sz n f =>
      rcases List.mem_cons.1 hm with he | hm
      · cases he
      · exact MapsFix.mem (l := l) hl hm

/-- two names of one block are both read-only -/
def baseOf (R : Nat → Ren) (h : Nat) : Option Nat := match R h with | .to g => some g | .sub g _ _ => some g | _ => none
def apartFrom (R : Nat → Ren) (h : Nat) (e : Entry) : List (Nat × Entry) → Bool
  | [] => true
  | (h', e') :: l => (match baseOf R h, baseOf R h' with
    | some g, some g' => (match Nat.beq g g' with | true => (Nat.beq h h' || (e.ro && e'.ro)) | false => true)
    | _, _ => true) && apartFrom R h e l
def apartL (R : Nat → Ren) : List (Nat × Entry) → Bool
  | [] => true
  | (h, e) :: l => apartFrom R h e l && apartL R l

theorem apartFrom_mem {h : Nat} {e : Entry} : ∀ {l : List (Nat × Entry)}, apartFrom R h e l = true → ∀ {h' : Nat} {e' : Entry}, (h', e') ∈ l → ∀ {g : Nat}, baseOf R h = some g → baseOf R h' = some g → h ≠ h' → e.ro = true ∧ e'.ro = true
  | [], _, h', e', hm, g, _, _, _ => by simp at hm
  | (k, ek) :: l, hl, h', e', hm, g, h1, h2, hne => by
    simp only [apartFrom, Bool.and_eq_true] at hl
    rcases List.mem_cons.1 hm with he | hm
    · cases he
      have := hl.1
      simp only [h1, h2, Nat.beq_refl] at this
      have hb : Nat.beq h k = false := by
        cases hb : Nat.beq h k with
        | false => rfl
        | true => exact (hne (Nat.eq_of_beq_eq_true hb)).elim
      simpa [hb] using this
    · exact apartFrom_mem hl.2 hm h1 h2 hne

theorem apartL_mem : ∀ {l : List (Nat × Entry)}, apartL R l = true → ∀ {h h' : Nat} {e e' : Entry}, (h, e) ∈ l → (h', e') ∈ l → ∀ {g : Nat}, baseOf R h = some g → baseOf R h' = some g → h ≠ h' → e.ro = true ∧ e'.ro = true
  | [], _, h, h', e, e', hm, _, g, _, _, _ => by simp at hm
  | (k, ek) :: l, hl, h, h', e, e', hm, hm', g, h1, h2, hne => by
    simp only [apartL, Bool.and_eq_true] at hl
    rcases List.mem_cons.1 hm with he | hm
    · cases he
      rcases List.mem_cons.1 hm' with he' | hm'
      · cases he'; exact (hne rfl).elim
      · exact apartFrom_mem hl.1 hm' h1 h2 hne
    · rcases List.mem_cons.1 hm' with he' | hm'
      · cases he'
        exact (apartFrom_mem hl.1 hm h2 h1 (Ne.symm hne)).symm
      · exact apartL_mem hl.2 hm hm' h1 h2 hne

theorem pull_base {h : Nat} {i : HI} {b : Nat} (h1 : pullNu ν R h = some i) (h2 : i.blk = some b) : ∃ g j, baseOf R h = some g ∧ ν g = some j ∧ j.blk = some b := by
  unfold pullNu at h1
  unfold baseOf
  cases hR : R h with
  | to g => simp only [hR] at h1; exact ⟨g, i, rfl, h1, h2⟩
  | nil sz => simp only [hR] at h1; cases h1; cases h2
  | sub g lo len =>
    simp only [hR] at h1
    obtain ⟨j, g1, rfl⟩ := Option.map_eq_some_iff.1 h1
    exact ⟨g, j, rfl, g1, h2⟩
  | off => simp [hR] at h1

theorem entS_ent {s : LW} {h : Nat} {e0 : Entry} (he : entS R s h e0 = entI R h e0) {g : Nat} (hb : baseOf R h = some g) : ∃ e, s g = some e ∧ (e.ro = true → e0.ro = true) := by
  unfold baseOf at hb
  unfold entS entI at he
  cases hR : R h with
  | to g' =>
    simp only [hR, Option.some.injEq] at hb he
    subst hb
    cases hs : s g' with
    | none => simp only [hs] at he; cases e0 <;> simp [entAtI] at he
    | some e =>
      refine ⟨e, rfl, fun hro => ?_⟩
      simp only [hs] at he
      cases e with
      | row ro t sz n f =>
        cases e0 with
        | row ro0 t0 sz0 n0 f0 =>
          simp only [entAtS, entAtI, SeenE.row.injEq] at he
          have hr' : ro = true := hro
          subst hr'
          have := he.1
          cases ro0
          · simp at this
          · rfl
        | cells _ _ => simp [entAtS, entAtI] at he
        | map _ => simp [entAtS, entAtI] at he
      | cells _ _ => simp [Entry.ro] at hro
      | map _ => simp [Entry.ro] at hro
  | nil sz => simp [hR] at hb
  | sub g' lo len =>
    simp only [hR, Option.some.injEq] at hb he
    subst hb
    cases hs : s g' with
    | none => simp only [hs] at he; cases e0 <;> simp at he
    | some e =>
      refine ⟨e, rfl, fun _ => ?_⟩
      simp only [hs] at he
      cases e with
      | row ro t sz n f =>
        simp only [] at he
        split at he
        · rfl
        · cases e0 <;> simp at he
      | cells _ _ => cases e0 <;> simp at he
      | map _ => cases e0 <;> simp at he
  | off => simp [hR] at hb

/-- the memory under other names -/
theorem Rel.pull {s : LW} {w : World} (hr : Rel ν s w) {L : List (Nat × Entry)} (hL : memS R s L = memI R L) (hB : memB R s L = true) (hM : MapsFix R L) (hA : apartL R L = true) : Rel (pullNu ν R) (ofList L) w := by
  refine ⟨fun h e0 h0 => ?_, fun h h' e e' i i' b h1 h2 h3 h4 h5 h6 hne => ?_⟩
  · have hm := ofList_mem h0
    have he := memS_mem hL _ hm
    have hb := memB_mem hB _ hm
    simp only at he hb
    unfold entS entI at he
    unfold entB at hb
    cases hR : R h with
    | to g =>
      simp only [hR] at he
      cases hs : s g with
      | none => simp only [hs] at he; cases e0 <;> simp [entAtI] at he
      | some e =>
        simp only [hs] at he
        obtain ⟨i, g1, g2⟩ := hr.ent g e hs
        refine ⟨i, by rw [pullNu_at hR]; exact g1, ?_⟩
        cases e0 with
        | cells t0 cs0 =>
          cases e with
          | cells t cs =>
            simp only [entAtS, entAtI, SeenE.cells.injEq] at he
            obtain ⟨rfl, he⟩ := he
            obtain ⟨b, cs', k1, k2, k3, k4⟩ := g2
            exact ⟨b, cs', k1, k2, k3, cellsI_hR he k4⟩
          | row _ _ _ _ _ => simp [entAtS, entAtI] at he
          | map _ => simp [entAtS, entAtI] at he
        | row ro0 t0 sz0 n0 f0 =>
          cases e with
          | cells _ _ => simp [entAtS, entAtI] at he
          | map _ => simp [entAtS, entAtI] at he
          | row ro t sz n f =>
            simp only [entAtS, entAtI, SeenE.row.injEq] at he
            obtain ⟨hro, rfl, rfl, rfl, hf⟩ := he
            obtain ⟨k1, k2, k3, k4, k5, k6⟩ := g2
            refine ⟨k1, k2, k3, k4, k5, ?_⟩
            cases hb : i.blk with
            | none => rw [hb] at k6; exact k6
            | some b =>
              simp only [hb] at k6
              obtain ⟨cur, t', fz, m1, m2, m3, m4⟩ := k6
              refine ⟨cur, t', fz, m1, m2, fun h0 => m3 ?_, fun j hj => ?_⟩
              · subst h0
                exact hro
              · obtain ⟨ys, q1, q2, q3⟩ := m4 j hj
                exact ⟨ys, cellsI_hR (congrFun hf j) q1, q2, q3⟩
        | map f0 =>
          cases e with
          | cells _ _ => simp [entAtS, entAtI] at he
          | row _ _ _ _ _ => simp [entAtS, entAtI] at he
          | map f =>
            simp only [entAtS, entAtI, SeenE.map.injEq] at he
            subst he
            obtain ⟨b, es', clock, k1, k2, k3⟩ := g2
            refine ⟨b, es', clock, k1, k2, k3.keys, fun k => ?_⟩
            rcases k3.vals k with hh | ⟨c, y, q1, q2, q3⟩
            · exact .inl hh
            · obtain ⟨r1, r2⟩ := hM.mem hm k c q1
              refine .inr ⟨c, y, q1, q2, cellI_R (c := c) ?_ q3⟩
              rw [r1]
              cases c <;> simp [cellS] at r2 ⊢
    | nil sz =>
      simp only [hR] at he
      cases e0 with
      | cells _ _ => simp at he
      | map _ => simp at he
      | row ro t sz' n f =>
        cases sz' with
        | zero => simp at he
        | succ sz' =>
          cases n with
          | succ n => simp at he
          | zero =>
            simp only [SeenE.nil.injEq] at he
            exact ⟨⟨none, 0, 0, sz, 0⟩, by simp [pullNu, hR], he.symm, Nat.succ_pos _, rfl, Nat.le_refl _, Nat.zero_le _, rfl, rfl⟩
    | sub g lo len =>
      simp only [hR] at he hb
      cases hs : s g with
      | none => simp only [hs] at he; cases e0 <;> simp at he
      | some e =>
        simp only [hs] at he hb
        obtain ⟨i, g1, g2⟩ := hr.ent g e hs
        refine ⟨nuSub i lo len, by simp [pullNu, hR, g1], ?_⟩
        cases e with
        | cells _ _ => cases e0 <;> simp at he
        | map _ => cases e0 <;> simp at he
        | row ro t sz n f =>
          simp only [decide_eq_true_eq] at he hb
          split at he
          case h_2 => cases e0 <;> simp at he
          rename_i t0 sz0 n0 f0
          simp only [SeenE.row.injEq, true_and] at he
          obtain ⟨rfl, rfl, rfl, hf⟩ := he
          obtain ⟨k1, k2, k3, k4, k5, k6⟩ := g2
          refine ⟨k1, k2, rfl, by simp [nuSub]; omega, by simp [nuSub]; omega, ?_⟩
          simp only [nuSub]
          cases hb' : i.blk with
          | none => simp only [hb'] at k6 ⊢; have : lo = 0 := by omega
                    subst this; simp [k6]
          | some b =>
            simp only [hb'] at k6 ⊢
            obtain ⟨cur, t', fz, m1, m2, m3, m4⟩ := k6
            refine ⟨cur, t', fz, m1, ?_, fun h0 => (by cases h0), fun j hj => ?_⟩
            · rw [k1]
              have : lo * sz + (i.cap - lo) * sz = i.cap * sz := by rw [← Nat.add_mul]; congr 1; omega
              omega
            · obtain ⟨ys, q1, q2, q3⟩ := m4 (lo + j) (by omega)
              refine ⟨ys, cellsI_hR (congrFun hf j) q1, q2, fun k y hk => ?_⟩
              have := q3 k y hk
              rw [Nat.add_mul] at this
              rw [k1]
              rwa [show i.base + lo * sz + j * sz + k = i.base + (lo * sz + j * sz) + k by omega]
    | off =>
      simp only [hR] at he
      cases he
  · have hm := ofList_mem h1
    have hm' := ofList_mem h2
    obtain ⟨g, j, q1, q2, q3⟩ := pull_base h3 h5
    obtain ⟨g', j', q1', q2', q3'⟩ := pull_base h4 h6
    by_cases hg : g = g'
    · subst hg
      exact apartL_mem hA hm hm' q1 q1' hne
    · obtain ⟨a, r1, r2⟩ := entS_ent (memS_mem hL _ hm) q1
      obtain ⟨a', r1', r2'⟩ := entS_ent (memS_mem hL _ hm') q1'
      obtain ⟨t1, t2⟩ := hr.sep g g' a a' j j' b r1 r1' q2 q2' q3 q3' hg
      exact ⟨r2 t1, r2' t2⟩
end
end Go.Ev

namespace Go.Ev

/-- what stays as it is: A are the blocks before, A' those after -/
structure Frame (A : Nat → Prop) (w : World) (A' : Nat → Prop) (w' : World) : Prop where
  os : w'.os = w.os
  tape : w'.tape = w.tape
  output : w'.output = w.output
  size : w.heap.size ≤ w'.heap.size
  kept : ∀ b, b < w.heap.size → ¬ A b → w'.heap[b]? = w.heap[b]?
  owned : ∀ b, A' b → A b ∨ w.heap.size ≤ b

theorem Frame.refl (A : Nat → Prop) (w : World) : Frame A w A w := ⟨rfl, rfl, rfl, Nat.le_refl _, fun _ _ _ => rfl, fun _ h => .inl h⟩
theorem Frame.trans {A B C : Nat → Prop} {w w1 w2 : World} (h : Frame A w B w1) (h' : Frame B w1 C w2) : Frame A w C w2 where
  os := h'.os.trans h.os
  tape := h'.tape.trans h.tape
  output := h'.output.trans h.output
  size := Nat.le_trans h.size h'.size
  kept := fun b hb hA => by
    rw [h'.kept b (Nat.lt_of_lt_of_le hb h.size) fun hB => ?_, h.kept b hb hA]
    rcases h.owned b hB with hh | hh
    · exact hA hh
    · omega
  owned := fun b hb => by
    rcases h'.owned b hb with hh | hh
    · exact h.owned b hh
    · exact .inr (Nat.le_trans h.size hh)
theorem Frame.mono {A B A' B' : Nat → Prop} {w w' : World} (h : Frame A w B w') (h1 : ∀ b, A b → A' b) (h2 : ∀ b, B' b → B b ∨ A' b ∨ w.heap.size ≤ b) : Frame A' w B' w' where
  os := h.os
  tape := h.tape
  output := h.output
  size := h.size
  kept := fun b hb hA => h.kept b hb fun hh => hA (h1 b hh)
  owned := fun b hb => by
    rcases h2 b hb with hh | hh | hh
    · rcases h.owned b hh with g | g
      · exact .inl (h1 b g)
      · exact .inr g
    · exact .inl hh
    · exact .inr hh

theorem Step.frame {ν ν' : Nu} {s s' : LW} {w w' : World} {n n' : Nat} (h : Step ν s w ν' s' w' n n') : Frame (Owned ν s) w (Owned ν' s') w' :=
  ⟨h.os, h.tape, h.output, h.size, h.kept, h.owned⟩

theorem owned_pull {ν : Nu} {R : Nat → Ren} {s : LW} {L : List (Nat × Entry)} (hL : memS R s L = memI R L) {b : Nat} (h : Owned (pullNu ν R) (ofList L) b) : Owned ν s b := by
  obtain ⟨k, e, i, h1, h2, h3⟩ := h
  have hm := ofList_mem h1
  obtain ⟨g, j, q1, q2, q3⟩ := pull_base h2 h3
  obtain ⟨a, r1, _⟩ := entS_ent (memS_mem hL _ hm) q1
  exact ⟨g, a, j, r1, q2, q3⟩

/-- a call, along one path, from one named memory to another -/
theorem way_call {P : Program} {gl : Nat → Option Nat} {T : FuncId → Option Prim} {M : FuncId → Nat} (hm : P.follows .mixedOrders = true) (hN : NamesOK P) (hT : PrimOK P gl T) {fuel : Nat} {o : Way} {f : FuncId} {args : List V1} {v0 : LV}
    {s : LW} {L0 : List (Nat × Entry)} {n : Nat} {R : Nat → Ren} {c b : Bool}
    (h : wayOut P gl T M fuel o f args s n (fun v s _ _ _ => (memB R s L0, lvS v0 v, memS R s L0)) = some (c, b, lvI R v0, memI R L0))
    (hc : c = true) (hb : b = true) (hM : MapsFix R L0) (hA : apartL R L0 = true)
    {ν : Nu} {W : World} {ys : List Value} (hys : All2 (v1R ν) args ys) (hrel : Rel ν s W) (hgl : GlobOK gl ν) (hfr : ∀ h, n ≤ h → ν h = none) :
    CallDoes P f ys.toArray W fun y W' => ∃ ν1, ν.le ν1 ∧ Rel (pullNu ν1 R) (ofList L0) W' ∧ lvR (pullNu ν1 R) v0 y ∧ Frame (Owned ν s) W (Owned (pullNu ν1 R) (ofList L0)) W' := by
  subst hc
  obtain ⟨v, n', s', r, w, h1, h2⟩ := way_sound h
  simp only [Prod.mk.injEq] at h2
  obtain ⟨e1, e2, e3⟩ := h2
  obtain ⟨_, hs⟩ := call_sound hm hN hT fuel f args s n v n' s' r w h1
  refine (hs ν W ys hys hrel hgl fun h h3 _ => hfr h h3).mono fun y W' ⟨ν1, k1, k2, k3⟩ => ?_
  refine ⟨ν1, k1.le, k2.pull e3 (by rw [e1]; exact hb) hM hA, lvI_R e2 k3, ?_⟩
  exact k1.frame.mono (fun _ h => h) fun b hb => .inl (owned_pull e3 hb)

/-- a call of a function with a body -/
theorem CallDoes.calls {P : Program} {f : FuncId} {fn : Func} {ys : Array Value} {W : World} {Q : Value → World → Prop} (hN : NamesOK P) (hf : P.funcs[f]? = some fn) (hb : fn.body.isNone = false) (h : CallDoes P f ys W Q) :
    Calls P f ys W fun e W' => match e with | .returned v => Q v W' | _ => False := by
  have hnm := hN f fn hf
  simp only [beq_eq_false_iff_ne, ne_eq] at hnm
  have hrun : (callFunc f ys).run P W = .ok (.enter f ys) W := by
    cases hbody : fn.body with
    | none => rw [hbody] at hb; simp at hb
    | some c => simp [callFunc, hf, hnm, hbody]
  unfold CallDoes at h
  rw [hrun] at h
  exact h

/-! ## two memories side by side -/
def joinNu (ν ν' : Nu) : Nu := fun h => match ν h with | some i => some i | none => ν' h

theorem joinNu_left {ν ν' : Nu} : ν.le (joinNu ν ν') := fun h i e => by simp [joinNu, e]
theorem joinNu_right {ν ν' : Nu} (hd : ∀ h, ν h = none ∨ ν' h = none) : ν'.le (joinNu ν ν') := fun h i e => by
  rcases hd h with h0 | h0
  · simp [joinNu, h0, e]
  · rw [e] at h0; cases h0

theorem ofList_append (l l' : List (Nat × Entry)) (k : Nat) : ofList (l ++ l') k = match ofList l k with | some e => some e | none => ofList l' k := by
  induction l with
  | nil => rfl
  | cons x l ih =>
    obtain ⟨h, e⟩ := x
    simp only [List.cons_append, ofList]
    cases Nat.beq k h with
    | true => rfl
    | false => exact ih

theorem Rel.join {ν ν' : Nu} {l l' : List (Nat × Entry)} {w : World} (h : Rel ν (ofList l) w) (h' : Rel ν' (ofList l') w) (hd : ∀ h, ν h = none ∨ ν' h = none)
    (hs : ∀ b, Owned ν (ofList l) b → ¬ Owned ν' (ofList l') b) : Rel (joinNu ν ν') (ofList (l ++ l')) w := by
  have side : ∀ k e, ofList (l ++ l') k = some e → (ofList l k = some e ∧ ∃ i, ν k = some i ∧ joinNu ν ν' k = some i) ∨ (ofList l' k = some e ∧ ∃ i, ν' k = some i ∧ joinNu ν ν' k = some i) := by
    intro k e he
    rw [ofList_append] at he
    cases hk : ofList l k with
    | some e' =>
      rw [hk] at he; cases he
      obtain ⟨i, g1, _⟩ := h.ent k _ hk
      exact .inl ⟨rfl, i, g1, joinNu_left _ _ g1⟩
    | none =>
      rw [hk] at he
      obtain ⟨i, g1, _⟩ := h'.ent k _ he
      exact .inr ⟨he, i, g1, joinNu_right hd _ _ g1⟩
  refine ⟨fun k e he => ?_, fun k k' e e' i i' b h1 h2 h3 h4 h5 h6 hne => ?_⟩
  · rcases side k e he with ⟨g, i, g1, g2⟩ | ⟨g, i, g1, g2⟩
    · obtain ⟨j, q1, q2⟩ := h.ent k e g
      rw [g1] at q1; obtain rfl := Option.some.inj q1
      exact ⟨i, g2, entR_keep joinNu_left q2 fun _ _ => rfl⟩
    · obtain ⟨j, q1, q2⟩ := h'.ent k e g
      rw [g1] at q1; obtain rfl := Option.some.inj q1
      exact ⟨i, g2, entR_keep (joinNu_right hd) q2 fun _ _ => rfl⟩
  · rcases side k e h1 with ⟨g, j, g1, g2⟩ | ⟨g, j, g1, g2⟩ <;> rcases side k' e' h2 with ⟨q, j', q1, q2⟩ | ⟨q, j', q1, q2⟩
    · rw [h3] at g2; rw [h4] at q2; cases g2; cases q2
      exact h.sep k k' e e' _ _ b g q g1 q1 h5 h6 hne
    · rw [h3] at g2; rw [h4] at q2; cases g2; cases q2
      exact (hs b ⟨k, e, _, g, g1, h5⟩ ⟨k', e', _, q, q1, h6⟩).elim
    · rw [h3] at g2; rw [h4] at q2; cases g2; cases q2
      exact (hs b ⟨k', e', _, q, q1, h6⟩ ⟨k, e, _, g, g1, h5⟩).elim
    · rw [h3] at g2; rw [h4] at q2; cases g2; cases q2
      exact h'.sep k k' e e' _ _ b g q g1 q1 h5 h6 hne

theorem owned_join {ν ν' : Nu} {l l' : List (Nat × Entry)} {w : World} (h : Rel ν (ofList l) w) (h' : Rel ν' (ofList l') w) (hd : ∀ h, ν h = none ∨ ν' h = none) {b : Nat}
    (ho : Owned (joinNu ν ν') (ofList (l ++ l')) b) : Owned ν (ofList l) b ∨ Owned ν' (ofList l') b := by
  obtain ⟨k, e, i, h1, h2, h3⟩ := ho
  rw [ofList_append] at h1
  cases hk : ofList l k with
  | some e' =>
    obtain ⟨j, g1, _⟩ := h.ent k _ hk
    have := joinNu_left (ν' := ν') _ _ g1
    rw [h2] at this; cases this
    exact .inl ⟨k, e', _, hk, g1, h3⟩
  | none =>
    rw [hk] at h1
    obtain ⟨j, g1, _⟩ := h'.ent k _ h1
    have := joinNu_right hd _ _ g1
    rw [h2] at this; cases this
    exact .inr ⟨k, e, _, h1, g1, h3⟩

/-- what nobody touches stays related -/
theorem Rel.keep {ν : Nu} {s : LW} {w w' : World} (h : Rel ν s w) (hk : ∀ b, Owned ν s b → w'.heap[b]? = w.heap[b]?) : Rel ν s w' :=
  ⟨fun k e he => let ⟨i, h1, h2⟩ := h.ent k e he; ⟨i, h1, entR_keep (Nu.le_refl _) h2 fun b hb => hk b ⟨k, e, i, he, h1, hb⟩⟩, h.sep⟩
end Go.Ev
