/- An evaluator of code over a logical memory, with its first lemmas; no conditions beyond the hypotheses named. -/
import Derived.Orders
import Derived.Laws.AppendOwn
import Derived.Laws.MakeOwn
set_option linter.all false
namespace Go.Ev

/-- what a closure has captured: a plain value, or the address of a block -/
inductive Cap where
  | v (x : Value)
  | p (h off : Nat)
  deriving Inhabited

/-- a value of one cell -/
inductive Cell where
  | v (x : Value)
  | p (h off : Nat)
  | q (h off len i : Nat)
  | e (h i off : Nat)
  | r (h : Nat)
  | s (h lo len : Nat)
  | m (h : Nat)
  | f (fn : FuncId) (caps : List Cap)
  | u
  deriving Inhabited

inductive V1 where
  | c (x : Cell)
  | a (cs : List Cell)
  deriving Inhabited

inductive LV where
  | o (x : V1)
  | t (vs : List V1)
  deriving Inhabited

inductive Entry where
  | cells (t : TypeId) (cs : List Cell)
  | row (ro : Bool) (t : TypeId) (sz n : Nat) (f : Nat → List Cell)
  | map (f : Int → Option Cell)
  deriving Inhabited

abbrev LW := Nat → Option Entry
def LW.upd (s : LW) (h : Nat) (e : Option Entry) : LW := fun i => match Nat.beq i h with | true => e | false => s i

inductive Ac (α : Type) : Type where
  | ret (a : α)
  | stuck
  | br (b : Bool) (t f : Ac α)
  | get (h : Nat) (k : Entry → Ac α)
  | put (h : Nat) (e : Option Entry) (k : Ac α)

def Ac.bind {α β : Type} : Ac α → (α → Ac β) → Ac β
  | .ret a, f => f a
  | .stuck, _ => .stuck
  | .br b t e, f => .br b (t.bind f) (e.bind f)
  | .get h k, f => .get h fun e => (k e).bind f
  | .put h e k, f => .put h e (k.bind f)

instance : Monad Ac where
  pure := Ac.ret
  bind := Ac.bind

def Ac.run {α Ω : Type} : Ac α → LW → List Nat → List Nat → (α → LW → List Nat → List Nat → Option Ω) → Option Ω
  | .ret a, s, r, w, k => k a s r w
  | .stuck, _, _, _, _ => none
  | .br b t e, s, r, w, k => match b with | true => t.run s r w k | false => e.run s r w k
  | .get h g, s, r, w, k => match s h with | some e => (g e).run s (h :: r) w k | none => none
  | .put h e g, s, r, w, k => g.run (s.upd h e) r (h :: w) k

def chk {α : Type} (b : Bool) (x : Ac α) : Ac α := .br b x .stuck
def ofOpt {α : Type} : Option α → Ac α
  | some a => .ret a
  | none => .stuck

/-- a part of the model's own semantics that asks the program alone -/
def prun {α : Type} (P : Program) : Sem α → Option α
  | .pure a => some a
  | .program k => prun P (k P)
  | _ => none

abbrev LAct := List LV
def undefL : LV := .o (.c (.v undef))

def constL : Value → LV
  | .agg cs => .o (.a (cs.toList.map .v))
  | v => .o (.c (.v v))

def evalL (gl : Nat → Option Nat) (a : LAct) : Operand → LV
  | .tmp t => a.getD t undefL
  | .const v => constL v
  | .global g => match gl g with | some h => .o (.c (.p h 0)) | none => .o (.c (.v (.pointer (some ⟨g, 0, none⟩))))
  | .func f => .o (.c (.f f []))

def putL (a : LAct) (dst : Option Tmp) (v : LV) : LAct :=
  match dst with
  | some d => a.set d v
  | none => a

def V1.cells : V1 → List Cell
  | .c x => [x]
  | .a cs => cs

/-- fits into one cell of memory -/
def oneOK : Cell → Bool
  | .v (.agg _) => false
  | .v (.tuple _) => false
  | _ => true
def V1.ok : V1 → Bool
  | .c x => oneOK x
  | .a cs => cs.all oneOK

inductive Out where
  | val (v : LV) (n : Nat)
  | skip
  | call (f : FuncId) (args : List V1)
  deriving Inhabited

def Cell.plain? : Cell → Option Value
  | .v x => some x
  | _ => none
def plains : List Cell → Option (List Value)
  | [] => some []
  | c :: cs => match c.plain?, plains cs with | some x, some xs => some (x :: xs) | _, _ => none

/-- all of the cells are ints of kind k: their numbers -/
def intsOf (k : IntKind) : List Cell → Option (List Int)
  | [] => some []
  | .v (.int k' x) :: cs => if k' = k then (match intsOf k cs with | some xs => some (x :: xs) | none => none) else none
  | _ :: _ => none

def isAggL (P : Program) (t : TypeId) : Option Bool :=
  match P.underlying t with
  | some (.struct _) => some true
  | some (.array _ _) => some true
  | some _ => some false
  | none => none

def sizeL (P : Program) (t : TypeId) : Option Nat := (P.info? t).map (·.size)

/-- the k cells from off on, as a value of type t -/
def partL (P : Program) (t : TypeId) (cs : List Cell) (off : Nat) : Option V1 :=
  match isAggL P t, sizeL P t with
  | some true, some n => if ((cs.drop off).take n).length = n then some (.a ((cs.drop off).take n)) else none
  | some false, some _ => (cs[off]?).map .c
  | _, _ => none

def selVal (b : Bool) : Value → Value → Value
  | .int k x, .int k' y => if k = k' then .int k (bif b then x else y) else bif b then .int k x else .int k' y
  | .bool x, .bool y => .bool (bif b then x else y)
  | x, y => bif b then x else y

def selCell (b : Bool) : Cell → Cell → Cell
  | .v x, .v y => .v (selVal b x y)
  | x, y => bif b then x else y

def setFrom (cs : List Cell) (off : Nat) : List Cell → List Cell
  | [] => cs
  | x :: xs => setFrom (cs.set off x) (off + 1) xs

def setK {α : Type} {Ω : Type} : List α → Nat → α → (List α → Ω) → Ω
  | [], _, _, k => k []
  | _ :: xs, 0, v, k => k (v :: xs)
  | x :: xs, i + 1, v, k => setK xs i v fun ys => k (x :: ys)

theorem setK_eq {α : Type} {Ω : Type} : ∀ (l : List α) (i : Nat) (v : α) (k : List α → Ω), setK l i v k = k (l.set i v)
  | [], _, _, _ => rfl
  | _ :: _, 0, _, _ => rfl
  | x :: xs, i + 1, v, k => by
    show setK xs i v (fun ys => k (x :: ys)) = _
    rw [setK_eq xs i v]; rfl

def appK {α : Type} {Ω : Type} : List α → List α → (List α → Ω) → Ω
  | [], ys, k => k ys
  | x :: xs, ys, k => appK xs ys fun zs => k (x :: zs)

theorem appK_eq {α : Type} {Ω : Type} : ∀ (xs ys : List α) (k : List α → Ω), appK xs ys k = k (xs ++ ys)
  | [], _, _ => rfl
  | x :: xs, ys, k => by
    show appK xs ys (fun zs => k (x :: zs)) = _
    rw [appK_eq xs ys]; rfl

def setFromK {Ω : Type} : List Cell → Nat → List Cell → (List Cell → Ω) → Ω
  | cs, _, [], k => k cs
  | cs, off, x :: xs, k => setK cs off x fun cs => setFromK cs (off + 1) xs k

theorem setFromK_eq {Ω : Type} : ∀ (xs cs : List Cell) (off : Nat) (k : List Cell → Ω), setFromK cs off xs k = k (setFrom cs off xs)
  | [], _, _, _ => rfl
  | x :: xs, cs, off, k => by
    show setK cs off x (fun cs => setFromK cs (off + 1) xs k) = _
    rw [setK_eq, setFromK_eq xs]; rfl

def forceL {Ω : Type} (v : LV) (k : LV → Ω) : Ω :=
  match v with
  | .o (.c (.v x)) => k (.o (.c (.v x)))
  | .o (.c x) => k (.o (.c x))
  | .o (.a cs) => k (.o (.a cs))
  | .t vs => k (.t vs)

theorem forceL_eq {Ω : Type} (v : LV) (k : LV → Ω) : forceL v k = k v := by
  cases v with
  | t vs => rfl
  | o x =>
    cases x with
    | a cs => rfl
    | c y => cases y <;> rfl

def putK {Ω : Type} (a : LAct) (dst : Option Tmp) (v : LV) (k : LAct → Ω) : Ω :=
  match dst with
  | some d => forceL v fun v => setK a d v k
  | none => k a

theorem putK_eq {Ω : Type} (a : LAct) (dst : Option Tmp) (v : LV) (k : LAct → Ω) : putK a dst v k = k (putL a dst v) := by
  cases dst with
  | none => rfl
  | some d => simp [putK, putL, forceL_eq, setK_eq]

def fieldOff (P : Program) (s : TypeId) (f : Nat) : Option Nat :=
  match P.underlying s with
  | some (.struct fields) => match fields[f]? with
    | some fd => match sizeL P fd.type with
      | some 0 => none
      | some _ => some fd.offset
      | none => none
    | none => none
  | _ => none

def zeroL (P : Program) (t : TypeId) : Option (List Cell) :=
  match P.info? t with
  | some i => match i.zero with
    | some z => some (z.cells.toList.map .v)
    | none => none
  | none => none

/-- where the parts of a struct or an array lie: offset and size -/
def places (P : Program) (t : TypeId) : Option (Nat → Option (Nat × Nat)) :=
  match P.underlying t with
  | some (.struct fields) => match fields.toList.mapM (fun f => (P.info? f.type).map fun i => (f.offset, i.size)) with
    | some pl => some fun i => pl[i]?
    | none => none
  | some (.array _ elem) => match sizeL P elem with
    | some n => some fun i => some (i * n, n)
    | none => none
  | _ => none

def fillL (place : Nat → Option (Nat × Nat)) (cells : List Cell) : List (Nat × V1) → Option (List Cell)
  | [] => some cells
  | (i, v) :: rest =>
    match place i with
    | none => none
    | some (off, size) => if v.ok = true ∧ v.cells.length = size ∧ off + size ≤ cells.length then fillL place (setFrom cells off v.cells) rest else none

def one? : LV → Option V1
  | .o x => some x
  | .t _ => none

def ones? : List LV → Option (List V1)
  | [] => some []
  | x :: xs => match one? x, ones? xs with | some y, some ys => some (y :: ys) | _, _ => none

def partsL (gl : Nat → Option Nat) (a : LAct) : List (Nat × Operand) → Option (List (Nat × V1))
  | [] => some []
  | (i, x) :: rest => match one? (evalL gl a x), partsL gl a rest with | some v, some vs => some ((i, v) :: vs) | _, _ => none

def chunk (sz : Nat) (cs : List Cell) (i : Nat) : List Cell := (cs.drop (i * sz)).take sz
def builtRow (z : List Cell) (sz : Nat) (cs : List Cell) : Nat → Nat → List Cell
  | 0 => fun _ => z
  | 1 => fun _ => cs
  | _ + 2 => chunk sz cs

def retc (c : Cell) (n : Nat) : Ac Out := .ret (.val (.o (.c c)) n)
def retv (v : V1) (n : Nat) : Ac Out := .ret (.val (.o v) n)

/-- equality of plain values -/
def eqFields (eq : TypeId → Value → Value → Ac Bool) (pt : TypeId → Nat → Option (Value × Value)) : List Field → Ac Bool
  | [] => .ret true
  | f :: fs =>
    if f.name = "_" then eqFields eq pt fs else
    match pt f.type f.offset with
    | some (x, y) => (eq f.type x y).bind fun b => .br b (eqFields eq pt fs) (.ret false)
    | none => .stuck

def eqElems (eq : Value → Value → Ac Bool) (pt : Nat → Option (Value × Value)) : (i n : Nat) → Ac Bool
  | _, 0 => .ret true
  | i, n + 1 =>
    match pt i with
    | some (x, y) => (eq x y).bind fun b => .br b (eqElems eq pt (i + 1) n) (.ret false)
    | none => .stuck

def partV (P : Program) (t : TypeId) (cs : Array Value) (off : Nat) : Option Value := prun P (part t cs off)

def eqAc (P : Program) : Nat → TypeId → Value → Value → Ac Bool
  | 0, _, _, _ => .stuck
  | d + 1, t, x, y =>
    match P.underlying t, x, y with
    | some .bool, .bool a, .bool b => .ret (a == b)
    | some (.int _), .int k a, .int k' b => if k = k' then .ret (a == b) else .stuck
    | some .string, .string a, .string b => .ret (a == b)
    | some (.struct fields), .agg xs, .agg ys =>
      if P.stoodInHeld t then .stuck else
      eqFields (eqAc P d) (fun ft off => match partV P ft xs off, partV P ft ys off with | some u, some v => some (u, v) | _, _ => none) fields.toList
    | some (.array len elem), .agg xs, .agg ys =>
      match sizeL P elem with
      | some n => eqElems (eqAc P d elem) (fun i => match partV P elem xs (i * n), partV P elem ys (i * n) with | some u, some v => some (u, v) | _, _ => none) 0 len
      | none => .stuck
    | _, _, _ => .stuck

def isPtrT (P : Program) (t : TypeId) : Bool := match P.underlying t with | some (.pointer _) => true | _ => false
def isSliceT (P : Program) (t : TypeId) : Bool := match P.underlying t with | some (.slice _) => true | _ => false
def isFuncT (P : Program) (t : TypeId) : Bool := match P.underlying t with | some (.func _ _ _) => true | _ => false

def binPlain (P : Program) (op : BinOp) (t : TypeId) (x y : Value) (n : Nat) : Ac Out :=
  match op, x, y with
  | .quo, .int k a, .int k' b => if k = k' then .br (decide (b = 0)) .stuck (retc (.v (.int k (k.wrap (a.tdiv b)))) n) else .stuck
  | .rem, .int k a, .int k' b => if k = k' then .br (decide (b = 0)) .stuck (retc (.v (.int k (a.tmod b))) n) else .stuck
  | .shl, .int k a, .int _ b => .br (decide (b < 0)) .stuck (retc (.v (.int k (k.wrap (a * 2 ^ (min b.toNat k.bits))))) n)
  | .shr, .int k a, .int _ b => .br (decide (b < 0)) .stuck (retc (.v (.int k (a.fdiv (2 ^ (min b.toNat k.bits))))) n)
  | op, x, y =>
    match prun P (eqGuardFree op x y t) with
    | some v => retc (.v v) n
    | none => .stuck
  where
  eqGuardFree (op : BinOp) (x y : Value) (t : TypeId) : Sem Value :=
    match x, y with
    | .nilIface, _ | _, .nilIface | .agg _, _ | _, .agg _ => stuck ""
    | _, _ => binOp op t x y

def isNilPtr : Value → Bool
  | .pointer none => true
  | _ => false
def isNilSlice : Value → Bool
  | .slice none 0 0 => true
  | _ => false
def isNilFunc : Value → Bool
  | .nilFunc => true
  | _ => false

def binL (P : Program) (op : BinOp) (t : TypeId) (x y : V1) (n : Nat) : Ac Out :=
  match x, y with
  | .c (.v x), .c (.v y) => binPlain P op t x y n
  | .a xs, .a ys =>
    match plains xs, plains ys with
    | some xs, some ys =>
      if P.eqGuardType P.depth t then .stuck else
      (match op with
      | .eql => (eqAc P Op.maxDepth t (.agg xs.toArray) (.agg ys.toArray)).bind fun b => retc (.v (.bool b)) n
      | .neq => (eqAc P Op.maxDepth t (.agg xs.toArray) (.agg ys.toArray)).bind fun b => retc (.v (.bool (!b))) n
      | _ => .stuck)
    | _, _ => .stuck
  | .c (.v x), .c y => nilOp op x y
  | .c y, .c (.v x) => nilOp op x y
  | _, _ => .stuck
  where
  nilOp (op : BinOp) (x : Value) (y : Cell) : Ac Out :=
    match y with
    | .p _ _ | .e _ _ _ => if isNilPtr x && isPtrT P t then said op else .stuck
    | .f _ _ => if isNilFunc x && isFuncT P t then said op else .stuck
    | .r h => if isNilSlice x && isSliceT P t then .get h fun | .row _ _ _ m _ => .br (decide (m = 0)) .stuck (said op) | _ => .stuck else .stuck
    | .s h _ len => if isNilSlice x && isSliceT P t then .get h fun | .row _ _ _ _ _ => .br (decide (len = 0)) .stuck (said op) | _ => .stuck else .stuck
    | _ => .stuck
  said : BinOp → Ac Out
    | .eql => retc (.v (.bool false)) n
    | .neq => retc (.v (.bool true)) n
    | _ => .stuck

/-- the length of a slice, and its row -/
structure SliceIn where
  h : Nat
  ro : Bool
  t : TypeId
  sz : Nat
  lo : Nat
  len : Nat
  f : Nat → List Cell

def sliceIn (c : Cell) (k : SliceIn → Ac Out) : Ac Out :=
  match c with
  | .r h => .get h fun
    | .row ro t sz n f => k ⟨h, ro, t, sz, 0, n, f⟩
    | _ => .stuck
  | .s h lo len => .get h fun
    | .row ro t sz _ f => k ⟨h, ro, t, sz, lo, len, f⟩
    | _ => .stuck
  | _ => .stuck

def indexAddrL (P : Program) (t : TypeId) (x : V1) (i : Int) (n : Nat) : Ac Out :=
  match P.underlying t, x with
  | some (.slice e), .c c => sliceIn c fun d => if sizeL P e = some d.sz then chk (decide (0 ≤ i ∧ i < d.len)) (retc (.e d.h (d.lo + i.toNat) 0) n) else .stuck
  | some (.array len elem), .c (.p h off) =>
    match sizeL P elem with
    | some sz => chk (decide (0 ≤ i ∧ i < len)) (if sz = 1 then retc (.q h off len i.toNat) n else retc (.p h (off + i.toNat * sz)) n)
    | none => .stuck
  | _, _ => .stuck

def intKindL (P : Program) (t : TypeId) : Option IntKind := match P.underlying t with | some (.int k) => some k | _ => none

def indexL (P : Program) (t : TypeId) (x : V1) (i : Value) (n : Nat) : Ac Out :=
  match x with
  | .c (.v s) => (match prun P (Instr.index t s i) with | some v => retc (.v v) n | none => .stuck)
  | .a cs =>
    match P.underlying t, i with
    | some (.array len elem), .int _ i =>
      (match intKindL P elem with
      | some k => match intsOf k (cs.take len) with
        | some xs => if xs.length = len ∧ sizeL P elem = some 1 then chk (decide (0 ≤ i ∧ i < len)) (retc (.v (.int k (xs.getD i.toNat 0))) n) else .stuck
        | none => .stuck
      | none => match sizeL P elem with
        | some sz => chk (decide (0 ≤ i ∧ i < len)) (match partL P elem cs (i.toNat * sz) with | some v => retv v n | none => .stuck)
        | none => .stuck)
    | _, _ => .stuck
  | _ => .stuck

def loadL (P : Program) (t : TypeId) (c : Cell) (k : V1 → Ac Out) : Ac Out :=
  match c with
  | .p h off => .get h fun
    | .cells _ cs => match partL P t cs off with
      | some v => k v
      | none => .stuck
    | _ => .stuck
  | .q h off len i => .get h fun
    | .cells _ cs => match intKindL P t with
      | some kd => match intsOf kd ((cs.drop off).take len) with
        | some xs => if xs.length = len then chk (decide (i < len)) (k (.c (.v (.int kd (xs.getD i 0))))) else .stuck
        | none => .stuck
      | none => .stuck
    | _ => .stuck
  | .e h i off => .get h fun
    | .row _ _ _ n f => chk (decide (i < n)) (match partL P t (f i) off with
      | some v => k v
      | none => .stuck)
    | _ => .stuck
  | _ => .stuck

def updInts (i : Nat) (x : Int) : Nat → List Int → List Int
  | _, [] => []
  | j, y :: ys => (if j = i then x else y) :: updInts i x (j + 1) ys

def zipSel (b : Bool) : List Cell → List Cell → List Cell
  | x :: xs, y :: ys => selCell b x y :: zipSel b xs ys
  | [], [] => []
  | [], y :: ys => bif b then [] else y :: ys
  | x :: xs, [] => bif b then x :: xs else []

def storeL (P : Program) (t : TypeId) (c : Cell) (v : V1) : Ac Out :=
  match sizeL P t with
  | none => .stuck
  | some size =>
    if v.ok = true ∧ v.cells.length = size then
      match c with
      | .p h off => .get h fun
        | .cells ct cs => if off + size ≤ cs.length then setFromK cs off v.cells fun cs => .put h (some (.cells ct cs)) (.ret .skip) else .stuck
        | _ => .stuck
      | .q h off len i => .get h fun
        | .cells ct cs =>
          match v with
          | .c (.v (.int kd x)) => match intsOf kd ((cs.drop off).take len) with
            | some xs => if xs.length = len then chk (decide (i < len)) (.put h (some (.cells ct (setFrom cs off ((updInts i x 0 xs).map fun y => .v (.int kd y))))) (.ret .skip)) else .stuck
            | none => .stuck
          | _ => .stuck
        | _ => .stuck
      | .e h i off => .get h fun
        | .row false rt sz n f =>
          chk (decide (i < n)) (if off + size ≤ sz then
            .put h (some (.row false rt sz n fun j => zipSel (decide (j = i)) (setFrom (f i) off v.cells) (f j))) (.ret .skip) else .stuck)
        | _ => .stuck
      | _ => .stuck
    else .stuck

def newCells (t : TypeId) (cs : List Cell) (n : Nat) : Ac Out :=
  if cs.all oneOK then .put n (some (.cells t cs)) (.ret (.val (.o (.c (.p n 0))) (n + 1))) else .stuck

def capsL : List V1 → Option (List Cap)
  | [] => some []
  | .c (.v x) :: vs => (capsL vs).map (.v x :: ·)
  | .c (.p h off) :: vs => (capsL vs).map (.p h off :: ·)
  | _ => none

def Cap.cell : Cap → V1
  | .v x => .c (.v x)
  | .p h off => .c (.p h off)

def bytesL (P : Program) (t : TypeId) : Option Nat := (P.info? t).map (·.bytes)

def plainArgs : List V1 → Option (List Value)
  | [] => some []
  | .c (.v x) :: vs => match plainArgs vs with | some xs => some (x :: xs) | none => none
  | _ => none

/-- what is appended -/
def srcL (c : Cell) (k : (m : Nat) → (Nat → List Cell) → Nat → Ac Out) (sz : Nat) : Ac Out :=
  match c with
  | .v (.slice _ 0 _) => k 0 (fun _ => []) sz
  | c => sliceIn c fun d => k d.len (fun j => d.f (d.lo + j)) d.sz

def appF (len : Nat) (f g : Nat → List Cell) : Nat → List Cell := fun j => zipSel (decide (j < len)) (f j) (g (j - len))

def appendWith (e : TypeId) (sz by' : Nat) (x : Cell) (src : ((m : Nat) → (Nat → List Cell) → Nat → Ac Out) → Ac Out) (n : Nat) : Ac Out :=
  match x with
  | .v (.slice none 0 0) => src (fun m g sz' => if sz' = sz then
        chk (decide (m * (by' + 1) ≤ 140737488355328)) (.put n (some (.row false e sz m g)) (.ret (.val (.o (.c (.r n))) (n + 1)))) else .stuck)
  | .r h => .get h fun
    | .row false e' sz2 len f => if e' = e ∧ sz2 = sz then
        src (fun m g sz' => if sz' = sz then
          chk (decide ((len + m) * (by' + 1) ≤ 140737488355328)) (.put h none (.put n (some (.row false e sz (len + m) (appF len f g))) (.ret (.val (.o (.c (.r n))) (n + 1))))) else .stuck)
        else .stuck
    | _ => .stuck
  | _ => .stuck

def appendL (P : Program) (t : TypeId) (x y : V1) (n : Nat) : Ac Out :=
  match P.underlying t with
  | some (.slice e) =>
    match sizeL P e, bytesL P e, x, y with
    | some sz, some (by' + 1), .c x, .c y =>
      if sz = 0 ∨ (zeroL P e).map List.length ≠ some sz then .stuck else
      appendWith e sz by' x (fun k => srcL y k sz) n
    | _, _, _, _ => .stuck
  | _ => .stuck

/-- append(x, make([]T, l)...) -/
def appendZ (P : Program) (t u : TypeId) (x y : V1) (n : Nat) : Ac Out :=
  match P.underlying t, P.underlying u with
  | some (.slice e), some (.int _) =>
    match sizeL P e, bytesL P e, x, y, zeroL P e with
    | some sz, some (by' + 1), .c x, .c (.v (.int _ l)), some z =>
      if sz = 0 ∨ z.length ≠ sz ∨ z.all oneOK = false then .stuck else
      appendWith e sz by' x (fun k => chk (decide (0 ≤ IntKind.i64.wrap l)) (k (IntKind.i64.wrap l).toNat (fun _ => z) sz)) n
    | _, _, _, _, _ => .stuck
  | _, _ => .stuck

def builtinL (P : Program) (b : Builtin) (ts : Array TypeId) (type : TypeId) (args : List V1) (n : Nat) : Ac Out :=
  match b, args with
  | .len, [.c (.v x)] => (match prun P (Builtin.len_ ts type #[x]) with | some v => retc (.v v) n | none => .stuck)
  | .len, [.c c] => (match (ts[0]?).bind P.underlying with
    | some (.slice _) => sliceIn c fun d => retc (.v (.int .i64 d.len)) n
    | _ => .stuck)
  | .min, args => (match plainArgs args with
    | some xs => (match prun P (Builtin.min_ ts type xs.toArray) with | some v => retc (.v v) n | none => .stuck)
    | none => .stuck)
  | .max, args => (match plainArgs args with
    | some xs => (match prun P (Builtin.max_ ts type xs.toArray) with | some v => retc (.v v) n | none => .stuck)
    | none => .stuck)
  | .append, [x, y] => (match ts[0]?, ts[1]? with
    | some t, some u => if t = u then appendL P t x y n else appendZ P t u x y n
    | _, _ => .stuck)
  | _, _ => .stuck

def boundL (x : Option V1) (d : Int) (k : Int → Ac Out) : Ac Out :=
  match x with
  | none => k d
  | some (.c (.v (.int _ i))) => k i
  | _ => .stuck

def sliceL (P : Program) (t : TypeId) (x : V1) (lo hi : Option V1) (n : Nat) : Ac Out :=
  match x with
  | .c (.v s) =>
    (match lo, hi with
    | none, none => (match prun P (Instr.sliceAt t s none none none) with | some v => retc (.v v) n | none => .stuck)
    | some (.c (.v l)), none => (match prun P (Instr.sliceAt t s (some l) none none) with | some v => retc (.v v) n | none => .stuck)
    | none, some (.c (.v h)) => (match prun P (Instr.sliceAt t s none (some h) none) with | some v => retc (.v v) n | none => .stuck)
    | some (.c (.v l)), some (.c (.v h)) => (match prun P (Instr.sliceAt t s (some l) (some h) none) with | some v => retc (.v v) n | none => .stuck)
    | _, _ => .stuck)
  | .c c =>
    (match P.underlying t with
    | some (.slice e) => sliceIn c fun d => if sizeL P e ≠ some d.sz then .stuck else
      boundL hi d.len fun h => chk (decide (0 ≤ h ∧ h ≤ d.len)) (boundL lo 0 fun l => chk (decide (0 ≤ l ∧ l ≤ h)) (retc (.s d.h (d.lo + l.toNat) (h - l).toNat) n))
    | _ => .stuck)
  | _ => .stuck

def zeroLo : Option (Option V1) → Bool
  | none => true
  | some (some (.c (.v (.int _ i)))) => decide (i = 0)
  | _ => false

/-- x[:0:0] -/
def sliceZ (P : Program) (t : TypeId) (x : V1) (lo : Option (Option V1)) (hi mx : V1) (n : Nat) : Ac Out :=
  match P.underlying t, hi, mx with
  | some (.slice e), .c (.v (.int _ h)), .c (.v (.int _ m)) =>
    (match sizeL P e, zeroL P e, x with
    | some sz, some z, .c c => if sz = 0 ∨ h ≠ 0 ∨ m ≠ 0 ∨ zeroLo lo = false then .stuck else
        srcL c (fun _ _ sz' => if sz' = sz then .put n (some (.row false e sz 0 fun _ => z)) (.ret (.val (.o (.c (.r n))) (n + 1))) else .stuck) sz
    | _, _, _ => .stuck)
  | _, _, _ => .stuck

def makeSliceL (P : Program) (t : TypeId) (len cap : V1) (n : Nat) : Ac Out :=
  match P.underlying t, len, cap with
  | some (.slice e), .c (.v (.int _ l)), .c (.v (.int _ c)) =>
    (match sizeL P e, bytesL P e, zeroL P e with
    | some sz, some (by' + 1), some z =>
      if sz = 0 ∨ z.length ≠ sz ∨ z.all oneOK = false then .stuck else
      chk (decide (0 ≤ l ∧ l ≤ c ∧ c * (by' + 1) ≤ 140737488355328)) (.put n (some (.row false e sz l.toNat fun _ => z)) (.ret (.val (.o (.c (.r n))) (n + 1))))
    | _, _, _ => .stuck)
  | _, _, _ => .stuck

def zero1 (P : Program) (t : TypeId) : Option Value :=
  match P.info? t with
  | some i => match i.zero with
    | some (.agg _) => none
    | some v => some v
    | none => none
  | none => none

def lookEnd (P : Program) (elem : TypeId) (n : Nat) : Option Cell → Ac Out
  | some c => retc c n
  | none => match zero1 P elem with
    | some v => retc (.v v) n
    | none => .stuck

def lookupL (P : Program) (t : TypeId) (x i : V1) (ok : Bool) (n : Nat) : Ac Out :=
  match P.underlying t, x, i with
  | some (.map kt elem), .c (.m h), .c (.v (.int .i64 kx)) =>
    (match P.underlying kt, ok with
    | some (.int _), false => .get h fun
      | .map f => lookEnd P elem n (f kx)
      | _ => .stuck
    | _, _ => .stuck)
  | _, _, _ => .stuck

def setKey (f : Int → Option Cell) (k : Int) (c : Cell) : Int → Option Cell := fun q => if q = k then some c else f q

def insertL (P : Program) (t : TypeId) (m key x : V1) : Ac Out :=
  match P.underlying t, m, key, x with
  | some (.map kt _), .c (.m h), .c (.v (.int .i64 kx)), .c x =>
    (match P.underlying kt with
    | some (.int _) => .get h fun
      | .map f => (match f kx with
        | none => .put h (some (.map (setKey f kx x))) (.ret .skip)
        | some _ => .stuck)
      | _ => .stuck
    | _ => .stuck)
  | _, _, _, _ => .stuck

def evOp (P : Program) (gl : Nat → Option Nat) (a : LAct) (o : Oper) (n : Nat) : Ac Out :=
  let ev (x : Operand) : Option V1 := one? (evalL gl a x)
  match o.op with
  | .move x | .assign x => .ret (.val (evalL gl a x) n)
  | .pick c x y => (match evalL gl a c with
    | .o (.c (.v (.bool b))) => .br b (.ret (.val (evalL gl a x) n)) (.ret (.val (evalL gl a y) n))
    | _ => .stuck)
  | .alloc t => (match zeroL P t with | some cs => newCells t cs n | none => .stuck)
  | .box t x => (match ev x with | some v => if v.ok then newCells t v.cells n else .stuck | none => .stuck)
  | .build t parts => (match zeroL P t, partsL gl a parts.toList, places P t with
    | some z, some ps, some pl => (match fillL pl z ps with | some cs => retv (.a cs) n | none => .stuck)
    | _, _, _ => .stuck)
  | .buildSlice t len parts => (match P.underlying t with
    | some (.slice e) => (match sizeL P e, zeroL P e, partsL gl a parts.toList with
      | some sz, some z, some ps =>
        if sz = 0 ∨ z.length ≠ sz ∨ len * sz > 100000 then .stuck else
        (match fillL (fun i => some (i * sz, sz)) ((List.replicate len z).flatten) ps with
        | some cs => if cs.all oneOK then .put n (some (.row false e sz len (builtRow z sz cs len))) (.ret (.val (.o (.c (.r n))) (n + 1))) else .stuck
        | none => .stuck)
      | _, _, _ => .stuck)
    | _ => .stuck)
  | .load t x => (match ev x with | some (.c c) => loadL P t c fun v => retv v n | _ => .stuck)
  | .store t x y => (match ev x, ev y with | some (.c c), some v => storeL P t c v | _, _ => .stuck)
  | .nilCheck x => (match ev x with
    | some (.c (.v _)) => .stuck
    | some (.c (.p h off)) => retc (.p h off) n
    | some (.c (.e h i off)) => retc (.e h i off) n
    | some (.c (.q h off len i)) => retc (.q h off len i) n
    | some (.c (.f fn caps)) => retc (.f fn caps) n
    | _ => .stuck)
  | .binOp op t x y _ => (match ev x, ev y with | some x, some y => binL P op t x y n | _, _ => .stuck)
  | .unOp op _ x => (match ev x with
    | some (.c (.v x)) => (match prun P (Op.unary op x) with | some v => retc (.v v) n | none => .stuck)
    | _ => .stuck)
  | .convert src dst x => (match ev x with
    | some (.c (.v x)) => (match prun P (convert src dst x) with | some v => retc (.v v) n | none => .stuck)
    | _ => .stuck)
  | .makeFunc (.func f) first captured => if first.size = 0 then
      (match ((captured.toList.map (evalL gl a)) |> ones?).bind capsL with
      | some caps => retc (.f f caps) n
      | none => .stuck) else .stuck
  | .makeMap t none => (match P.underlying t with
    | some (.map _ _) => .put n (some (.map fun _ => none)) (.ret (.val (.o (.c (.m n))) (n + 1)))
    | _ => .stuck)
  | .makeSlice t l c => (match ev l, ev c with | some l, some c => makeSliceL P t l c n | _, _ => .stuck)
  | .slice t x lo hi none => (match ev x, lo.map ev, hi.map ev with
    | some x, none, none => sliceL P t x none none n
    | some x, some (some l), none => sliceL P t x (some l) none n
    | some x, none, some (some h) => sliceL P t x none (some h) n
    | some x, some (some l), some (some h) => sliceL P t x (some l) (some h) n
    | _, _, _ => .stuck)
  | .slice t x lo (some hi) (some mx) => (match ev x, ev hi, ev mx with
    | some x, some h, some m => sliceZ P t x (lo.map ev) h m n
    | _, _, _ => .stuck)
  | .fieldAddr s x f => (match ev x, fieldOff P s f with
    | some (.c (.p h off)), some d => retc (.p h (off + d)) n
    | some (.c (.e h i off)), some d => retc (.e h i (off + d)) n
    | _, _ => .stuck)
  | .field t x f => (match P.underlying t, ev x with
    | some (.struct fields), some (.a cs) => (match fields[f]? with
      | some fd => (match partL P fd.type cs fd.offset with | some v => retv v n | none => .stuck)
      | none => .stuck)
    | _, _ => .stuck)
  | .indexAddr t x i => (match ev x, ev i with | some x, some (.c (.v (.int _ i))) => indexAddrL P t x i n | _, _ => .stuck)
  | .index t x i => (match ev x, ev i with | some x, some (.c (.v i)) => indexL P t x i n | _, _ => .stuck)
  | .lookup t x i ok => (match ev x, ev i with | some x, some i => lookupL P t x i ok n | _, _ => .stuck)
  | .mapUpdate t m k x | .insert t m k x => (match ev m, ev k, ev x with | some m, some k, some x => insertL P t m k x | _, _, _ => .stuck)
  | .extract t i => (match evalL gl a t with
    | .t vs => (match vs[i]? with | some v => retv v n | none => .stuck)
    | _ => .stuck)
  | .call c => (match ones? (c.args.toList.map (evalL gl a)) with
    | some args => (match c.callee with
      | .builtin b => builtinL P b c.argTypes o.type args n
      | .value f => (match evalL gl a f with
        | .o (.c (.f fn caps)) => .ret (.call fn (args ++ caps.map Cap.cell))
        | _ => .stuck)
      | .invoke _ _ => .stuck)
    | none => .stuck)
  | _ => .stuck

/-! ## the same, quicker for the kernel -/
def intFast (op : BinOp) (k : IntKind) (a b : Int) (n : Nat) (slow : Unit → Ac Out) : Ac Out :=
  match op with
  | .add => retc (.v (.int k (k.wrap (a + b)))) n
  | .sub => retc (.v (.int k (k.wrap (a - b)))) n
  | .mul => retc (.v (.int k (k.wrap (a * b)))) n
  | .eql => retc (.v (.bool (a == b))) n
  | .neq => retc (.v (.bool (a != b))) n
  | .lss => retc (.v (.bool (decide (a < b)))) n
  | .leq => retc (.v (.bool (decide (a ≤ b)))) n
  | .gtr => retc (.v (.bool (decide (a > b)))) n
  | .geq => retc (.v (.bool (decide (a ≥ b)))) n
  | _ => slow ()

def valFast (op : BinOp) (x y : Value) (n : Nat) (slow : Unit → Ac Out) : Ac Out :=
  match x with
  | .int k a => (match y with
    | .int k' b => if k = k' then intFast op k a b n slow else slow ()
    | _ => slow ())
  | _ => slow ()

def binLF (P : Program) (op : BinOp) (t : TypeId) (x y : V1) (n : Nat) : Ac Out :=
  match x with
  | .c x' => (match x' with
    | .v u => (match y with
      | .c y' => (match y' with
        | .v v => valFast op u v n (fun _ => binL P op t x y n)
        | _ => binL P op t x y n)
      | _ => binL P op t x y n)
    | _ => binL P op t x y n)
  | _ => binL P op t x y n

theorem binLF_eq (P : Program) (op : BinOp) (t : TypeId) (x y : V1) (n : Nat) : binLF P op t x y n = binL P op t x y n := by
  unfold binLF
  split
  · split
    · split
      · split
        · rename_i u _ v
          unfold valFast
          split
          · rename_i k a
            split
            · rename_i k' b
              split
              · rename_i hk
                subst hk
                cases op <;> first | rfl | (simp [intFast, binL, binPlain, binPlain.eqGuardFree, binOp, Op.intArith, Op.intCmp]; rfl)
              · rfl
            · rfl
          · rfl
        · rfl
      · rfl
    · rfl
  · rfl

def convF (P : Program) (src dst : TypeId) (x : Value) (n : Nat) : Ac Out :=
  match prun P (convert src dst x) with | some v => retc (.v v) n | none => .stuck

def unF (P : Program) (op : UnOp) (x : Value) (n : Nat) : Ac Out :=
  match prun P (Op.unary op x) with | some v => retc (.v v) n | none => .stuck

def allocOp (P : Program) (t : TypeId) (n : Nat) : Ac Out := match zeroL P t with | some cs => newCells t cs n | none => .stuck
def boxOp (gl : Nat → Option Nat) (a : LAct) (t : TypeId) (x : Operand) (n : Nat) : Ac Out := match one? (evalL gl a x) with | some v => if v.ok then newCells t v.cells n else .stuck | none => .stuck
def loadOp (P : Program) (gl : Nat → Option Nat) (a : LAct) (t : TypeId) (x : Operand) (n : Nat) : Ac Out := match one? (evalL gl a x) with | some (.c c) => loadL P t c fun v => retv v n | _ => .stuck
def storeOp (P : Program) (gl : Nat → Option Nat) (a : LAct) (t : TypeId) (x y : Operand) : Ac Out := match one? (evalL gl a x), one? (evalL gl a y) with | some (.c c), some v => storeL P t c v | _, _ => .stuck
def binLOp (P : Program) (gl : Nat → Option Nat) (a : LAct) (op : BinOp) (t : TypeId) (x y : Operand) (n : Nat) : Ac Out := match one? (evalL gl a x) with
  | some x => (match one? (evalL gl a y) with | some y => binLF P op t x y n | none => .stuck)
  | none => .stuck
def fieldAddrOp (P : Program) (gl : Nat → Option Nat) (a : LAct) (s : TypeId) (x : Operand) (f : Nat) (n : Nat) : Ac Out := match one? (evalL gl a x), fieldOff P s f with
    | some (.c (.p h off)), some d => retc (.p h (off + d)) n
    | some (.c (.e h i off)), some d => retc (.e h i (off + d)) n
    | _, _ => .stuck
def pickOp (gl : Nat → Option Nat) (a : LAct) (c x y : Operand) (n : Nat) : Ac Out := match evalL gl a c with
    | .o (.c (.v (.bool b))) => .br b (.ret (.val (evalL gl a x) n)) (.ret (.val (evalL gl a y) n))
    | _ => .stuck

def opSem (o : Op) : Program → (Nat → Option Nat) → LAct → Oper → Nat → Ac Out :=
  match o with
  | .move x => fun _ gl a _ n => .ret (.val (evalL gl a x) n)
  | .assign x => fun _ gl a _ n => .ret (.val (evalL gl a x) n)
  | .pick c x y => fun _ gl a _ n => pickOp gl a c x y n
  | .alloc t => fun P _ _ _ n => allocOp P t n
  | .box t x => fun _ gl a _ n => boxOp gl a t x n
  | .load t x => fun P gl a _ n => loadOp P gl a t x n
  | .store t x y => fun P gl a _ _ => storeOp P gl a t x y
  | .binOp op t x y _ => fun P gl a _ n => binLOp P gl a op t x y n
  | .fieldAddr s x f => fun P gl a _ n => fieldAddrOp P gl a s x f n
  | _ => fun P gl a o n => evOp P gl a o n

def evOpF (P : Program) (gl : Nat → Option Nat) (a : LAct) (o : Oper) (n : Nat) : Ac Out := opSem o.op P gl a o n

theorem evOpF_eq (P : Program) (gl : Nat → Option Nat) (a : LAct) (o : Oper) (n : Nat) : evOpF P gl a o n = evOp P gl a o n := by
  unfold evOpF opSem
  cases ho : o.op <;> simp only [] <;> first | rfl | (unfold evOp; simp only [ho]; done) | skip
  case binOp op t x y u =>
    unfold evOp binLOp
    simp only [ho]
    cases one? (evalL gl a x) with
    | none => rfl
    | some v => cases one? (evalL gl a y) with
      | none => rfl
      | some w => exact binLF_eq P op t v w n
  all_goals (unfold evOp; simp only [ho]; rfl)

abbrev K (Ω : Type) := LAct → LW → Nat → List Nat → List Nat → Option Ω
abbrev CallF (Ω : Type) := FuncId → List V1 → LW → Nat → List Nat → List Nat → (LV → LW → Nat → List Nat → List Nat → Option Ω) → Option Ω

def execL {Ω : Type} (P : Program) (gl : Nat → Option Nat) (call : CallF Ω) (o : Oper) (a : LAct) (s : LW) (n : Nat) (r w : List Nat) (k : K Ω) : Option Ω :=
  (evOpF P gl a o n).run s r w fun out s r w => match out with
    | .val v n' => putK a o.dst v fun a => k a s n' r w
    | .skip => putK a o.dst undefL fun a => k a s n r w
    | .call f args => call f args s n r w fun v s n r w => putK a o.dst v fun a => k a s n r w

def guardSlot (ops : Array Oper) (j : Nat) : Option Tmp := match ops[j]? with | some o => o.dst | none => none

def stepOp {Ω : Type} (P : Program) (gl : Nat → Option Nat) (call : CallF Ω) (ops : Array Oper) (o : Oper) (a : LAct) (s : LW) (n : Nat) (r w : List Nat) (k : K Ω) : Option Ω :=
  match o.guard with
  | none => execL P gl call o a s n r w k
  | some (j, want) =>
    match guardSlot ops j with
    | none => putK a o.dst undefL fun a => k a s n r w
    | some d =>
      match a[d]? with
      | some (.o (.c (.v (.bool b)))) =>
        (match b with
        | true => (match want with
          | true => setK a d (.o (.c (.v (.bool true)))) fun a => execL P gl call o a s n r w k
          | false => setK a d (.o (.c (.v (.bool true)))) fun a => putK a o.dst undefL fun a => k a s n r w)
        | false => (match want with
          | true => setK a d (.o (.c (.v (.bool false)))) fun a => putK a o.dst undefL fun a => k a s n r w
          | false => setK a d (.o (.c (.v (.bool false)))) fun a => execL P gl call o a s n r w k))
      | _ => putK a o.dst undefL fun a => k a s n r w

def evSeq {Ω : Type} (P : Program) (gl : Nat → Option Nat) (call : CallF Ω) (ops : Array Oper) : List Oper → K Ω → K Ω
  | [], k => k
  | o :: rest, k => fun a s n r w => stepOp P gl call ops o a s n r w (evSeq P gl call ops rest k)

/-- the operations that must come before each one -/
def closure (ops : Array Oper) : List Nat :=
  ops.toList.foldl (fun acc o => acc ++ [o.after.toList.foldl (fun m e => if Region.binds .any e then m ||| (2 ^ e.on ||| acc.getD e.on 0) else m) 0]) []

def disjoint (xs ys : List Nat) : Bool := xs.all fun x => !ys.contains x

/-- an entry that is put into a map under a key of the text -/
def insKey (o : Oper) : Option Int := match o.op with | .insert _ _ (.const (.int .i64 k)) _ => some k | _ => none

def twoKeys (x y : Oper) : Bool := match insKey x, insKey y with | some a, some b => a != b | _, _ => false

/-- every operation comes after those on which it waits; what is not ordered by that shares no slot -/
def drawStatic (ops : Array Oper) : Bool :=
  let cl := closure ops
  (List.range ops.size).all fun j => (match ops[j]? with | some o => o.after.all fun e => !Region.binds .any e || decide (e.on < j) | none => false) &&
    (List.range j).all fun i => (cl.getD j 0).testBit i || (match ops[i]?, ops[j]? with | some x, some y => Oper.apart ops x y | _, _ => false)

/-- the pairs that may change places, and whose footprints are asked -/
def loose (ops : Array Oper) : List (Nat × Nat) :=
  let cl := closure ops
  (List.range ops.size).flatMap fun j => (List.range j).flatMap fun i =>
    match ops[i]?, ops[j]? with
    | some x, some y => if (cl.getD j 0).testBit i || twoKeys x y then [] else [(i, j)]
    | _, _ => [(i, j)]

def pairOK (fps : List (List Nat × List Nat)) (p : Nat × Nat) : Bool :=
  match fps[p.1]?, fps[p.2]? with
  | some (r, w), some (r', w') => disjoint w r' && disjoint w w' && disjoint w' r
  | _, _ => false

def drawOK (ops : Array Oper) (fps : List (List Nat × List Nat)) : Bool := drawStatic ops && (loose ops).all (pairOK fps)

def evDraw {Ω : Type} (P : Program) (gl : Nat → Option Nat) (call : CallF Ω) (ops : Array Oper) : List Oper → List (List Nat × List Nat) → List Nat → List Nat → (LAct → LW → Nat → List Nat → List Nat → Option Ω) → LAct → LW → Nat → Option Ω
  | [], fps, r, w, k => fun a s n => if drawOK ops fps then k a s n r w else none
  | o :: rest, fps, r, w, k => fun a s n => stepOp P gl call ops o a s n [] [] fun a s n r' w' =>
    appK fps [(r', w')] fun fps => appK r' r fun r => appK w' w fun w => evDraw P gl call ops rest fps r w k a s n

inductive LExit where
  | normal | exit (id : Nat) | ret
  deriving Inhabited

abbrev Prim := List V1 → Nat → Ac (LV × Nat)

def resultL (P : Program) (a : LAct) : List ResultVar → (List V1 → Ac LV) → Ac LV
  | [], k => k []
  | .tmp t :: rest, k => (match one? (a.getD t undefL) with
    | some v => resultL P a rest fun vs => k (v :: vs)
    | none => .stuck)
  | .cell x t :: rest, k => (match a.getD x undefL with
    | .o (.c (.p h off)) => .get h fun
      | .cells _ cs => (match partL P t cs off with
        | some v => resultL P a rest fun vs => k (v :: vs)
        | none => .stuck)
      | _ => .stuck
    | _ => .stuck)

def resultsL (P : Program) (fn : Func) (a : LAct) : Ac LV :=
  resultL P a fn.results.toList fun
    | [v] => .ret (.o v)
    | vs => .ret (.t vs)

def callL {Ω : Type} (P : Program) (T : FuncId → Option Prim) (ev : Code → LAct → LW → Nat → List Nat → List Nat → (LExit → K Ω) → Option Ω) : CallF Ω :=
  fun f args s n r w k =>
  match T f with
  | some g => (g args n).run s r w fun (v, n') s r w => k v s n' r w
  | none =>
    match P.funcs[f]? with
    | none => none
    | some fn =>
      match fn.body with
      | none => none
      | some c => ev c (args.map .o ++ List.replicate (fn.ntmps - args.length) undefL) s n r w fun e a s n r w =>
        match e with
        | .exit _ => none
        | _ => (resultsL P fn a).run s r w fun v s r w => k v s n r w

def evCode {Ω : Type} (P : Program) (gl : Nat → Option Nat) (T : FuncId → Option Prim) : Nat → Code → LAct → LW → Nat → List Nat → List Nat → (LExit → K Ω) → Option Ω
  | 0, _, _, _, _, _, _, _ => none
  | fuel + 1, c, a, s, n, r, w, k =>
    match c with
    | .skip => k .normal a s n r w
    | .region _ ops false => evSeq P gl (callL P T (evCode P gl T fuel)) ops ops.toList (k .normal) a s n r w
    | .region _ ops true => evDraw P gl (callL P T (evCode P gl T fuel)) ops ops.toList [] r w (k .normal) a s n
    | .seq x y => evCode P gl T fuel x a s n r w fun e a s n r w =>
      match e with
      | .normal => evCode P gl T fuel y a s n r w k
      | e => k e a s n r w
    | .cond c x y =>
      (match evalL gl a c with
      | .o (.c (.v (.bool b))) => (match b with | true => evCode P gl T fuel x a s n r w k | false => evCode P gl T fuel y a s n r w k)
      | _ => none)
    | .block id c => evCode P gl T fuel c a s n r w fun e a s n r w =>
      match e with
      | .exit id' => if id' = id then k .normal a s n r w else k (.exit id') a s n r w
      | e => k e a s n r w
    | .loop c => evCode P gl T fuel c a s n r w fun e a s n r w =>
      match e with
      | .normal => evCode P gl T fuel (.loop c) a s n r w k
      | e => k e a s n r w
    | .exit id => k (.exit id) a s n r w
    | .ret => k .ret a s n r w
    | _ => none

def evCall {Ω : Type} (P : Program) (gl : Nat → Option Nat) (T : FuncId → Option Prim) (fuel : Nat) : CallF Ω := callL P T (evCode P gl T fuel)

end Go.Ev

namespace Go.Ev

/-! ## running actions without a continuation -/
abbrev Res (α : Type) := Option (α × LW × List Nat × List Nat)

def Ac.out {α : Type} (x : Ac α) (s : LW) : Res α := x.run s [] [] fun a s r w => some (a, s, r, w)

theorem Ac.run_out' {α : Type} (x : Ac α) : ∀ (Ω : Type) (s : LW) (r w : List Nat) (k : α → LW → List Nat → List Nat → Option Ω),
    x.run s r w k = (x.out s).bind fun p => k p.1 p.2.1 (p.2.2.1 ++ r) (p.2.2.2 ++ w) := by
  induction x with
  | ret a => intro Ω s r w k; simp [Ac.run, Ac.out]
  | stuck => intro Ω s r w k; simp [Ac.run, Ac.out]
  | br b t e iht ihe =>
    intro Ω s r w k
    cases b
    · simpa [Ac.run, Ac.out] using ihe Ω s r w k
    · simpa [Ac.run, Ac.out] using iht Ω s r w k
  | get h g ih =>
    intro Ω s r w k
    simp only [Ac.run, Ac.out]
    cases hs : s h with
    | none => simp
    | some e =>
      simp only []
      rw [ih e Ω s (h :: r) w k, ih e _ s [h] [] _]
      cases hg : (g e).out s with
      | none => simp
      | some x => simp
  | put h e g ih =>
    intro Ω s r w k
    simp only [Ac.run, Ac.out]
    rw [ih Ω (s.upd h e) r (h :: w) k, ih _ (s.upd h e) [] [h] _]
    cases hg : g.out (s.upd h e) with
    | none => simp
    | some x => simp

theorem Ac.run_out {α Ω : Type} (x : Ac α) (s : LW) (r w : List Nat) (k : α → LW → List Nat → List Nat → Option Ω) :
    x.run s r w k = (x.out s).bind fun p => k p.1 p.2.1 (p.2.2.1 ++ r) (p.2.2.2 ++ w) := x.run_out' Ω s r w k

@[simp] theorem Ac.out_ret {α : Type} (a : α) (s : LW) : (Ac.ret a).out s = some (a, s, [], []) := rfl
@[simp] theorem Ac.out_stuck {α : Type} (s : LW) : (Ac.stuck : Ac α).out s = none := rfl
@[simp] theorem Ac.out_br {α : Type} (b : Bool) (t e : Ac α) (s : LW) : (Ac.br b t e).out s = if b then t.out s else e.out s := by cases b <;> rfl
theorem Ac.out_get {α : Type} (h : Nat) (g : Entry → Ac α) (s : LW) : (Ac.get h g).out s = match s h with
    | some e => ((g e).out s).map fun p => (p.1, p.2.1, p.2.2.1 ++ [h], p.2.2.2)
    | none => none := by
  conv => lhs; simp only [Ac.out, Ac.run]
  cases hs : s h with
  | none => rfl
  | some e =>
    simp only []
    rw [Ac.run_out]
    cases hg : (g e).out s <;> simp
theorem Ac.out_put {α : Type} (h : Nat) (e : Option Entry) (g : Ac α) (s : LW) : (Ac.put h e g).out s = (g.out (s.upd h e)).map fun p => (p.1, p.2.1, p.2.2.1, p.2.2.2 ++ [h]) := by
  have hu : (Ac.put h e g).out s = g.run (s.upd h e) [] [h] (fun a s r w => some (a, s, r, w)) := rfl
  rw [hu]
  rw [Ac.run_out]
  cases hg : g.out (s.upd h e) <;> simp
theorem Ac.out_bind {α β : Type} (x : Ac α) (f : α → Ac β) : ∀ s, (x.bind f).out s = (x.out s).bind fun p => ((f p.1).out p.2.1).map fun q => (q.1, q.2.1, q.2.2.1 ++ p.2.2.1, q.2.2.2 ++ p.2.2.2) := by
  induction x with
  | ret a => intro s; simp [Ac.bind]
  | stuck => intro s; simp [Ac.bind]
  | br b t e iht ihe => intro s; cases b <;> simp [Ac.bind, iht, ihe]
  | get h g ih =>
    intro s
    simp only [Ac.bind, Ac.out_get]
    cases hs : s h with
    | none => simp
    | some e =>
      simp only [ih]
      cases hg : (g e).out s with
      | none => simp
      | some x =>
        simp only [Option.bind_some, Option.map_some]
        cases hf : (f x.1).out x.2.1 <;> simp
  | put h e g ih =>
    intro s
    simp only [Ac.bind, Ac.out_put, ih]
    cases hg : g.out (s.upd h e) with
    | none => simp
    | some x =>
      simp only [Option.bind_some, Option.map_some]
      cases hf : (f x.1).out x.2.1 <;> simp

/-! ## an action looks only at its footprint -/
def Agree (xs : List Nat) (s t : LW) : Prop := ∀ h ∈ xs, s h = t h

/-- what an outcome at s says about an outcome at t -/
structure Same {α : Type} (f : LW → Res α) (s : LW) (a : α) (s' : LW) (r w : List Nat) : Prop where
  kept : ∀ h, h ∉ w → s' h = s h
  there : ∀ t, Agree r s t → Agree w s t → ∃ t', f t = some (a, t', r, w) ∧ Agree w s' t' ∧ (∀ h, h ∉ w → t' h = t h)

theorem upd_same (s : LW) (h : Nat) (e : Option Entry) : s.upd h e h = e := by
  have : Nat.beq h h = true := Nat.beq_refl h
  simp [LW.upd, this]
theorem upd_other (s : LW) {h i : Nat} (e : Option Entry) (hi : i ≠ h) : s.upd h e i = s i := by
  have : Nat.beq i h = false := by
    cases hb : Nat.beq i h with
    | false => rfl
    | true => exact (hi (Nat.eq_of_beq_eq_true hb)).elim
  simp [LW.upd, this]

theorem Ac.same {α : Type} (x : Ac α) : ∀ (s : LW) (a : α) (s' : LW) (r w : List Nat), x.out s = some (a, s', r, w) → Same x.out s a s' r w := by
  induction x with
  | ret a =>
    intro s b s' r w h
    simp at h
    obtain ⟨rfl, rfl, rfl, rfl⟩ := h
    exact ⟨fun _ _ => rfl, fun t _ _ => ⟨t, rfl, fun _ h => by simp at h, fun _ _ => rfl⟩⟩
  | stuck => intro s b s' r w h; simp at h
  | br b t e iht ihe =>
    intro s c s' r w h
    cases b
    · simp at h; have := ihe _ _ _ _ _ h
      exact ⟨this.kept, fun t h1 h2 => by simpa using this.there t h1 h2⟩
    · simp at h; have := iht _ _ _ _ _ h
      exact ⟨this.kept, fun t h1 h2 => by simpa using this.there t h1 h2⟩
  | get i g ih =>
    intro s c s' r w h
    rw [Ac.out_get] at h
    cases hs : s i with
    | none => simp [hs] at h
    | some e =>
      simp only [hs] at h
      cases hg : (g e).out s with
      | none => simp [hg] at h
      | some x =>
        obtain ⟨a1, s1, r1, w1⟩ := x
        simp [hg] at h
        obtain ⟨rfl, rfl, rfl, rfl⟩ := h
        have := ih e s _ _ _ _ hg
        refine ⟨this.kept, fun t h1 h2 => ?_⟩
        obtain ⟨t', e1, e2, e3⟩ := this.there t (fun h hh => h1 h (by simp [hh])) h2
        refine ⟨t', ?_, e2, e3⟩
        rw [Ac.out_get, ← h1 i (by simp), hs]
        simp [e1]
  | put i e g ih =>
    intro s c s' r w h
    rw [Ac.out_put] at h
    cases hg : g.out (s.upd i e) with
    | none => simp [hg] at h
    | some x =>
      obtain ⟨a1, s1, r1, w1⟩ := x
      simp [hg] at h
      obtain ⟨rfl, rfl, rfl, rfl⟩ := h
      have := ih _ _ _ _ _ hg
      refine ⟨fun h hh => ?_, fun t h1 h2 => ?_⟩
      · simp at hh
        rw [this.kept h hh.1, upd_other _ _ hh.2]
      · have hag : ∀ h, (h ∈ r1 ∨ h ∈ w1) → s.upd i e h = t.upd i e h := fun h hh => by
          by_cases hi : h = i
          · subst hi; rw [upd_same, upd_same]
          · rw [upd_other _ _ hi, upd_other _ _ hi]
            rcases hh with hh | hh
            · exact h1 h hh
            · exact h2 h (by simp [hh])
        obtain ⟨t', e1, e2, e3⟩ := this.there (t.upd i e) (fun h hh => hag h (.inl hh)) (fun h hh => hag h (.inr hh))
        refine ⟨t', by rw [Ac.out_put, e1]; rfl, fun h hh => ?_, fun h hh => ?_⟩
        · simp at hh
          by_cases hw : h ∈ w1
          · exact e2 h hw
          · have hi : h = i := hh.resolve_left hw
            subst hi
            rw [this.kept h hw, e3 h hw, upd_same, upd_same]
        · simp at hh
          rw [e3 h hh.1, upd_other _ _ hh.2]

end Go.Ev

namespace Go.Ev

abbrev CallP := ∀ (Ω : Type), CallF Ω
def callOut (call : CallP) (f : FuncId) (args : List V1) (s : LW) (n : Nat) : Res (LV × Nat) :=
  call _ f args s n [] [] fun v s n r w => some ((v, n), s, r, w)

/-- a callee's behaviour does not hang on what follows -/
def CallNat (call : CallP) : Prop := ∀ (Ω : Type) f args s n r w (k : LV → LW → Nat → List Nat → List Nat → Option Ω),
  call Ω f args s n r w k = (callOut call f args s n).bind fun p => k p.1.1 p.2.1 p.1.2 (p.2.2.1 ++ r) (p.2.2.2 ++ w)
def CallLoc (call : CallP) : Prop := ∀ f args s n x s' r w, callOut call f args s n = some (x, s', r, w) → Same (fun s => callOut call f args s n) s x s' r w

section
variable (P : Program) (gl : Nat → Option Nat) (call : CallP)

def execV (o : Oper) (a : LAct) (s : LW) (n : Nat) : Res (LV × Nat) :=
  ((evOp P gl a o n).out s).bind fun p => match p.1 with
    | .val v n' => some ((v, n'), p.2)
    | .skip => some ((undefL, n), p.2)
    | .call f args => (callOut call f args p.2.1 n).map fun q => (q.1, q.2.1, q.2.2.1 ++ p.2.2.1, q.2.2.2 ++ p.2.2.2)

def yieldL (ops : Array Oper) (a : LAct) (j : Nat) : Option Bool :=
  match guardSlot ops j with
  | none => none
  | some d => match a[d]? with
    | some (.o (.c (.v (.bool b)))) => some b
    | _ => none

def wantedL (ops : Array Oper) (o : Oper) (a : LAct) : Bool :=
  match o.guard with
  | none => true
  | some (j, want) => yieldL ops a j == some want

def stepV (ops : Array Oper) (o : Oper) (a : LAct) (s : LW) (n : Nat) : Res (LV × Nat) :=
  match wantedL ops o a with
  | true => execV P gl call o a s n
  | false => some ((undefL, n), s, [], [])

variable {P gl call}

theorem set_same {α : Type} {l : List α} {d : Nat} {x : α} (h : l[d]? = some x) : l.set d x = l := by
  obtain ⟨hd, rfl⟩ := List.getElem?_eq_some_iff.1 h
  exact List.set_getElem_self hd

theorem execL_nat (hc : CallNat call) {Ω : Type} (o : Oper) (a : LAct) (s : LW) (n : Nat) (r w : List Nat) (k : K Ω) :
    execL P gl (call Ω) o a s n r w k = (execV P gl call o a s n).bind fun p => k (putL a o.dst p.1.1) p.2.1 p.1.2 (p.2.2.1 ++ r) (p.2.2.2 ++ w) := by
  unfold execL execV
  simp only [putK_eq, evOpF_eq]
  rw [Ac.run_out]
  cases h : (evOp P gl a o n).out s with
  | none => simp
  | some p =>
    obtain ⟨out, s', r', w'⟩ := p
    simp only [Option.bind_some]
    cases out with
    | val v n' => simp
    | skip => simp
    | call f args =>
      simp only []
      rw [hc]
      cases callOut call f args s' n <;> simp

theorem stepOp_nat (hc : CallNat call) {Ω : Type} (ops : Array Oper) (o : Oper) (a : LAct) (s : LW) (n : Nat) (r w : List Nat) (k : K Ω) :
    stepOp P gl (call Ω) ops o a s n r w k = (stepV P gl call ops o a s n).bind fun p => k (putL a o.dst p.1.1) p.2.1 p.1.2 (p.2.2.1 ++ r) (p.2.2.2 ++ w) := by
  unfold stepOp stepV wantedL
  simp only [putK_eq, setK_eq]
  cases hg : o.guard with
  | none => simp [execL_nat hc]
  | some g =>
    obtain ⟨j, want⟩ := g
    simp only [yieldL]
    cases hd : guardSlot ops j with
    | none => simp
    | some d =>
      simp only []
      cases ha : a[d]? with
      | none => simp
      | some x =>
        split
        · rename_i b hb
          simp only [Option.some.injEq] at hb
          subst hb
          cases b <;> cases want <;> simp [set_same ha, execL_nat hc]
        · simp

theorem execV_same (hl : CallLoc call) {o : Oper} {a : LAct} {s : LW} {n : Nat} {x : LV × Nat} {s' : LW} {r w : List Nat}
    (h : execV P gl call o a s n = some (x, s', r, w)) : Same (fun s => execV P gl call o a s n) s x s' r w := by
  unfold execV at h ⊢
  cases hp : (evOp P gl a o n).out s with
  | none => simp [hp] at h
  | some p =>
    obtain ⟨out, s1, r1, w1⟩ := p
    have h1 := Ac.same _ _ _ _ _ _ hp
    simp only [hp, Option.bind_some] at h
    cases out with
    | val v n' =>
      simp at h
      obtain ⟨rfl, rfl, rfl, rfl⟩ := h
      refine ⟨h1.kept, fun t g1 g2 => ?_⟩
      obtain ⟨t', e1, e2, e3⟩ := h1.there t g1 g2
      exact ⟨t', by simp [e1], e2, e3⟩
    | skip =>
      simp at h
      obtain ⟨rfl, rfl, rfl, rfl⟩ := h
      refine ⟨h1.kept, fun t g1 g2 => ?_⟩
      obtain ⟨t', e1, e2, e3⟩ := h1.there t g1 g2
      exact ⟨t', by simp [e1], e2, e3⟩
    | call f args =>
      simp only [] at h
      cases hq : callOut call f args s1 n with
      | none => simp [hq] at h
      | some q =>
        obtain ⟨y, s2, r2, w2⟩ := q
        simp [hq] at h
        obtain ⟨rfl, rfl, rfl, rfl⟩ := h
        have h2 := hl _ _ _ _ _ _ _ _ hq
        refine ⟨fun i hi => ?_, fun t g1 g2 => ?_⟩
        · simp at hi
          rw [h2.kept i hi.1, h1.kept i hi.2]
        · obtain ⟨t1, e1, e2, e3⟩ := h1.there t (fun i hi => g1 i (by simp [hi])) (fun i hi => g2 i (by simp [hi]))
          have ag : ∀ i, (i ∈ r2 ∨ i ∈ w2) → s1 i = t1 i := fun i hi => by
            by_cases hw : i ∈ w1
            · exact e2 i hw
            · rw [h1.kept i hw, e3 i hw]
              rcases hi with hi | hi
              · exact g1 i (by simp [hi])
              · exact g2 i (by simp [hi])
          obtain ⟨t2, f1, f2, f3⟩ := h2.there t1 (fun i hi => ag i (.inl hi)) (fun i hi => ag i (.inr hi))
          refine ⟨t2, by simp [e1, f1], fun i hi => ?_, fun i hi => ?_⟩
          · simp at hi
            by_cases hw : i ∈ w2
            · exact f2 i hw
            · have hi1 : i ∈ w1 := hi.resolve_left hw
              rw [h2.kept i hw, f3 i hw, e2 i hi1]
          · simp at hi
            rw [f3 i hi.1, e3 i hi.2]

theorem stepV_same (hl : CallLoc call) {ops : Array Oper} {o : Oper} {a : LAct} {s : LW} {n : Nat} {x : LV × Nat} {s' : LW} {r w : List Nat}
    (h : stepV P gl call ops o a s n = some (x, s', r, w)) : Same (fun s => stepV P gl call ops o a s n) s x s' r w := by
  unfold stepV at h ⊢
  cases hw : wantedL ops o a with
  | true =>
    simp only [hw] at h ⊢
    exact execV_same hl h
  | false =>
    simp [hw] at h
    obtain ⟨rfl, rfl, rfl, rfl⟩ := h
    simp only []
    exact ⟨fun _ _ => rfl, fun t _ _ => ⟨t, rfl, fun _ h => by simp at h, fun _ _ => rfl⟩⟩

/-! ## an operation looks only at its operands -/
theorem partsL_congr {a b : LAct} : ∀ (l : List (Nat × Operand)), (∀ x ∈ l.map (·.2), evalL gl a x = evalL gl b x) → partsL gl a l = partsL gl b l
  | [], _ => rfl
  | (i, x) :: rest, h => by
    simp only [partsL]
    rw [h x (by simp), partsL_congr rest (fun y hy => h y (by simp at hy ⊢; exact .inr hy))]

theorem map_eval_congr {a b : LAct} {l : List Operand} (h : ∀ x ∈ l, evalL gl a x = evalL gl b x) : l.map (evalL gl a) = l.map (evalL gl b) := List.map_congr_left h

theorem evOp_congr {a b : LAct} (o : Oper) (n : Nat) (h : ∀ x ∈ o.op.operands, evalL gl a x = evalL gl b x) : evOp P gl a o n = evOp P gl b o n := by
  unfold evOp
  cases ho : o.op <;> simp only [ho, Op.operands] at h ⊢
  case move x => rw [h x (by simp)]
  case assign x => rw [h x (by simp)]
  case pick c x y => rw [h c (by simp), h x (by simp), h y (by simp)]
  case box t x => rw [h x (by simp)]
  case build t ps => rw [partsL_congr ps.toList (by simpa using h)]
  case buildSlice t len ps => rw [partsL_congr ps.toList (by simpa using h)]
  case load t x => rw [h x (by simp)]
  case store t x y => rw [h x (by simp), h y (by simp)]
  case nilCheck x => rw [h x (by simp)]
  case binOp op t x y u => rw [h x (by simp), h y (by simp)]
  case unOp op t x => rw [h x (by simp)]
  case convert s d x => rw [h x (by simp)]
  case makeFunc fn first captured =>
    have : captured.toList.map (evalL gl a) = captured.toList.map (evalL gl b) := map_eval_congr fun x hx => h x (by simp at hx ⊢; exact .inr hx)
    cases fn <;> simp [this]
  case makeMap t r => cases r <;> rfl
  case makeSlice t l c => rw [h l (by simp), h c (by simp)]
  case slice t x lo hi mx =>
    cases mx with
    | none => cases lo <;> cases hi <;> simp at h ⊢ <;> simp [h]
    | some m => cases lo <;> cases hi <;> simp at h ⊢ <;> simp [h]
  case fieldAddr s x f => rw [h x (by simp)]
  case field s x f => rw [h x (by simp)]
  case indexAddr t x i => rw [h x (by simp), h i (by simp)]
  case index t x i => rw [h x (by simp), h i (by simp)]
  case lookup t x i ok => rw [h x (by simp), h i (by simp)]
  case mapUpdate t m k x => rw [h m (by simp), h k (by simp), h x (by simp)]
  case insert t m k x => rw [h m (by simp), h k (by simp), h x (by simp)]
  case extract t i => rw [h t (by simp)]
  case call c =>
    have hargs : c.args.toList.map (evalL gl a) = c.args.toList.map (evalL gl b) := map_eval_congr fun x hx => h x (by simp [Call.operands]; exact .inr (by simpa using hx))
    rw [hargs]
    cases hcal : c.callee with
    | value f => simp [h f (by simp [Call.operands, hcal])]
    | invoke r m => rfl
    | builtin b' => rfl

theorem stepV_congr {ops : Array Oper} {o : Oper} {a b : LAct} (s : LW) (n : Nat)
    (h : ∀ t ∈ o.looksAt ops, a[t]? = b[t]?) : stepV P gl call ops o a s n = stepV P gl call ops o b s n := by
  have he : ∀ x ∈ o.op.operands, evalL gl a x = evalL gl b x := by
    intro x hx
    cases x with
    | tmp t =>
      have : a[t]? = b[t]? := h t (by
        unfold Oper.looksAt
        refine List.mem_append.2 (.inl (List.mem_filterMap.2 ⟨.tmp t, by simpa using hx, rfl⟩)))
      simp [evalL, List.getD_eq_getElem?_getD, this]
    | const v => rfl
    | global g => rfl
    | func f => rfl
  have hw : wantedL ops o a = wantedL ops o b := by
    unfold wantedL
    cases hg : o.guard with
    | none => rfl
    | some g =>
      obtain ⟨j, want⟩ := g
      simp only [yieldL]
      cases hd : guardSlot ops j with
      | none => rfl
      | some d =>
        have : a[d]? = b[d]? := h d (by
          unfold Oper.looksAt
          refine List.mem_append.2 (.inr ?_)
          rw [hg]
          unfold guardSlot at hd
          cases hj : ops[j]? with
          | none => simp [hj] at hd
          | some oj => simp [hj] at hd ⊢; exact hd)
        simp [this]
  unfold stepV execV
  rw [hw, evOp_congr o n he]

end
end Go.Ev

namespace Go.Ev

section
variable (P : Program) (gl : Nat → Option Nat) (T : FuncId → Option Prim)

/-- the callee's evaluator, for every answer type -/
def callP (fuel : Nat) : CallP := fun Ω => callL P T (evCode (Ω := Ω) P gl T fuel)

def seqOut (call : CallP) (ops : Array Oper) (l : List Oper) (a : LAct) (s : LW) (n : Nat) : Res (LAct × Nat) :=
  evSeq P gl (call _) ops l (fun a s n r w => some ((a, n), s, r, w)) a s n [] []

def drawOut (call : CallP) (ops : Array Oper) (l : List Oper) (fps : List (List Nat × List Nat)) (a : LAct) (s : LW) (n : Nat) : Res (LAct × Nat) :=
  evDraw P gl (call _) ops l fps [] [] (fun a s n r w => some ((a, n), s, r, w)) a s n

def codeOut (fuel : Nat) (c : Code) (a : LAct) (s : LW) (n : Nat) : Res (LExit × LAct × Nat) :=
  evCode P gl T fuel c a s n [] [] fun e a s n r w => some ((e, a, n), s, r, w)

variable {P gl T}

theorem evSeq_nat {call : CallP} (hc : CallNat call) {Ω : Type} (ops : Array Oper) : ∀ (l : List Oper) (k : K Ω) (a : LAct) (s : LW) (n : Nat) (r w : List Nat),
    evSeq P gl (call Ω) ops l k a s n r w = (seqOut P gl call ops l a s n).bind fun p => k p.1.1 p.2.1 p.1.2 (p.2.2.1 ++ r) (p.2.2.2 ++ w) := by
  suffices H : ∀ (l : List Oper) (Ω : Type) (k : K Ω) (a : LAct) (s : LW) (n : Nat) (r w : List Nat),
      evSeq P gl (call Ω) ops l k a s n r w = (seqOut P gl call ops l a s n).bind fun p => k p.1.1 p.2.1 p.1.2 (p.2.2.1 ++ r) (p.2.2.2 ++ w) from fun l k a s n r w => H l Ω k a s n r w
  intro l
  induction l with
  | nil => intro Ω k a s n r w; simp [evSeq, seqOut]
  | cons o rest ih =>
    intro Ω k a s n r w
    have h0 : seqOut P gl call ops (o :: rest) a s n = stepOp P gl (call _) ops o a s n [] [] (evSeq P gl (call _) ops rest (fun a s n r w => some ((a, n), s, r, w))) := rfl
    rw [h0]
    simp only [evSeq]
    rw [stepOp_nat hc, stepOp_nat hc]
    cases stepV P gl call ops o a s n with
    | none => simp
    | some p =>
      simp only [Option.bind_some]
      rw [ih, ih]
      cases seqOut P gl call ops rest (putL a o.dst p.1.1) p.2.1 p.1.2 <;> simp

theorem seqOut_cons {call : CallP} (hc : CallNat call) (ops : Array Oper) (o : Oper) (rest : List Oper) (a : LAct) (s : LW) (n : Nat) :
    seqOut P gl call ops (o :: rest) a s n = (stepV P gl call ops o a s n).bind fun p =>
      (seqOut P gl call ops rest (putL a o.dst p.1.1) p.2.1 p.1.2).map fun q => (q.1, q.2.1, q.2.2.1 ++ p.2.2.1, q.2.2.2 ++ p.2.2.2) := by
  have h0 : seqOut P gl call ops (o :: rest) a s n = stepOp P gl (call _) ops o a s n [] [] (evSeq P gl (call _) ops rest (fun a s n r w => some ((a, n), s, r, w))) := rfl
  rw [h0, stepOp_nat hc]
  cases stepV P gl call ops o a s n with
  | none => simp
  | some p =>
    simp only [Option.bind_some]
    rw [evSeq_nat hc]
    cases seqOut P gl call ops rest (putL a o.dst p.1.1) p.2.1 p.1.2 <;> simp

theorem evDraw_nat {call : CallP} (hc : CallNat call) (ops : Array Oper) : ∀ (l : List Oper) (Ω : Type) (fps : List (List Nat × List Nat)) (r w : List Nat) (k : K Ω) (a : LAct) (s : LW) (n : Nat),
    evDraw P gl (call Ω) ops l fps r w k a s n = (drawOut P gl call ops l fps a s n).bind fun p => k p.1.1 p.2.1 p.1.2 (p.2.2.1 ++ r) (p.2.2.2 ++ w) := by
  intro l
  induction l with
  | nil => intro Ω fps r w k a s n; simp only [evDraw, drawOut]; split <;> simp
  | cons o rest ih =>
    intro Ω fps r w k a s n
    have h0 : drawOut P gl call ops (o :: rest) fps a s n = stepOp P gl (call _) ops o a s n [] [] fun a s n r' w' => evDraw P gl (call _) ops rest (fps ++ [(r', w')]) (r' ++ []) (w' ++ []) (fun a s n r w => some ((a, n), s, r, w)) a s n := by
      simp only [drawOut, evDraw, appK_eq]
    rw [h0]
    simp only [evDraw, appK_eq]
    rw [stepOp_nat hc, stepOp_nat hc]
    cases stepV P gl call ops o a s n with
    | none => simp
    | some p =>
      simp only [Option.bind_some]
      rw [ih, ih]
      cases drawOut P gl call ops rest (fps ++ [(p.2.2.1 ++ [], p.2.2.2 ++ [])]) (putL a o.dst p.1.1) p.2.1 p.1.2 <;> simp

theorem drawOut_cons {call : CallP} (hc : CallNat call) (ops : Array Oper) (o : Oper) (rest : List Oper) (fps : List (List Nat × List Nat)) (a : LAct) (s : LW) (n : Nat) :
    drawOut P gl call ops (o :: rest) fps a s n = (stepV P gl call ops o a s n).bind fun p =>
      (drawOut P gl call ops rest (fps ++ [(p.2.2.1, p.2.2.2)]) (putL a o.dst p.1.1) p.2.1 p.1.2).map fun q => (q.1, q.2.1, q.2.2.1 ++ p.2.2.1, q.2.2.2 ++ p.2.2.2) := by
  have h0 : drawOut P gl call ops (o :: rest) fps a s n = stepOp P gl (call _) ops o a s n [] [] fun a s n r' w' => evDraw P gl (call _) ops rest (fps ++ [(r', w')]) (r' ++ []) (w' ++ []) (fun a s n r w => some ((a, n), s, r, w)) a s n := by
    simp only [drawOut, evDraw, appK_eq]
  rw [h0, stepOp_nat hc]
  cases stepV P gl call ops o a s n with
  | none => simp
  | some p =>
    simp only [Option.bind_some]
    rw [evDraw_nat hc]
    simp only [List.append_nil]
    cases drawOut P gl call ops rest (fps ++ [(p.2.2.1, p.2.2.2)]) (putL a o.dst p.1.1) p.2.1 p.1.2 <;> simp

theorem callL_nat {ev : ∀ Ω : Type, Code → LAct → LW → Nat → List Nat → List Nat → (LExit → K Ω) → Option Ω}
    {evO : Code → LAct → LW → Nat → Res (LExit × LAct × Nat)}
    (hev : ∀ Ω c a s n r w k, ev Ω c a s n r w k = (evO c a s n).bind fun p => k p.1.1 p.1.2.1 p.2.1 p.1.2.2 (p.2.2.1 ++ r) (p.2.2.2 ++ w)) :
    CallNat fun Ω => callL P T (ev Ω) := by
  intro Ω f args s n r w k
  cases hT : T f with
  | some g =>
    simp only [callOut, callL, hT]
    rw [Ac.run_out, Ac.run_out]
    cases (g args n).out s <;> simp
  | none =>
    cases hf : P.funcs[f]? with
    | none => simp [callOut, callL, hT, hf]
    | some fn =>
      cases hb : fn.body with
      | none => simp [callOut, callL, hT, hf, hb]
      | some c =>
        simp only [callOut, callL, hT, hf, hb]
        rw [hev, hev]
        cases evO c (args.map .o ++ List.replicate (fn.ntmps - args.length) undefL) s n with
        | none => simp
        | some p =>
          obtain ⟨⟨e, a', n'⟩, s', r', w'⟩ := p
          simp only [Option.bind_some]
          cases e with
          | exit id => simp
          | normal =>
            simp only []
            rw [Ac.run_out, Ac.run_out]
            cases (resultsL P fn a').out s' <;> simp
          | ret =>
            simp only []
            rw [Ac.run_out, Ac.run_out]
            cases (resultsL P fn a').out s' <;> simp

theorem evCode_nat : ∀ (fuel : Nat) (Ω : Type) (c : Code) (a : LAct) (s : LW) (n : Nat) (r w : List Nat) (k : LExit → K Ω),
    evCode P gl T fuel c a s n r w k = (codeOut P gl T fuel c a s n).bind fun p => k p.1.1 p.1.2.1 p.2.1 p.1.2.2 (p.2.2.1 ++ r) (p.2.2.2 ++ w) := by
  intro fuel
  induction fuel with
  | zero => intro Ω c a s n r w k; simp [evCode, codeOut]
  | succ fuel ih =>
    have hcall : CallNat (callP P gl T fuel) := callL_nat (ev := fun Ω => evCode P gl T fuel) (evO := codeOut P gl T fuel) ih
    intro Ω c a s n r w k
    cases c with
    | skip => simp [evCode, codeOut]
    | region id ops draw =>
      cases draw with
      | false =>
        have h1 := evSeq_nat (P := P) (gl := gl) hcall ops ops.toList (k .normal) a s n r w
        have h2 := evSeq_nat (P := P) (gl := gl) hcall ops ops.toList (fun a s n r w => some ((LExit.normal, a, n), s, r, w)) a s n [] []
        simp only [codeOut, evCode]
        change evSeq P gl (callP P gl T fuel Ω) ops ops.toList (k .normal) a s n r w = (evSeq P gl (callP P gl T fuel _) ops ops.toList _ a s n [] []).bind _
        rw [h1, h2]
        cases seqOut P gl (callP P gl T fuel) ops ops.toList a s n <;> simp
      | true =>
        have h1 := evDraw_nat (P := P) (gl := gl) hcall ops ops.toList Ω [] r w (k .normal) a s n
        have h2 := evDraw_nat (P := P) (gl := gl) hcall ops ops.toList _ [] [] [] (fun a s n r w => some ((LExit.normal, a, n), s, r, w)) a s n
        simp only [codeOut, evCode]
        change evDraw P gl (callP P gl T fuel Ω) ops ops.toList [] r w (k .normal) a s n = (evDraw P gl (callP P gl T fuel _) ops ops.toList [] [] [] _ a s n).bind _
        rw [h1, h2]
        cases drawOut P gl (callP P gl T fuel) ops ops.toList [] a s n <;> simp
    | seq x y =>
      simp only [evCode, codeOut]
      rw [ih, ih _ x]
      cases codeOut P gl T fuel x a s n with
      | none => simp
      | some p =>
        obtain ⟨⟨e, a', n'⟩, s', r', w'⟩ := p
        simp only [Option.bind_some]
        cases e with
        | normal =>
          simp only []
          rw [ih, ih _ y]
          cases codeOut P gl T fuel y a' s' n' <;> simp
        | exit id => simp
        | ret => simp
    | cond c x y =>
      simp only [evCode, codeOut]
      split
      · rename_i b _
        cases b
        · simp only []; rw [ih, ih _ y]; cases codeOut P gl T fuel y a s n <;> simp
        · simp only []; rw [ih, ih _ x]; cases codeOut P gl T fuel x a s n <;> simp
      · simp
    | block id c =>
      simp only [evCode, codeOut]
      rw [ih, ih _ c]
      cases codeOut P gl T fuel c a s n with
      | none => simp
      | some p =>
        obtain ⟨⟨e, a', n'⟩, s', r', w'⟩ := p
        simp only [Option.bind_some]
        cases e with
        | exit id' => simp only []; split <;> simp
        | normal => simp
        | ret => simp
    | loop c =>
      simp only [evCode, codeOut]
      rw [ih, ih _ c]
      cases codeOut P gl T fuel c a s n with
      | none => simp
      | some p =>
        obtain ⟨⟨e, a', n'⟩, s', r', w'⟩ := p
        simp only [Option.bind_some]
        cases e with
        | normal =>
          simp only []
          rw [ih, ih _ (.loop c)]
          cases codeOut P gl T fuel (.loop c) a' s' n' <;> simp
        | exit id => simp
        | ret => simp
    | exit id => simp [evCode, codeOut]
    | ret => simp [evCode, codeOut]
    | rangeFunc _ _ _ _ => simp [evCode, codeOut]
    | scope _ => simp [evCode, codeOut]
    | label _ => simp [evCode, codeOut]
    | goto _ => simp [evCode, codeOut]
    | refuse _ => simp [evCode, codeOut]

theorem callP_nat (fuel : Nat) : CallNat (callP P gl T fuel) := callL_nat (ev := fun Ω => evCode P gl T fuel) (evO := codeOut P gl T fuel) (evCode_nat fuel)

end
end Go.Ev

namespace Go.Ev

theorem Same.bind {α β : Type} {f : LW → Res α} {g : α → LW → Res β} {s s1 s2 : LW} {a : α} {b : β} {r1 w1 r2 w2 : List Nat}
    (h1 : Same f s a s1 r1 w1) (h2 : Same (g a) s1 b s2 r2 w2) :
    Same (fun s => (f s).bind fun p => (g p.1 p.2.1).map fun q => (q.1, q.2.1, q.2.2.1 ++ p.2.2.1, q.2.2.2 ++ p.2.2.2)) s b s2 (r2 ++ r1) (w2 ++ w1) := by
  refine ⟨fun i hi => ?_, fun t g1 g2 => ?_⟩
  · simp at hi
    rw [h2.kept i hi.1, h1.kept i hi.2]
  · obtain ⟨t1, e1, e2, e3⟩ := h1.there t (fun i hi => g1 i (by simp [hi])) (fun i hi => g2 i (by simp [hi]))
    have ag : ∀ i, (i ∈ r2 ∨ i ∈ w2) → s1 i = t1 i := fun i hi => by
      by_cases hw : i ∈ w1
      · exact e2 i hw
      · rw [h1.kept i hw, e3 i hw]
        rcases hi with hi | hi
        · exact g1 i (by simp [hi])
        · exact g2 i (by simp [hi])
    obtain ⟨t2, f1, f2, f3⟩ := h2.there t1 (fun i hi => ag i (.inl hi)) (fun i hi => ag i (.inr hi))
    refine ⟨t2, by simp [e1, f1], fun i hi => ?_, fun i hi => ?_⟩
    · simp at hi
      by_cases hw : i ∈ w2
      · exact f2 i hw
      · have hi1 : i ∈ w1 := hi.resolve_left hw
        rw [h2.kept i hw, f3 i hw, e2 i hi1]
    · simp at hi
      rw [f3 i hi.1, e3 i hi.2]

theorem Same.map {α β : Type} {f : LW → Res α} {s s1 : LW} {a : α} {r w : List Nat} (h : Same f s a s1 r w) (g : α → β) :
    Same (fun s => (f s).map fun p => (g p.1, p.2)) s (g a) s1 r w :=
  ⟨h.kept, fun t g1 g2 => let ⟨t', e1, e2, e3⟩ := h.there t g1 g2; ⟨t', by simp [e1], e2, e3⟩⟩

theorem Same.congr {α : Type} {f g : LW → Res α} {s s1 : LW} {a : α} {r w : List Nat} (h : Same f s a s1 r w) (hg : ∀ s, g s = f s) : Same g s a s1 r w :=
  ⟨h.kept, fun t g1 g2 => let ⟨t', e1, e2, e3⟩ := h.there t g1 g2; ⟨t', by rw [hg]; exact e1, e2, e3⟩⟩

theorem Same.pure {α : Type} (a : α) (s : LW) : Same (fun s => (some (a, s, [], []) : Res α)) s a s [] [] :=
  ⟨fun _ _ => rfl, fun t _ _ => ⟨t, rfl, fun _ h => by simp at h, fun _ _ => rfl⟩⟩

/-- one after another -/
def andThen {α β : Type} (f : LW → Res α) (g : α → LW → Res β) : LW → Res β :=
  fun s => (f s).bind fun p => (g p.1 p.2.1).map fun q => (q.1, q.2.1, q.2.2.1 ++ p.2.2.1, q.2.2.2 ++ p.2.2.2)

def Loc {α : Type} (f : LW → Res α) : Prop := ∀ s a s' r w, f s = some (a, s', r, w) → Same f s a s' r w

theorem Loc.andThen {α β : Type} {f : LW → Res α} {g : α → LW → Res β} (hf : Loc f) (hg : ∀ a, Loc (g a)) : Loc (andThen f g) := by
  intro s b s2 r w h
  unfold Ev.andThen at h
  cases h1 : f s with
  | none => simp [h1] at h
  | some p =>
    obtain ⟨a, s1, r1, w1⟩ := p
    cases h2 : g a s1 with
    | none => simp [h1, h2] at h
    | some q =>
      obtain ⟨b', s2', r2, w2⟩ := q
      simp [h1, h2] at h
      obtain ⟨rfl, rfl, rfl, rfl⟩ := h
      exact (hf _ _ _ _ _ h1).bind (hg _ _ _ _ _ _ h2)

theorem Loc.congr {α : Type} {f g : LW → Res α} (h : Loc f) (e : ∀ s, g s = f s) : Loc g :=
  fun s a s' r w hs => (h s a s' r w (by rw [← e]; exact hs)).congr e

theorem Loc.pure {α : Type} (a : α) : Loc fun s => (some (a, s, [], []) : Res α) := by
  intro s b s' r w h
  simp at h
  obtain ⟨rfl, rfl, rfl, rfl⟩ := h
  exact Same.pure _ _
theorem Loc.none {α : Type} : Loc fun _ => (none : Res α) := fun _ _ _ _ _ h => by simp at h
theorem Loc.mapAc {α β : Type} (x : Ac α) (g : α → β) : Loc fun s => (x.out s).map fun q => (g q.1, q.2) := by
  intro s a s' r w hs
  cases hq : x.out s with
  | none => simp [hq] at hs
  | some q =>
    obtain ⟨v, s1, r1, w1⟩ := q
    simp [hq] at hs
    obtain ⟨rfl, rfl, rfl, rfl⟩ := hs
    exact (Ac.same _ _ _ _ _ _ hq).map g
theorem Loc.ac {α : Type} (x : Ac α) : Loc x.out := fun s a s' r w h => x.same s a s' r w h

section
variable {P : Program} {gl : Nat → Option Nat} {T : FuncId → Option Prim}

theorem callOut_eq (fuel : Nat) (f : FuncId) (args : List V1) (s : LW) (n : Nat) : callOut (callP P gl T fuel) f args s n =
    match T f with
    | some g => (g args n).out s
    | none => match P.funcs[f]? with
      | none => none
      | some fn => match fn.body with
        | none => none
        | some c => andThen (fun s => codeOut P gl T fuel c (args.map .o ++ List.replicate (fn.ntmps - args.length) undefL) s n)
            (fun x s => match x.1 with
              | .exit _ => none
              | _ => ((resultsL P fn x.2.1).out s).map fun q => ((q.1, x.2.2), q.2)) s := by
  cases hT : T f with
  | some g =>
    simp only [callOut, callP, callL, hT]
    rw [Ac.run_out]
    cases (g args n).out s <;> simp
  | none =>
    cases hf : P.funcs[f]? with
    | none => simp [callOut, callP, callL, hT, hf]
    | some fn =>
      cases hb : fn.body with
      | none => simp [callOut, callP, callL, hT, hf, hb]
      | some c =>
        simp only [callOut, callP, callL, hT, hf, hb, andThen]
        rw [evCode_nat]
        cases codeOut P gl T fuel c (args.map .o ++ List.replicate (fn.ntmps - args.length) undefL) s n with
        | none => simp
        | some p =>
          obtain ⟨⟨e, a', n'⟩, s', r', w'⟩ := p
          simp only [Option.bind_some]
          cases e with
          | exit id => simp
          | normal =>
            simp only []
            rw [Ac.run_out]
            cases (resultsL P fn a').out s' <;> simp
          | ret =>
            simp only []
            rw [Ac.run_out]
            cases (resultsL P fn a').out s' <;> simp

theorem callLoc_of {fuel : Nat} (h : ∀ c a n, Loc fun s => codeOut P gl T fuel c a s n) : CallLoc (callP P gl T fuel) := by
  intro f args s n x s' r w hs
  have key : Loc fun s => callOut (callP P gl T fuel) f args s n := by
    refine Loc.congr (f := fun s => _) ?_ (fun s => callOut_eq fuel f args s n)
    cases hT : T f with
    | some g => exact Loc.ac _
    | none =>
      simp only []
      cases hf : P.funcs[f]? with
      | none => exact Loc.none
      | some fn =>
        simp only []
        cases hb : fn.body with
        | none => exact Loc.none
        | some c =>
          simp only []
          refine Loc.andThen (h _ _ _) (fun x => ?_)
          cases x.1 with
          | exit id => exact Loc.none
          | normal => exact Loc.mapAc (resultsL P fn x.2.1) (fun v => (v, x.2.2))
          | ret => exact Loc.mapAc (resultsL P fn x.2.1) (fun v => (v, x.2.2))
  exact key s x s' r w hs

theorem stepV_loc {call : CallP} (hl : CallLoc call) (ops : Array Oper) (o : Oper) (a : LAct) (n : Nat) : Loc fun s => stepV P gl call ops o a s n :=
  fun _ _ _ _ _ h => stepV_same hl h

theorem seqOut_loc {call : CallP} (hc : CallNat call) (hl : CallLoc call) (ops : Array Oper) : ∀ (l : List Oper) (a : LAct) (n : Nat), Loc fun s => seqOut P gl call ops l a s n
  | [], a, n => Loc.pure (a, n)
  | o :: rest, a, n => by
    refine Loc.congr (Loc.andThen (stepV_loc (P := P) (gl := gl) hl ops o a n) (g := fun p s => seqOut P gl call ops rest (putL a o.dst p.1) s p.2) (fun p => seqOut_loc hc hl ops rest _ _)) (fun s => ?_)
    rw [seqOut_cons hc]; rfl

theorem drawOut_loc {call : CallP} (hc : CallNat call) (hl : CallLoc call) (ops : Array Oper) : ∀ (l : List Oper) (fps : List (List Nat × List Nat)) (a : LAct) (n : Nat), Loc fun s => drawOut P gl call ops l fps a s n
  | [], fps, a, n => by
    intro s x s' r w h
    simp only [drawOut, evDraw] at h
    split at h
    · rename_i hd
      simp at h
      obtain ⟨rfl, rfl, rfl, rfl⟩ := h
      exact (Same.pure (a, n) s).congr (fun s => by simp [drawOut, evDraw, hd])
    · simp at h
  | o :: rest, fps, a, n => by
    intro s x s' r w h
    have h : drawOut P gl call ops (o :: rest) fps a s n = some (x, s', r, w) := h
    rw [drawOut_cons hc] at h
    cases h1 : stepV P gl call ops o a s n with
    | none => simp [h1] at h
    | some p =>
      obtain ⟨⟨v, n1⟩, s1, r1, w1⟩ := p
      simp only [h1, Option.bind_some] at h
      cases h2 : drawOut P gl call ops rest (fps ++ [(r1, w1)]) (putL a o.dst v) s1 n1 with
      | none => simp [h2] at h
      | some q =>
        obtain ⟨y, s2, r2, w2⟩ := q
        simp [h2] at h
        obtain ⟨rfl, rfl, rfl, rfl⟩ := h
        have S1 := stepV_same hl h1
        have S2 := drawOut_loc hc hl ops rest (fps ++ [(r1, w1)]) (putL a o.dst v) n1 _ _ _ _ _ h2
        refine ⟨(S1.bind (g := fun p s => drawOut P gl call ops rest (fps ++ [(r1, w1)]) (putL a o.dst p.1) s p.2) S2).kept, fun t g1 g2 => ?_⟩
        obtain ⟨t1, e1, e2, e3⟩ := S1.there t (fun i hi => g1 i (by simp [hi])) (fun i hi => g2 i (by simp [hi]))
        obtain ⟨t', f1, f2, f3⟩ := (S1.bind (g := fun p s => drawOut P gl call ops rest (fps ++ [(r1, w1)]) (putL a o.dst p.1) s p.2) S2).there t g1 g2
        refine ⟨t', ?_, f2, f3⟩
        rw [drawOut_cons hc]
        simp only [e1, Option.bind_some] at f1 ⊢
        exact f1

theorem codeOut_loc : ∀ (fuel : Nat) (c : Code) (a : LAct) (n : Nat), Loc fun s => codeOut P gl T fuel c a s n := by
  intro fuel
  induction fuel with
  | zero => intro c a n; exact Loc.congr Loc.none (fun s => by simp [codeOut, evCode])
  | succ fuel ih =>
    have hc : CallNat (callP P gl T fuel) := callP_nat fuel
    have hl : CallLoc (callP P gl T fuel) := callLoc_of ih
    intro c a n
    cases c with
    | skip => exact Loc.congr (Loc.pure (LExit.normal, a, n)) (fun s => by simp [codeOut, evCode])
    | region id ops draw =>
      cases draw with
      | false =>
        refine Loc.congr (Loc.andThen (seqOut_loc (P := P) (gl := gl) hc hl ops ops.toList a n) (g := fun p s => some ((LExit.normal, p.1, p.2), s, [], [])) (fun p => Loc.pure _)) (fun s => ?_)
        simp only [codeOut, evCode, andThen]
        change evSeq P gl (callP P gl T fuel _) ops ops.toList _ a s n [] [] = _
        rw [evSeq_nat hc]
        cases seqOut P gl (callP P gl T fuel) ops ops.toList a s n <;> simp
      | true =>
        refine Loc.congr (Loc.andThen (drawOut_loc (P := P) (gl := gl) hc hl ops ops.toList [] a n) (g := fun p s => some ((LExit.normal, p.1, p.2), s, [], [])) (fun p => Loc.pure _)) (fun s => ?_)
        simp only [codeOut, evCode, andThen]
        change evDraw P gl (callP P gl T fuel _) ops ops.toList [] [] [] _ a s n = _
        rw [evDraw_nat hc]
        cases drawOut P gl (callP P gl T fuel) ops ops.toList [] a s n <;> simp
    | seq x y =>
      refine Loc.congr (Loc.andThen (ih x a n) (g := fun p s => match p.1 with
        | .normal => codeOut P gl T fuel y p.2.1 s p.2.2
        | e => some ((e, p.2.1, p.2.2), s, [], [])) (fun p => ?_)) (fun s => ?_)
      · cases p.1 with
        | normal => exact ih _ _ _
        | exit id => exact Loc.pure _
        | ret => exact Loc.pure _
      · simp only [codeOut, evCode, andThen]
        rw [evCode_nat fuel _ x]
        change (codeOut P gl T fuel x a s n).bind _ = (codeOut P gl T fuel x a s n).bind _
        cases codeOut P gl T fuel x a s n with
        | none => simp
        | some p =>
          obtain ⟨⟨e, a', n'⟩, s', r', w'⟩ := p
          simp only [Option.bind_some]
          cases e with
          | normal =>
            simp only []
            rw [evCode_nat]
            change (codeOut P gl T fuel y a' s' n').bind _ = (codeOut P gl T fuel y a' s' n').map _
            cases codeOut P gl T fuel y a' s' n' <;> simp
          | exit id => simp
          | ret => simp
    | cond c x y =>
      cases hev : evalL gl a c with
      | t vs => exact Loc.congr Loc.none (fun s => by simp [codeOut, evCode, hev])
      | o v =>
        cases v with
        | a cs => exact Loc.congr Loc.none (fun s => by simp [codeOut, evCode, hev])
        | c d =>
          cases d with
          | v u =>
            cases u with
            | bool b =>
              cases b
              · exact Loc.congr (ih y a n) (fun s => by simp [codeOut, evCode, hev])
              · exact Loc.congr (ih x a n) (fun s => by simp [codeOut, evCode, hev])
            | _ => exact Loc.congr Loc.none (fun s => by simp [codeOut, evCode, hev])
          | _ => exact Loc.congr Loc.none (fun s => by simp [codeOut, evCode, hev])
    | block id c =>
      refine Loc.congr (Loc.andThen (ih c a n) (g := fun p s => match p.1 with
        | .exit id' => if id' = id then some ((LExit.normal, p.2.1, p.2.2), s, [], []) else some ((.exit id', p.2.1, p.2.2), s, [], [])
        | e => some ((e, p.2.1, p.2.2), s, [], [])) (fun p => ?_)) (fun s => ?_)
      · cases p.1 with
        | normal => exact Loc.pure _
        | exit id' => simp only []; split <;> exact Loc.pure _
        | ret => exact Loc.pure _
      · simp only [codeOut, evCode, andThen]
        rw [evCode_nat fuel _ c]
        change (codeOut P gl T fuel c a s n).bind _ = (codeOut P gl T fuel c a s n).bind _
        cases codeOut P gl T fuel c a s n with
        | none => simp
        | some p =>
          obtain ⟨⟨e, a', n'⟩, s', r', w'⟩ := p
          simp only [Option.bind_some]
          cases e with
          | normal => simp
          | exit id => simp only []; split <;> simp
          | ret => simp
    | loop c =>
      refine Loc.congr (Loc.andThen (ih c a n) (g := fun p s => match p.1 with
        | .normal => codeOut P gl T fuel (.loop c) p.2.1 s p.2.2
        | e => some ((e, p.2.1, p.2.2), s, [], [])) (fun p => ?_)) (fun s => ?_)
      · cases p.1 with
        | normal => exact ih _ _ _
        | exit id => exact Loc.pure _
        | ret => exact Loc.pure _
      · simp only [codeOut, evCode, andThen]
        rw [evCode_nat fuel _ c]
        change (codeOut P gl T fuel c a s n).bind _ = (codeOut P gl T fuel c a s n).bind _
        cases codeOut P gl T fuel c a s n with
        | none => simp
        | some p =>
          obtain ⟨⟨e, a', n'⟩, s', r', w'⟩ := p
          simp only [Option.bind_some]
          cases e with
          | normal =>
            simp only []
            rw [evCode_nat]
            change (codeOut P gl T fuel (.loop c) a' s' n').bind _ = (codeOut P gl T fuel (.loop c) a' s' n').map _
            cases codeOut P gl T fuel (.loop c) a' s' n' <;> simp
          | exit id => simp
          | ret => simp
    | exit id => exact Loc.congr (Loc.pure (LExit.exit id, a, n)) (fun s => by simp [codeOut, evCode])
    | ret => exact Loc.congr (Loc.pure (LExit.ret, a, n)) (fun s => by simp [codeOut, evCode])
    | rangeFunc _ _ _ _ => exact Loc.congr Loc.none (fun s => by simp [codeOut, evCode])
    | scope _ => exact Loc.congr Loc.none (fun s => by simp [codeOut, evCode])
    | label _ => exact Loc.congr Loc.none (fun s => by simp [codeOut, evCode])
    | goto _ => exact Loc.congr Loc.none (fun s => by simp [codeOut, evCode])
    | refuse _ => exact Loc.congr Loc.none (fun s => by simp [codeOut, evCode])

theorem callP_loc (fuel : Nat) : CallLoc (callP P gl T fuel) := callLoc_of (codeOut_loc fuel)

end
end Go.Ev

namespace Go.Ev

/-! ## what the logical values and the logical memory mean -/
inductive All2 {α β : Type} (R : α → β → Prop) : List α → List β → Prop
  | nil : All2 R [] []
  | cons {x : α} {y : β} {xs : List α} {ys : List β} : R x y → All2 R xs ys → All2 R (x :: xs) (y :: ys)

section
variable {α β : Type} {R S : α → β → Prop}
theorem All2.length {xs : List α} {ys : List β} (h : All2 R xs ys) : xs.length = ys.length := by
  induction h with
  | nil => rfl
  | cons _ _ ih => simp [ih]
theorem All2.mono {xs : List α} {ys : List β} (h : All2 R xs ys) (hs : ∀ x y, R x y → S x y) : All2 S xs ys := by
  induction h with
  | nil => exact .nil
  | cons h1 _ ih => exact .cons (hs _ _ h1) ih
theorem All2.get {xs : List α} {ys : List β} (h : All2 R xs ys) : ∀ {i : Nat} {x : α}, xs[i]? = some x → ∃ y, ys[i]? = some y ∧ R x y := by
  induction h with
  | nil => intro i x hx; simp at hx
  | cons h1 _ ih =>
    intro i x hx
    cases i with
    | zero => simp at hx; subst hx; exact ⟨_, rfl, h1⟩
    | succ i => simpa using ih (by simpa using hx)
theorem All2.set {xs : List α} {ys : List β} (h : All2 R xs ys) (i : Nat) {x : α} {y : β} (hr : R x y) : All2 R (xs.set i x) (ys.set i y) := by
  induction h generalizing i with
  | nil => exact .nil
  | cons h1 h2 ih =>
    cases i with
    | zero => exact .cons hr h2
    | succ i => exact .cons h1 (ih i)
theorem All2.append {xs xs' : List α} {ys ys' : List β} (h : All2 R xs ys) (h' : All2 R xs' ys') : All2 R (xs ++ xs') (ys ++ ys') := by
  induction h with
  | nil => exact h'
  | cons h1 _ ih => exact .cons h1 ih
theorem All2.drop {xs : List α} {ys : List β} (h : All2 R xs ys) : ∀ n, All2 R (xs.drop n) (ys.drop n) := by
  induction h with
  | nil => intro n; simp; exact .nil
  | cons h1 h2 ih =>
    intro n
    cases n with
    | zero => exact .cons h1 h2
    | succ n => exact ih n
theorem All2.take {xs : List α} {ys : List β} (h : All2 R xs ys) : ∀ n, All2 R (xs.take n) (ys.take n) := by
  induction h with
  | nil => intro n; simp; exact .nil
  | cons h1 h2 ih =>
    intro n
    cases n with
    | zero => exact .nil
    | succ n => exact .cons h1 (ih n)
theorem All2.replicate (n : Nat) {x : α} {y : β} (h : R x y) : All2 R (List.replicate n x) (List.replicate n y) := by
  induction n with
  | zero => exact .nil
  | succ n ih => exact .cons h ih
theorem All2.map_left {γ : Type} {f : γ → α} {xs : List γ} {ys : List β} (h : All2 (fun x y => R (f x) y) xs ys) : All2 R (xs.map f) ys := by
  induction h with
  | nil => exact .nil
  | cons h1 _ ih => exact .cons h1 ih
theorem All2.of_map_left {γ : Type} {f : γ → α} : ∀ {xs : List γ} {ys : List β}, All2 R (xs.map f) ys → All2 (fun x y => R (f x) y) xs ys
  | [], _, h => by cases h; exact .nil
  | _ :: _, _, h => by cases h with | cons h1 h2 => exact .cons h1 h2.of_map_left
theorem All2.of_get {xs : List α} {ys : List β} (hl : xs.length = ys.length) (h : ∀ (i : Nat) x y, xs[i]? = some x → ys[i]? = some y → R x y) : All2 R xs ys := by
  induction xs generalizing ys with
  | nil => cases ys with | nil => exact .nil | cons _ _ => simp at hl
  | cons x xs ih =>
    cases ys with
    | nil => simp at hl
    | cons y ys => exact .cons (h 0 _ _ rfl rfl) (ih (by simpa using hl) (fun i a b ha hb => h (i + 1) a b (by simpa using ha) (by simpa using hb)))
end

structure HI where
  blk : Option Nat
  base : Nat
  cap : Nat
  sz : Nat
  len : Nat

abbrev Nu := Nat → Option HI
def Nu.le (ν ν' : Nu) : Prop := ∀ h i, ν h = some i → ν' h = some i

def atR (ν : Nu) (h : Nat) (off : HI → Nat) (y : Value) : Prop := ∃ i b, ν h = some i ∧ i.blk = some b ∧ y = .pointer (some ⟨b, i.base + off i, none⟩)

def capR (ν : Nu) : Cap → Value → Prop
  | .v x, y => y = x
  | .p h off, y => atR ν h (fun _ => off) y

def cellR (ν : Nu) : Cell → Value → Prop
  | .v x, y => y = x
  | .p h off, y => atR ν h (fun _ => off) y
  | .q h off _ j, y => atR ν h (fun _ => off + j) y
  | .e h j off, y => atR ν h (fun i => j * i.sz + off) y
  | .r h, y => ∃ i A, ν h = some i ∧ y = .slice A i.len i.cap ∧ (i.cap ≠ 0 → A = i.blk.map fun b => ⟨b, i.base, none⟩)
  | .s h lo len, y => ∃ i A c, ν h = some i ∧ y = .slice A len c ∧ len ≤ c ∧ lo + c = i.cap ∧ lo + len ≤ i.len ∧ (c ≠ 0 → A = i.blk.map fun b => ⟨b, i.base + lo * i.sz, none⟩)
  | .m h, y => ∃ i b, ν h = some i ∧ i.blk = some b ∧ y = .map (some b)
  | .f fn caps, y => ∃ cs, All2 (capR ν) caps cs ∧ y = .func (.func fn) #[] cs.toArray
  | .u, y => y.oneCell' = true ∧ ∀ b, y ≠ .bool b

def v1R (ν : Nu) : V1 → Value → Prop
  | .c x, y => cellR ν x y
  | .a cs, y => ∃ ys, All2 (cellR ν) cs ys ∧ y = .agg ys.toArray

def lvR (ν : Nu) : LV → Value → Prop
  | .o x, y => v1R ν x y
  | .t vs, y => ∃ ys, All2 (v1R ν) vs ys ∧ y = .tuple ys.toArray

section
variable {ν ν' : Nu}
theorem atR_mono (hn : ν.le ν') {h : Nat} {off : HI → Nat} {y : Value} : atR ν h off y → atR ν' h off y := fun ⟨i, b, h1, h2, h3⟩ => ⟨i, b, hn _ _ h1, h2, h3⟩
theorem capR_mono (hn : ν.le ν') {c : Cap} {y : Value} (h : capR ν c y) : capR ν' c y := by
  cases c with
  | v x => exact h
  | p a off => exact atR_mono hn h
theorem cellR_mono (hn : ν.le ν') {c : Cell} {y : Value} (h : cellR ν c y) : cellR ν' c y := by
  cases c with
  | v x => exact h
  | p a off => exact atR_mono hn h
  | q a off l j => exact atR_mono hn h
  | e a j off => exact atR_mono hn h
  | r a => obtain ⟨i, A, h1, h2⟩ := h; exact ⟨i, A, hn _ _ h1, h2⟩
  | s a lo len => obtain ⟨i, A, c, h1, h2⟩ := h; exact ⟨i, A, c, hn _ _ h1, h2⟩
  | m a => obtain ⟨i, b, h1, h2⟩ := h; exact ⟨i, b, hn _ _ h1, h2⟩
  | f fn caps => obtain ⟨cs, h1, h2⟩ := h; exact ⟨cs, h1.mono fun _ _ => capR_mono hn, h2⟩
  | u => exact h
theorem cellsR_mono (hn : ν.le ν') {cs : List Cell} {ys : List Value} (h : All2 (cellR ν) cs ys) : All2 (cellR ν') cs ys := h.mono fun _ _ => cellR_mono hn
theorem v1R_mono (hn : ν.le ν') {c : V1} {y : Value} (h : v1R ν c y) : v1R ν' c y := by
  cases c with
  | c x => exact cellR_mono hn h
  | a cs => obtain ⟨ys, h1, h2⟩ := h; exact ⟨ys, cellsR_mono hn h1, h2⟩
theorem lvR_mono (hn : ν.le ν') {c : LV} {y : Value} (h : lvR ν c y) : lvR ν' c y := by
  cases c with
  | o x => exact v1R_mono hn h
  | t vs => obtain ⟨ys, h1, h2⟩ := h; exact ⟨ys, h1.mono fun _ _ => v1R_mono hn, h2⟩
theorem Nu.le_refl (ν : Nu) : ν.le ν := fun _ _ h => h
theorem Nu.le_trans {a b c : Nu} (h : a.le b) (h' : b.le c) : a.le c := fun _ _ e => h' _ _ (h _ _ e)
end

/-- a cell of memory -/
def hR (ν : Nu) (c : Cell) (y : Value) : Prop := cellR ν c y ∧ y.oneCell' = true
theorem hR_mono {ν ν' : Nu} (hn : ν.le ν') {c : Cell} {y : Value} (h : hR ν c y) : hR ν' c y := ⟨cellR_mono hn h.1, h.2⟩

/-- what an entry says of the world -/
def rowR (ν : Nu) (i : HI) (ro : Bool) (t : TypeId) (sz n : Nat) (f : Nat → List Cell) (w : World) : Prop :=
  i.sz = sz ∧ 0 < sz ∧ i.len = n ∧ n ≤ i.cap ∧ i.cap ≤ maxLen ∧
  match i.blk with
  | none => i.cap = 0 ∧ i.base = 0
  | some b => ∃ cur t' fz, w.heap[b]? = some (.cells cur t' fz) ∧ i.base + i.cap * sz ≤ cur.size ∧ (ro = false → i.base = 0 ∧ cur.size = i.cap * sz ∧ t' = t ∧ fz = (0, 0)) ∧
      ∀ j, j < n → ∃ ys, All2 (hR ν) (f j) ys ∧ ys.length = sz ∧ ∀ k y, ys[k]? = some y → cur[i.base + j * sz + k]? = some y

def mget : List MapEntry → Int → Option Value
  | [], _ => none
  | e :: es, k => match e.key with
    | .int _ q => if k = q then some e.val else mget es k
    | _ => mget es k

structure MapR (ν : Nu) (f : Int → Option Cell) (es : List MapEntry) : Prop where
  keys : ∀ e ∈ es, ∃ q, e.key = .int .i64 q
  vals : ∀ k, (f k = none ∧ mget es k = none) ∨ ∃ c y, f k = some c ∧ mget es k = some y ∧ cellR ν c y

def entR (ν : Nu) (i : HI) : Entry → World → Prop
  | .cells t cs, w => ∃ b cs', i.blk = some b ∧ i.base = 0 ∧ w.heap[b]? = some (.cells cs'.toArray t (0, 0)) ∧ All2 (hR ν) cs cs'
  | .row ro t sz n f, w => rowR ν i ro t sz n f w
  | .map f, w => ∃ b es' clock, i.blk = some b ∧ w.heap[b]? = some (.map es' clock) ∧ MapR ν f es'.toList

def Entry.ro : Entry → Bool
  | .row ro _ _ _ _ => ro
  | _ => false

def Owned (ν : Nu) (s : LW) (b : Nat) : Prop := ∃ h e i, s h = some e ∧ ν h = some i ∧ i.blk = some b

structure Rel (ν : Nu) (s : LW) (w : World) : Prop where
  ent : ∀ h e, s h = some e → ∃ i, ν h = some i ∧ entR ν i e w
  sep : ∀ h h' e e' i i' b, s h = some e → s h' = some e' → ν h = some i → ν h' = some i' → i.blk = some b → i'.blk = some b → h ≠ h' → e.ro = true ∧ e'.ro = true

/-- from one state to the next: the names that are new lie in [n, n') -/
structure Step (ν : Nu) (s : LW) (w : World) (ν' : Nu) (s' : LW) (w' : World) (n n' : Nat) : Prop where
  le : ν.le ν'
  new : ∀ h, ν h = none → (h < n ∨ n' ≤ h) → ν' h = none
  os : w'.os = w.os
  tape : w'.tape = w.tape
  output : w'.output = w.output
  size : w.heap.size ≤ w'.heap.size
  kept : ∀ b, b < w.heap.size → ¬ Owned ν s b → w'.heap[b]? = w.heap[b]?
  owned : ∀ b, Owned ν' s' b → Owned ν s b ∨ w.heap.size ≤ b

theorem Step.refl (ν : Nu) (s : LW) (w : World) (n : Nat) : Step ν s w ν s w n n :=
  ⟨Nu.le_refl _, fun _ h _ => h, rfl, rfl, rfl, Nat.le_refl _, fun _ _ _ => rfl, fun _ h => .inl h⟩

theorem Step.trans {ν ν1 ν2 : Nu} {s s1 s2 : LW} {w w1 w2 : World} {n n1 n2 : Nat} (hn : n ≤ n1) (hn' : n1 ≤ n2)
    (h : Step ν s w ν1 s1 w1 n n1) (h' : Step ν1 s1 w1 ν2 s2 w2 n1 n2) : Step ν s w ν2 s2 w2 n n2 where
  le := Nu.le_trans h.le h'.le
  new := fun x hx ho => h'.new x (h.new x hx (by omega)) (by omega)
  os := h'.os.trans h.os
  tape := h'.tape.trans h.tape
  output := h'.output.trans h.output
  size := Nat.le_trans h.size h'.size
  kept := fun b hb ho => by
    rw [h'.kept b (Nat.lt_of_lt_of_le hb h.size) (fun ho' => ?_), h.kept b hb ho]
    rcases h.owned b ho' with hh | hh
    · exact ho hh
    · omega
  owned := fun b hb => by
    rcases h'.owned b hb with hh | hh
    · exact h.owned b hh
    · exact .inr (Nat.le_trans h.size hh)

theorem Step.wide {ν ν1 : Nu} {s s1 : LW} {w w1 : World} {n n1 m m' : Nat} (h : Step ν s w ν1 s1 w1 n n1) (hm : m ≤ n) (hm' : n1 ≤ m') : Step ν s w ν1 s1 w1 m m' :=
  { h with new := fun x hx ho => h.new x hx (by omega) }

def Fresh (ν : Nu) (n n' : Nat) : Prop := ∀ h, n ≤ h → h < n' → ν h = none

structure ActR (ν : Nu) (a : LAct) (x : Act) : Prop where
  defers : x.defers = []
  tmps : All2 (lvR ν) a x.tmps.toList

def GlobOK (gl : Nat → Option Nat) (ν : Nu) : Prop := ∀ g h, gl g = some h → ∃ i, ν h = some i ∧ i.blk = some g ∧ i.base = 0

theorem ActR.mono {ν ν' : Nu} (hn : ν.le ν') {a : LAct} {x : Act} (h : ActR ν a x) : ActR ν' a x := ⟨h.defers, h.tmps.mono fun _ _ => lvR_mono hn⟩
theorem GlobOK.mono {gl : Nat → Option Nat} {ν ν' : Nu} (hn : ν.le ν') (h : GlobOK gl ν) : GlobOK gl ν' := fun g x hx => let ⟨i, h1, h2⟩ := h g x hx; ⟨i, hn _ _ h1, h2⟩

theorem ActR.put {ν : Nu} {a : LAct} {x : Act} (h : ActR ν a x) (dst : Option Tmp) {v : LV} {y : Value} (hv : lvR ν v y) : ActR ν (putL a dst v) (x.put dst y) := by
  cases dst with
  | none => exact h
  | some d =>
    refine ⟨h.defers, ?_⟩
    have := h.tmps.set d hv
    simpa [putL, Act.put, Array.toList_setIfInBounds] using this

theorem constL_R (ν : Nu) (v : Value) : lvR ν (constL v) v := by
  cases v with
  | agg cs =>
    refine ⟨cs.toList, ?_, by simp⟩
    refine All2.map_left ?_
    exact All2.of_get rfl (fun i x y hx hy => by rw [hx] at hy; exact (Option.some.inj hy).symm)
  | _ => exact rfl

theorem ActR.eval {gl : Nat → Option Nat} {ν : Nu} {a : LAct} {x : Act} (h : ActR ν a x) (hg : GlobOK gl ν) (o : Operand) : lvR ν (evalL gl a o) (x.eval o) := by
  cases o with
  | tmp t =>
    simp only [evalL, Act.eval]
    cases ht : a[t]? with
    | some v =>
      obtain ⟨y, hy, hr⟩ := h.tmps.get ht
      have : x.tmps.getD t undef = y := by
        have : x.tmps[t]? = some y := by simpa using hy
        rw [Array.getD_eq_getD_getElem?, this]; rfl
      rw [this, List.getD_eq_getElem?_getD, ht]
      exact hr
    | none =>
      have hl : a.length ≤ t := by simpa using ht
      have hl' : x.tmps.size ≤ t := by have := h.tmps.length; simp at this; omega
      have : x.tmps.getD t undef = undef := by
        rw [Array.getD_eq_getD_getElem?, Array.getElem?_eq_none hl']; rfl
      rw [this, List.getD_eq_getElem?_getD, ht]
      exact rfl
  | const v => exact constL_R ν v
  | global g =>
    simp only [evalL, Act.eval]
    cases hgl : gl g with
    | none => exact rfl
    | some k =>
      obtain ⟨i, h1, h2, h3⟩ := hg g k hgl
      exact ⟨i, g, h1, h2, by simp [h3]⟩
  | func f => exact ⟨[], .nil, rfl⟩

end Go.Ev

namespace Go.Ev

/-! ## the order in which the parts of a region are carried out -/
section orders
variable {L X : Type} (N : Nat) (Wr Rd : Nat → L → Prop) (val : Nat → L → X) (before : Nat → Nat → Prop)

structure Ord : Prop where
  lex : ∀ i, i < N → ∀ l, ¬ Wr i l → val (i + 1) l = val i l
  conf : ∀ i k, i < k → k < N → before i k ∨ ∀ l, ¬ (Wr i l ∧ (Rd k l ∨ Wr k l)) ∧ ¬ (Wr k l ∧ (Rd i l ∨ Wr i l))

structure Inv (S : Nat → Prop) (cur : L → X) : Prop where
  untouched : ∀ l, (∀ j, j < N → S j → ¬ Wr j l) → cur l = val 0 l
  last : ∀ l j, j < N → S j → Wr j l → (∀ k, j < k → k < N → S k → ¬ Wr k l) → cur l = val (j + 1) l

variable {N Wr Rd val before}

theorem last_writer (p : Nat → Prop) : ∀ i, (∀ j, j < i → ¬ p j) ∨ ∃ j, j < i ∧ p j ∧ ∀ k, j < k → k < i → ¬ p k := by
  classical
  intro i
  induction i with
  | zero => exact .inl fun j hj => by omega
  | succ i ih =>
    by_cases hp : p i
    · exact .inr ⟨i, by omega, hp, fun k h1 h2 => by omega⟩
    · rcases ih with h | ⟨j, h1, h2, h3⟩
      · refine .inl fun j hj => ?_
        by_cases hji : j = i
        · subst hji; exact hp
        · exact h j (by omega)
      · refine .inr ⟨j, by omega, h2, fun k hk1 hk2 => ?_⟩
        by_cases hki : k = i
        · subst hki; exact hp
        · exact h3 k hk1 (by omega)

theorem lex_keep (h : Ord N Wr Rd val before) (l : L) : ∀ d i, i + d ≤ N → (∀ k, i ≤ k → k < i + d → ¬ Wr k l) → val (i + d) l = val i l := by
  intro d
  induction d with
  | zero => intro i _ _; rfl
  | succ d ih =>
    intro i hi hk
    rw [← Nat.add_assoc, h.lex (i + d) (by omega) l (hk _ (by omega) (by omega)), ih i (by omega) (fun k h1 h2 => hk k h1 (by omega))]

/-- what an operation that is ready finds is what it finds in the order of the text -/
theorem Inv.agree (h : Ord N Wr Rd val before) {S : Nat → Prop} {cur : L → X} (hI : Inv N Wr val S cur) (hcl : ∀ i k, S k → before i k → S i)
    {i : Nat} (hi : i < N) (hS : ¬ S i) (hpre : ∀ j, j < i → before j i → S j) {l : L} (hl : Rd i l ∨ Wr i l) : cur l = val i l := by
  have later : ∀ k, i < k → k < N → S k → ¬ Wr k l := by
    intro k h1 h2 h3 h4
    rcases h.conf i k h1 h2 with hb | hc
    · exact hS (hcl i k h3 hb)
    · exact (hc l).2 ⟨h4, hl⟩
  rcases last_writer (fun j => Wr j l) i with hno | ⟨j, h1, h2, h3⟩
  · rw [hI.untouched l ?_]
    · have := lex_keep h l i 0 (by omega) (fun k _ h2 => hno k (by omega))
      simpa using this.symm
    · intro k hk hSk hw
      rcases Nat.lt_trichotomy k i with hlt | heq | hgt
      · exact hno k hlt hw
      · exact hS (heq ▸ hSk)
      · exact later k hgt hk hSk hw
  · have hSj : S j := by
      rcases h.conf j i h1 hi with hb | hc
      · exact hpre j h1 hb
      · exact ((hc l).1 ⟨h2, hl⟩).elim
    rw [hI.last l j (by omega) hSj h2 ?_]
    · have := lex_keep h l (i - (j + 1)) (j + 1) (by omega) (fun k h5 h6 => h3 k (by omega) (by omega))
      rw [show j + 1 + (i - (j + 1)) = i by omega] at this
      exact this.symm
    · intro k hk1 hk2 hSk hw
      rcases Nat.lt_trichotomy k i with hlt | heq | hgt
      · exact h3 k hk1 hlt hw
      · exact hS (heq ▸ hSk)
      · exact later k hgt hk2 hSk hw

theorem Inv.step (h : Ord N Wr Rd val before) {S : Nat → Prop} {cur cur' : L → X} (hI : Inv N Wr val S cur) (hcl : ∀ i k, S k → before i k → S i)
    {i : Nat} (hi : i < N) (hS : ¬ S i) (hk : ∀ l, ¬ Wr i l → cur' l = cur l) (hw : ∀ l, Wr i l → cur' l = val (i + 1) l) :
    Inv N Wr val (fun j => S j ∨ j = i) cur' := by
  refine ⟨fun l hno => ?_, fun l j hj hSj hwj hlast => ?_⟩
  · rw [hk l (hno i hi (.inr rfl))]
    exact hI.untouched l fun j hj hSj => hno j hj (.inl hSj)
  · by_cases hwi : Wr i l
    · rw [hw l hwi]
      rcases Nat.lt_trichotomy j i with hlt | heq | hgt
      · exact (hlast i hlt hi (.inr rfl) hwi).elim
      · rw [heq]
      · rcases hSj with hSj | hSj
        · rcases h.conf i j hgt hj with hb | hc
          · exact (hS (hcl i j hSj hb)).elim
          · exact ((hc l).2 ⟨hwj, .inr hwi⟩).elim
        · omega
    · rw [hk l hwi]
      have hSj' : S j := hSj.resolve_right fun e => hwi (e ▸ hwj)
      exact hI.last l j hj hSj' hwj fun k h1 h2 h3 => hlast k h1 h2 (.inl h3)

theorem Inv.start : Inv N Wr val (fun _ => False) (val 0) := ⟨fun _ _ => rfl, fun _ _ _ h => h.elim⟩

theorem Inv.final (h : Ord N Wr Rd val before) {S : Nat → Prop} {cur : L → X} (hI : Inv N Wr val S cur) (hall : ∀ i, i < N → S i) (l : L) : cur l = val N l := by
  rcases last_writer (fun j => Wr j l) N with hno | ⟨j, h1, h2, h3⟩
  · rw [hI.untouched l fun j hj _ => hno j hj]
    have := lex_keep h l N 0 (by omega) (fun k _ h2 => hno k (by omega))
    simpa using this.symm
  · rw [hI.last l j h1 (hall j h1) h2 fun k hk1 hk2 _ => h3 k hk1 hk2]
    have := lex_keep h l (N - (j + 1)) (j + 1) (by omega) (fun k h5 h6 => h3 k (by omega) (by omega))
    rw [show j + 1 + (N - (j + 1)) = N by omega] at this
    exact this.symm
theorem Inv.congr {S S' : Nat → Prop} {cur : L → X} (hI : Inv N Wr val S cur) (h : ∀ i, i < N → (S i ↔ S' i)) : Inv N Wr val S' cur :=
  ⟨fun l hno => hI.untouched l fun j hj hSj => hno j hj ((h j hj).1 hSj),
   fun l j hj hSj hw hl => hI.last l j hj ((h j hj).2 hSj) hw fun k h1 h2 h3 => hl k h1 h2 ((h k h2).1 h3)⟩
end orders

/-! ## what the closure of the edges says -/
def DirectEdge (ops : Array Oper) (i k : Nat) : Prop := ∃ o, ops[k]? = some o ∧ ∃ e ∈ o.after.toList, Region.binds .any e = true ∧ e.on = i

def closeMask (acc : List Nat) (es : List Edge) (m : Nat) : Nat := es.foldl (fun m e => if Region.binds .any e then m ||| (2 ^ e.on ||| acc.getD e.on 0) else m) m

def closeStep (acc : List Nat) (o : Oper) : List Nat := acc ++ [closeMask acc o.after.toList 0]

theorem closure_eq (ops : Array Oper) : closure ops = ops.toList.foldl closeStep [] := rfl

theorem closeMask_spec (acc : List Nat) (i : Nat) : ∀ (es : List Edge) (m : Nat), (closeMask acc es m).testBit i = true → m.testBit i = true ∨ ∃ e ∈ es, Region.binds .any e = true ∧ (e.on = i ∨ (acc.getD e.on 0).testBit i = true)
  | [], m, h => .inl h
  | e :: es, m, h => by
    have h' : (closeMask acc es (if Region.binds .any e then m ||| (2 ^ e.on ||| acc.getD e.on 0) else m)).testBit i = true := h
    rcases closeMask_spec acc i es _ h' with h1 | ⟨e', he, h2⟩
    · by_cases hb : Region.binds .any e = true
      · rw [if_pos hb, Nat.testBit_or, Nat.testBit_or, Nat.testBit_two_pow] at h1
        simp only [Bool.or_eq_true, decide_eq_true_eq] at h1
        rcases h1 with h1 | h1 | h1
        · exact .inl h1
        · exact .inr ⟨e, by simp, hb, .inl h1⟩
        · exact .inr ⟨e, by simp, hb, .inr h1⟩
      · rw [if_neg hb] at h1; exact .inl h1
    · exact .inr ⟨e', by simp [he], h2⟩

theorem foldl_close (ops : Array Oper) (S : Nat → Prop) (hS : ∀ i k, S k → DirectEdge ops i k → S i) : ∀ (l : List Oper) (acc : List Nat),
    (∀ j, ops[acc.length + j]? = l[j]?) → (∀ k, k < acc.length → S k → ∀ i, (acc.getD k 0).testBit i = true → S i) →
    ∀ k, k < acc.length + l.length → S k → ∀ i, ((l.foldl closeStep acc).getD k 0).testBit i = true → S i
  | [], acc, _, h, k, hk, hSk, i, hi => h k (by simpa using hk) hSk i hi
  | o :: l, acc, hl, h, k, hk, hSk, i, hi => by
    have hlen : (closeStep acc o).length = acc.length + 1 := by simp [closeStep]
    refine foldl_close ops S hS l (closeStep acc o) (fun j => ?_) (fun k' hk' hSk' i' hi' => ?_) k (by rw [hlen]; simp at hk; omega) hSk i hi
    · rw [hlen]
      have := hl (j + 1)
      rw [show acc.length + 1 + j = acc.length + (j + 1) by omega, this]
      simp
    · rw [hlen] at hk'
      by_cases hlt : k' < acc.length
      · refine h k' hlt hSk' i' ?_
        simpa [closeStep, List.getD_eq_getElem?_getD, List.getElem?_append_left hlt] using hi'
      · have heq : k' = acc.length := by omega
        subst heq
        have hi'' : (closeMask acc o.after.toList 0).testBit i' = true := by
          simpa [closeStep, List.getD_eq_getElem?_getD] using hi'
        rcases closeMask_spec acc i' _ _ hi'' with h0 | ⟨e, he, hb, hie⟩
        · simp at h0
        · have ho : ops[acc.length]? = some o := by have := hl 0; simpa using this
          have hSe : S e.on := hS _ _ hSk' ⟨o, ho, e, he, hb, rfl⟩
          rcases hie with rfl | hmem
          · exact hSe
          · by_cases hon : e.on < acc.length
            · exact h e.on hon hSe i' hmem
            · rw [List.getD_eq_getElem?_getD, List.getElem?_eq_none (by omega)] at hmem
              simp at hmem

def Before (ops : Array Oper) (i k : Nat) : Prop := ((closure ops).getD k 0).testBit i = true

theorem closure_closed (ops : Array Oper) (S : Nat → Prop) (hS : ∀ i k, S k → DirectEdge ops i k → S i) (k : Nat) (hk : k < ops.size) (hSk : S k) : ∀ i, Before ops i k → S i := by
  unfold Before
  rw [closure_eq]
  exact foldl_close ops S hS ops.toList [] (fun j => by simp) (fun k hk => by simp at hk) k (by simpa using hk) hSk

/-- what comes before an operation that is ready has been carried out -/
theorem closure_ready (ops : Array Oper) (S : Nat → Prop) (hS : ∀ i k, S k → DirectEdge ops i k → S i) (k : Nat) (hk : k < ops.size) (hr : ∀ i, DirectEdge ops i k → S i) :
    ∀ i, Before ops i k → S i ∨ i = k := by
  have := closure_closed ops (fun i => S i ∨ i = k) (fun i k' h hd => by
    rcases h with h | rfl
    · exact .inl (hS i k' h hd)
    · exact .inl (hr i hd)) k hk (.inr rfl)
  exact this

end Go.Ev

namespace Go.Ev

section
variable (P : Program) (gl : Nat → Option Nat) (call : CallP)

/-- an operation does what its logical twin says -/
def StepSound (ops : Array Oper) (o : Oper) : Prop :=
  ∀ (ν : Nu) (a : LAct) (s : LW) (w : World) (x : Act) (n : Nat) (v : LV) (n' : Nat) (s' : LW) (r wf : List Nat),
    ActR ν a x → Rel ν s w → GlobOK gl ν → Fresh ν n n' → stepV P gl call ops o a s n = some ((v, n'), s', r, wf) →
    ∀ (K : Act → World → Prop) (Q : Exit → Act → World → Prop), (∀ ν' w' y, Step ν s w ν' s' w' n n' → Rel ν' s' w' → lvR ν' v y → K (x.put o.dst y) w') →
      if Region.wanted o (yielded ops x.tmps) then o.wp P x w K Q else K (x.put o.dst undef) w

def StepGrow (ops : Array Oper) (o : Oper) : Prop :=
  ∀ a s n v n' s' r wf, stepV P gl call ops o a s n = some ((v, n'), s', r, wf) → n ≤ n'

variable {P gl call}

theorem Step.trans' {ν ν1 ν2 : Nu} {s s1 s2 : LW} {w w1 w2 : World} {n n' : Nat} (h : Step ν s w ν1 s1 w1 n n') (h' : Step ν1 s1 w1 ν2 s2 w2 n n') : Step ν s w ν2 s2 w2 n n' where
  le := Nu.le_trans h.le h'.le
  new := fun x hx ho => h'.new x (h.new x hx ho) ho
  os := h'.os.trans h.os
  tape := h'.tape.trans h.tape
  output := h'.output.trans h.output
  size := Nat.le_trans h.size h'.size
  kept := fun b hb ho => by
    rw [h'.kept b (Nat.lt_of_lt_of_le hb h.size) (fun ho' => ?_), h.kept b hb ho]
    rcases h.owned b ho' with hh | hh
    · exact ho hh
    · omega
  owned := fun b hb => by
    rcases h'.owned b hb with hh | hh
    · exact h.owned b hh
    · exact .inr (Nat.le_trans h.size hh)

theorem draw_seq (hc : CallNat call) (ops : Array Oper) : ∀ (l : List Oper) (fps : List (List Nat × List Nat)) (a : LAct) (s : LW) (n : Nat) (aN : LAct) (nN : Nat) (sN : LW) (r wf : List Nat),
    drawOut P gl call ops l fps a s n = some ((aN, nN), sN, r, wf) →
    ∃ (A : Nat → LAct) (Sx : Nat → LW) (Nn : Nat → Nat) (V : Nat → LV) (R W : Nat → List Nat), A 0 = a ∧ Sx 0 = s ∧ Nn 0 = n ∧ A l.length = aN ∧ Sx l.length = sN ∧ Nn l.length = nN ∧
      (∀ i o, l[i]? = some o → stepV P gl call ops o (A i) (Sx i) (Nn i) = some ((V i, Nn (i + 1)), Sx (i + 1), R i, W i) ∧ A (i + 1) = putL (A i) o.dst (V i)) ∧
      drawOK ops (fps ++ (List.range l.length).map fun i => (R i, W i)) = true
  | [], fps, a, s, n, aN, nN, sN, r, wf, h => by
    simp only [drawOut, evDraw] at h
    split at h
    · rename_i hd
      simp at h
      obtain ⟨⟨rfl, rfl⟩, rfl, rfl, rfl⟩ := h
      exact ⟨fun _ => a, fun _ => s, fun _ => n, fun _ => undefL, fun _ => [], fun _ => [], rfl, rfl, rfl, rfl, rfl, rfl, fun i o hi => by simp at hi, by simpa using hd⟩
    · simp at h
  | o :: l, fps, a, s, n, aN, nN, sN, r, wf, h => by
    rw [drawOut_cons hc] at h
    cases h1 : stepV P gl call ops o a s n with
    | none => simp [h1] at h
    | some p =>
      obtain ⟨⟨v, n1⟩, s1, r1, w1⟩ := p
      simp only [h1, Option.bind_some] at h
      cases h2 : drawOut P gl call ops l (fps ++ [(r1, w1)]) (putL a o.dst v) s1 n1 with
      | none => simp [h2] at h
      | some q =>
        obtain ⟨⟨aq, nq⟩, s2, r2, w2⟩ := q
        simp [h2] at h
        obtain ⟨⟨rfl, rfl⟩, rfl, rfl, rfl⟩ := h
        obtain ⟨A, Sx, Nn, V, R, W, e1, e2, e3, e4, e5, e6, e7, e8⟩ := draw_seq hc ops l _ _ _ _ _ _ _ _ _ h2
        refine ⟨fun i => match i with | 0 => a | i + 1 => A i, fun i => match i with | 0 => s | i + 1 => Sx i, fun i => match i with | 0 => n | i + 1 => Nn i,
          fun i => match i with | 0 => v | i + 1 => V i, fun i => match i with | 0 => r1 | i + 1 => R i, fun i => match i with | 0 => w1 | i + 1 => W i,
          rfl, rfl, rfl, e4, e5, e6, fun i o' hi => ?_, ?_⟩
        · cases i with
          | zero =>
            simp at hi
            subst hi
            refine ⟨?_, e1⟩
            show stepV P gl call ops o a s n = some ((v, Nn 0), Sx 0, r1, w1)
            rw [e2, e3]; exact h1
          | succ i => exact e7 i o' (by simpa using hi)
        · rw [List.append_assoc] at e8
          simpa [List.range_succ_eq_map, Function.comp_def] using e8

theorem List.length_filter_lt {α : Type} {p q : α → Bool} : ∀ {l : List α}, (∀ x, q x = true → p x = true) → ∀ i ∈ l, p i = true → q i = false → (l.filter q).length < (l.filter p).length
  | [], _, i, hi, _, _ => by simp at hi
  | y :: l, hpq, i, hi, hp, hq => by
    have hle : ∀ l : List α, (l.filter q).length ≤ (l.filter p).length := by
      intro l
      induction l with
      | nil => simp
      | cons z l ih =>
        by_cases hqz : q z = true
        · simp [hqz, hpq z hqz]; exact ih
        · by_cases hpz : p z = true
          · simp [hqz, hpz]; omega
          · simp [hqz, hpz]; exact ih
    rcases List.mem_cons.1 hi with rfl | hmem
    · simp [hp, hq]
      have := hle l
      omega
    · have := List.length_filter_lt hpq i hmem hp hq
      by_cases hqz : q y = true
      · simp [hqz, hpq y hqz]; exact this
      · by_cases hpz : p y = true
        · simp [hqz, hpz]; omega
        · simp [hqz, hpz]; exact this

theorem drew_rel {ν : Nu} {s : LW} {w : World} (h : Rel ν s w) : Rel ν s w.drew := by
  refine ⟨fun k e hk => ?_, h.sep⟩
  obtain ⟨i, h1, h2⟩ := h.ent k e hk
  exact ⟨i, h1, by cases e <;> exact h2⟩

theorem drew_step (ν : Nu) (s : LW) (w : World) (n : Nat) : Step ν s w ν s w.drew n n :=
  ⟨Nu.le_refl _, fun _ h _ => h, rfl, rfl, rfl, Nat.le_refl _, fun _ _ _ => rfl, fun _ h => .inl h⟩

/-! ## places within the logical memory: an entry of a map under a key is a place of its own -/
def proj (s : LW) (l : Nat × Option Int) : Option Entry :=
  match s l.1, l.2 with
  | some (.map _), none => some (.map fun _ => none)
  | some (.map f), some k => (f k).map fun c => .cells 0 [c]
  | some e, none => some e
  | some _, some _ => none
  | none, _ => none

theorem proj_eq {s t : LW} {l : Nat × Option Int} (h : s l.1 = t l.1) : proj s l = proj t l := by unfold proj; rw [h]

theorem proj_at {s t : LW} {h : Nat} (hp : ∀ q, proj s (h, q) = proj t (h, q)) : s h = t h := by
  have h0 := hp none
  unfold proj at h0
  cases hs : s h with
  | none =>
    cases ht : t h with
    | none => rfl
    | some e => cases e <;> simp [hs, ht] at h0
  | some e =>
    cases ht : t h with
    | none => cases e <;> simp [hs, ht] at h0
    | some e' =>
      cases e with
      | cells c1 c2 => cases e' <;> simp_all
      | row c1 c2 c3 c4 c5 => cases e' <;> simp_all
      | map f =>
        cases e' with
        | cells _ _ => simp [hs, ht] at h0
        | row _ _ _ _ _ => simp [hs, ht] at h0
        | map g =>
          congr 2
          funext k
          have hk := hp (some k)
          unfold proj at hk
          simp only [hs, ht] at hk
          cases hf : f k <;> cases hg : g k <;> simp [hf, hg] at hk
          · rfl
          · rw [hk]

theorem insKey_op {o : Oper} {k : Int} (h : insKey o = some k) : ∃ t m x, o.op = .insert t m (.const (.int .i64 k)) x := by
  unfold insKey at h
  split at h
  · rename_i t m k' x ho
    obtain rfl := Option.some.inj h
    exact ⟨t, m, x, ho⟩
  · simp at h

theorem ins_step {ops : Array Oper} {o : Oper} {k : Int} (hk : insKey o = some k) {a : LAct} {s : LW} {n : Nat} {v : LV} {n' : Nat} {s' : LW} {r w : List Nat}
    (h : stepV P gl call ops o a s n = some ((v, n'), s', r, w)) :
    (s' = s ∧ r = [] ∧ w = [] ∧ ∀ t, stepV P gl call ops o a t n = some ((v, n'), t, [], [])) ∨
    ∃ hh f c, s hh = some (.map f) ∧ f k = none ∧ s' = s.upd hh (some (.map (setKey f k c))) ∧ r = [hh] ∧ w = [hh] ∧
      ∀ t g, t hh = some (.map g) → g k = none → stepV P gl call ops o a t n = some ((v, n'), t.upd hh (some (.map (setKey g k c))), [hh], [hh]) := by
  obtain ⟨ty, m, x, ho⟩ := insKey_op hk
  unfold stepV at h ⊢
  cases hw : wantedL ops o a with
  | false =>
    simp [hw] at h
    obtain ⟨⟨rfl, rfl⟩, rfl, rfl, rfl⟩ := h
    exact .inl ⟨rfl, rfl, rfl, fun t => by simp⟩
  | true =>
    simp only [hw] at h
    refine .inr ?_
    have hev : ∀ s, execV P gl call o a s n = ((match one? (evalL gl a m), one? (evalL gl a x) with | some m, some x => insertL P ty m (.c (.v (.int .i64 k))) x | _, _ => .stuck).out s).bind fun (p : Out × LW × List Nat × List Nat) => (match p.1 with
        | .val v n' => some ((v, n'), p.2)
        | .skip => some ((undefL, n), p.2)
        | .call f args => Option.map (fun (q : (LV × Nat) × LW × List Nat × List Nat) => (q.1, q.2.1, q.2.2.1 ++ p.2.2.1, q.2.2.2 ++ p.2.2.2)) (callOut call f args p.2.1 n) : Res (LV × Nat)) := by
      intro s
      unfold execV evOp
      rw [ho]
      simp only []
      cases one? (evalL gl a m) with
      | none => rfl
      | some m' => cases one? (evalL gl a x) <;> rfl
    simp only [hev] at h ⊢
    cases hm : one? (evalL gl a m) with
    | none => simp [hm] at h
    | some m' =>
      cases hx : one? (evalL gl a x) with
      | none => simp [hm, hx] at h
      | some x' =>
        simp only [hm, hx] at h ⊢
        unfold insertL at h ⊢
        split at h
        case h_2 => simp at h
        rename_i kt et hh kx c hty heq
        cases heq
        split at h
        case h_2 => simp at h
        rename_i k0 hk0
        simp only [Ac.out_get] at h
        cases hs : s hh with
        | none => simp [hs] at h
        | some e =>
          cases e with
          | cells _ _ => simp [hs] at h
          | row _ _ _ _ _ => simp [hs] at h
          | map f =>
            cases hf : f k with
            | some _ => simp [hs, hf] at h
            | none =>
              simp [hs, hf, Ac.out_put] at h
              obtain ⟨⟨rfl, rfl⟩, rfl, rfl, rfl⟩ := h
              refine ⟨hh, f, c, hs, hf, rfl, rfl, rfl, fun t g ht hg => ?_⟩
              simp [hm, hx, hty, hk0, Ac.out_get, ht, hg, Ac.out_put]

theorem draw_wp (hm : P.follows .mixedOrders = true) {ops : Array Oper} (hc : CallNat call) (hl : CallLoc call)
    (hgrow : ∀ o ∈ ops.toList, StepGrow P gl call ops o) (hs : ∀ o ∈ ops.toList, StepSound P gl call ops o)
    {id : Nat} {a : LAct} {s : LW} {n : Nat} {aN : LAct} {nN : Nat} {sN : LW} {r wf : List Nat} (h : drawOut P gl call ops ops.toList [] a s n = some ((aN, nN), sN, r, wf))
    {ν : Nu} {w : World} {x : Act} (ha : ActR ν a x) (hr : Rel ν s w) (hg : GlobOK gl ν) (hf : Fresh ν n nN) {Q : Exit → Act → World → Prop}
    (hQ : ∀ ν' w' x', Step ν s w ν' sN w' n nN → Rel ν' sN w' → ActR ν' aN x' → Q .normal x' w') : (Code.region id ops true).wp P Q x w := by
  refine wp_region_any hm ?_
  obtain ⟨A, Sx, Nn, V, R, W, hA0, hS0, hN0, hAN, hSN, hNN, hstep, hok⟩ := draw_seq hc ops _ _ _ _ _ _ _ _ _ _ h
  have hlen : ops.toList.length = ops.size := by simp
  rw [hlen] at hAN hSN hNN hok
  have hget : ∀ i o, ops[i]? = some o → stepV P gl call ops o (A i) (Sx i) (Nn i) = some ((V i, Nn (i + 1)), Sx (i + 1), R i, W i) ∧ A (i + 1) = putL (A i) o.dst (V i) :=
    fun i o hi => hstep i o (by simpa using hi)
  have hsome : ∀ i, i < ops.size → ∃ o, ops[i]? = some o := fun i hi => ⟨ops[i], by simp [hi]⟩
  have hmono1 : ∀ i, i < ops.size → Nn i ≤ Nn (i + 1) := fun i hi => by
    obtain ⟨o, ho⟩ := hsome i hi
    exact hgrow o (List.mem_of_getElem? (by simpa using ho : ops.toList[i]? = some o)) _ _ _ _ _ _ _ _ (hget i o ho).1
  have hmono : ∀ d i, i + d ≤ ops.size → Nn i ≤ Nn (i + d) := by
    intro d
    induction d with
    | zero => intro i _; exact Nat.le_refl _
    | succ d ih => intro i hi; exact Nat.le_trans (ih i (by omega)) (hmono1 (i + d) (by omega))
  have hmono' : ∀ i j, i ≤ j → j ≤ ops.size → Nn i ≤ Nn j := fun i j h1 h2 => by
    have := hmono (j - i) i (by omega); rwa [show i + (j - i) = j by omega] at this
  -- the checks
  obtain ⟨hstat, hloose⟩ : drawStatic ops = true ∧ ∀ p ∈ loose ops, pairOK ((List.range ops.size).map fun i => (R i, W i)) p = true := by
    simpa [drawOK] using hok
  have hok2 : ∀ k, k < ops.size → (∀ o, ops[k]? = some o → ∀ e ∈ o.after.toList, Region.binds .any e = true → e.on < k) ∧ ∀ i, i < k →
      Before ops i k ∨ (match ops[i]?, ops[k]? with | some x, some y => Oper.apart ops x y | _, _ => false) = true := by
    intro k hk
    have := hstat
    simp only [drawStatic, List.all_eq_true, List.mem_range, Bool.and_eq_true, Bool.or_eq_true] at this
    obtain ⟨h1, h2⟩ := this k hk
    refine ⟨fun o ho e he hb => ?_, h2⟩
    simp only [ho, Array.all_eq_true_iff_forall_mem] at h1
    have h3 := h1 e (by simpa using he)
    simpa [hb] using h3
  have hok' : ∀ k, k < ops.size → (∀ o, ops[k]? = some o → ∀ e ∈ o.after.toList, Region.binds .any e = true → e.on < k) ∧ True := fun k hk => ⟨(hok2 k hk).1, trivial⟩
  have hconf : ∀ i k, i < k → k < ops.size → Before ops i k ∨
      ∃ x y, ops[i]? = some x ∧ ops[k]? = some y ∧ Oper.apart ops x y = true ∧ (twoKeys x y = true ∨ disjoint (W i) (R k) = true ∧ disjoint (W i) (W k) = true ∧ disjoint (W k) (R i) = true) := by
    intro i k hik hk
    obtain ⟨x, hx⟩ := hsome i (by omega)
    obtain ⟨y, hy⟩ := hsome k hk
    rcases (hok2 k hk).2 i hik with h1 | h1
    · exact .inl (by simpa using h1)
    · simp only [hx, hy] at h1
      cases hcl : ((closure ops).getD k 0).testBit i with
      | true => exact .inl hcl
      | false =>
        refine .inr ⟨x, y, hx, hy, h1, ?_⟩
        cases htw : twoKeys x y with
        | true => exact .inl rfl
        | false =>
          have hmem : (i, k) ∈ loose ops := by
            unfold loose
            refine List.mem_flatMap.2 ⟨k, by simpa using hk, List.mem_flatMap.2 ⟨i, by simpa using hik, ?_⟩⟩
            simp only [hx, hy, hcl, htw]
            simp
          have h2 := hloose _ hmem
          have e1 : ((List.range ops.size).map fun i => (R i, W i))[i]? = some (R i, W i) := by simp [show i < ops.size by omega]
          have e2 : ((List.range ops.size).map fun i => (R i, W i))[k]? = some (R k, W k) := by simp [hk]
          unfold pairOK at h2
          simp only [e1, e2, Bool.and_eq_true] at h2
          exact .inr ⟨h2.1.1, h2.1.2, h2.2⟩
  have disj : ∀ {xs ys : List Nat}, disjoint xs ys = true → ∀ h, h ∈ xs → h ∈ ys → False := by
    intro xs ys hd h h1 h2
    simp only [disjoint, List.all_eq_true, Bool.not_eq_true'] at hd
    have := hd h h1
    simp [h2] at this
  -- the two kinds of places
  let before : Nat → Nat → Prop := fun i k => Before ops i k
  let WrT : Nat → Nat → Prop := fun i t => ∃ o, ops[i]? = some o ∧ o.dst = some t
  let RdT : Nat → Nat → Prop := fun i t => ∃ o, ops[i]? = some o ∧ t ∈ o.looksAt ops
  let valT : Nat → Nat → Option LV := fun i t => (A i)[t]?
  let WrH : Nat → Nat × Option Int → Prop := fun i l => l.1 ∈ W i ∧ ∀ o k, ops[i]? = some o → insKey o = some k → l.2 = some k
  let RdH : Nat → Nat × Option Int → Prop := fun i l => l.1 ∈ R i ∧ ∀ o k, ops[i]? = some o → insKey o = some k → l.2 = none ∨ l.2 = some k
  let valH : Nat → Nat × Option Int → Option Entry := fun i => proj (Sx i)
  have ordT : Ord ops.size WrT RdT valT before := by
    refine ⟨fun i hi t ht => ?_, fun i k hik hk => ?_⟩
    · obtain ⟨o, ho⟩ := hsome i hi
      show (A (i + 1))[t]? = (A i)[t]?
      rw [(hget i o ho).2]
      unfold putL
      cases hd : o.dst with
      | none => rfl
      | some d => exact List.getElem?_set_ne (fun e => ht ⟨o, ho, by rw [hd, e]⟩)
    · rcases hconf i k hik hk with hb | ⟨x, y, hx, hy, hap, _⟩
      · exact .inl hb
      · obtain ⟨p1, p2, p3⟩ := Oper.apart_spec hap
        refine .inr fun t => ⟨fun ⟨⟨o, ho, hd⟩, hh⟩ => ?_, fun ⟨⟨o, ho, hd⟩, hh⟩ => ?_⟩
        · rw [hx] at ho; obtain rfl := Option.some.inj ho
          rcases hh with ⟨o', ho', hm⟩ | ⟨o', ho', hm⟩
          · rw [hy] at ho'; obtain rfl := Option.some.inj ho'; exact p1 t hd hm
          · rw [hy] at ho'; obtain rfl := Option.some.inj ho'; exact p2 t hd hm
        · rw [hy] at ho; obtain rfl := Option.some.inj ho
          rcases hh with ⟨o', ho', hm⟩ | ⟨o', ho', hm⟩
          · rw [hx] at ho'; obtain rfl := Option.some.inj ho'; exact p3 t hd hm
          · rw [hx] at ho'; obtain rfl := Option.some.inj ho'; exact p2 t hm hd
  have hsame : ∀ i o, ops[i]? = some o → Same (fun s => stepV P gl call ops o (A i) s (Nn i)) (Sx i) (V i, Nn (i + 1)) (Sx (i + 1)) (R i) (W i) :=
    fun i o ho => stepV_same hl (hget i o ho).1
  have projUpd : ∀ (s : LW) (hh : Nat) (f : Int → Option Cell) (k : Int) (c : Cell) (l : Nat × Option Int), s hh = some (.map f) → ¬ (l.1 = hh ∧ l.2 = some k) →
      proj (s.upd hh (some (.map (setKey f k c)))) l = proj s l := by
    intro s hh f k c l hs hl
    obtain ⟨l1, l2⟩ := l
    by_cases h1 : l1 = hh
    · subst h1
      unfold proj
      rw [upd_same]
      simp only [hs]
      cases l2 with
      | none => rfl
      | some q =>
        have hq : q ≠ k := fun e => hl ⟨rfl, by rw [e]⟩
        simp [setKey, hq]
    · exact proj_eq (upd_other _ _ h1)
  have hlex : ∀ i o, ops[i]? = some o → ∀ l, ¬ WrH i l → proj (Sx (i + 1)) l = proj (Sx i) l := by
    intro i o ho l hwl
    cases hik : insKey o with
    | none =>
      refine proj_eq ((hsame i o ho).kept l.1 fun hm => hwl ⟨hm, fun o' k ho' hk => ?_⟩)
      rw [ho] at ho'; obtain rfl := Option.some.inj ho'
      rw [hik] at hk; cases hk
    | some k =>
      rcases ins_step hik (hget i o ho).1 with ⟨h1, _⟩ | ⟨hh, f, c, h1, h2, h3, h4, h5, h6⟩
      · rw [h1]
      · rw [h3]
        refine projUpd _ _ _ _ _ _ h1 fun ⟨e1, e2⟩ => hwl ⟨by rw [h5, e1]; simp, fun o' k' ho' hk' => ?_⟩
        rw [ho] at ho'; obtain rfl := Option.some.inj ho'
        rw [hik] at hk'; rw [e2]; exact hk'
  have hthere : ∀ i o, ops[i]? = some o → ∀ s1, (∀ l, RdH i l ∨ WrH i l → proj s1 l = proj (Sx i) l) →
      ∃ t', stepV P gl call ops o (A i) s1 (Nn i) = some ((V i, Nn (i + 1)), t', R i, W i) ∧ (∀ l, WrH i l → proj t' l = proj (Sx (i + 1)) l) ∧ (∀ l, ¬ WrH i l → proj t' l = proj s1 l) := by
    intro i o ho s1 hag
    cases hik : insKey o with
    | none =>
      have vac : ∀ (p : Int → Prop) (o' : Oper) (k : Int), ops[i]? = some o' → insKey o' = some k → p k := by
        intro p o' k ho' hk
        rw [ho] at ho'; obtain rfl := Option.some.inj ho'
        rw [hik] at hk; cases hk
      have hR : ∀ h, h ∈ R i → s1 h = Sx i h := fun h hm => proj_at fun q => hag (h, q) (.inl ⟨hm, fun o' k h1 h2 => vac (fun k => q = none ∨ q = some k) o' k h1 h2⟩)
      have hW : ∀ h, h ∈ W i → s1 h = Sx i h := fun h hm => proj_at fun q => hag (h, q) (.inr ⟨hm, fun o' k h1 h2 => vac (fun k => q = some k) o' k h1 h2⟩)
      obtain ⟨t', e1, e2, e3⟩ := (hsame i o ho).there s1 (fun k hk => (hR k hk).symm) (fun k hk => (hW k hk).symm)
      refine ⟨t', e1, fun l hl => proj_eq (e2 l.1 hl.1).symm, fun l hl => proj_eq (e3 l.1 fun hm => hl ⟨hm, fun o' k h1 h2 => vac (fun k => l.2 = some k) o' k h1 h2⟩)⟩
    | some k =>
      rcases ins_step hik (hget i o ho).1 with ⟨h1, h2, h3, h4⟩ | ⟨hh, f, c, h1, h2, h3, h4, h5, h6⟩
      · refine ⟨s1, by rw [h2, h3]; exact h4 s1, fun l hl => ?_, fun _ _ => rfl⟩
        have := hl.1
        rw [h3] at this; simp at this
      · have vac : ∀ (p : Int → Prop), p k → ∀ (o' : Oper) (k' : Int), ops[i]? = some o' → insKey o' = some k' → p k' := by
          intro p hp o' k' ho' hk'
          rw [ho] at ho'; obtain rfl := Option.some.inj ho'
          rw [hik] at hk'; cases hk'; exact hp
        have a1 : proj s1 (hh, none) = proj (Sx i) (hh, none) := hag (hh, none) (.inl ⟨by rw [h4]; simp, vac (fun k => (none : Option Int) = none ∨ none = some k) (.inl rfl)⟩)
        have a2 : proj s1 (hh, some k) = proj (Sx i) (hh, some k) := hag (hh, some k) (.inl ⟨by rw [h4]; simp, vac (fun q => some k = none ∨ some k = some q) (.inr rfl)⟩)
        have hs1 : ∃ g, s1 hh = some (.map g) ∧ g k = none := by
          unfold proj at a1 a2
          simp only [h1] at a1 a2
          cases hs : s1 hh with
          | none => simp [hs] at a1
          | some e =>
            cases e with
            | cells _ _ => simp [hs] at a1
            | row _ _ _ _ _ => simp [hs] at a1
            | map g =>
              refine ⟨g, rfl, ?_⟩
              simp only [hs, h2] at a2
              cases hg : g k with
              | none => rfl
              | some _ => simp [hg] at a2
        obtain ⟨g, g1, g2⟩ := hs1
        refine ⟨_, by rw [h4, h5]; exact h6 s1 g g1 g2, fun l hl => ?_, fun l hl => ?_⟩
        · have e1 : l.1 = hh := by have := hl.1; rw [h5] at this; simpa using this
          have e2 : l.2 = some k := hl.2 o k ho hik
          obtain ⟨l1, l2⟩ := l
          simp only at e1 e2
          subst e1; subst e2
          rw [h3]
          unfold proj
          rw [upd_same, upd_same]
          simp [setKey]
        · refine projUpd _ _ _ _ _ _ g1 fun ⟨e1, e2⟩ => hl ⟨by rw [h5, e1]; simp, vac (fun q => l.2 = some q) e2⟩
  have ordH : Ord ops.size WrH RdH valH before := by
    refine ⟨fun i hi l hl => ?_, fun i k hik hk => ?_⟩
    · obtain ⟨o, ho⟩ := hsome i hi
      exact hlex i o ho l hl
    · rcases hconf i k hik hk with hb | ⟨x, y, hx, hy, _, htwo | ⟨d1, d2, d3⟩⟩
      · exact .inl hb
      · unfold twoKeys at htwo
        split at htwo
        · rename_i ka kb hka hkb
          have hne : ka ≠ kb := by simpa using htwo
          refine .inr fun t => ⟨fun ⟨h1, h2⟩ => ?_, fun ⟨h1, h2⟩ => ?_⟩
          · have e1 := h1.2 x ka hx hka
            rcases h2 with h2 | h2
            · rcases h2.2 y kb hy hkb with e2 | e2 <;> rw [e1] at e2 <;> cases e2
              exact hne rfl
            · have e2 := h2.2 y kb hy hkb
              rw [e1] at e2; cases e2; exact hne rfl
          · have e1 := h1.2 y kb hy hkb
            rcases h2 with h2 | h2
            · rcases h2.2 x ka hx hka with e2 | e2 <;> rw [e1] at e2 <;> cases e2
              exact hne rfl
            · have e2 := h2.2 x ka hx hka
              rw [e1] at e2; cases e2; exact hne rfl
        · simp at htwo
      · refine .inr fun t => ⟨fun ⟨h1, h2⟩ => ?_, fun ⟨h1, h2⟩ => ?_⟩
        · rcases h2 with h2 | h2
          · exact disj d1 t.1 h1.1 h2.1
          · exact disj d2 t.1 h1.1 h2.1
        · rcases h2 with h2 | h2
          · exact disj d3 t.1 h1.1 h2.1
          · exact disj d2 t.1 h2.1 h1.1
  have hfinal : ∀ (ν1 : Nu) (a1 : LAct) (s1 : LW) (w1 : World) (x1 : Act), ActR ν1 a1 x1 → Rel ν1 s1 w1 → Step ν s w ν1 s1 w1 n nN → a1.length = a.length →
      (∀ t, a1[t]? = valT ops.size t) → (∀ l, proj s1 l = valH ops.size l) → Q .normal x1 w1 := by
    intro ν1 a1 s1 w1 x1 h1 h2 h3 _ h5 h6
    have e1 : a1 = aN := by rw [← hAN]; exact List.ext_getElem? h5
    have e2 : s1 = sN := by rw [← hSN]; exact funext fun h => proj_at fun q => h6 (h, q)
    subst e1; subst e2
    exact hQ ν1 w1 x1 h3 h2 h1
  -- the rounds
  have main : ∀ (fuel : Nat) (listed : Array Bool) (ν1 : Nu) (a1 : LAct) (s1 : LW) (w1 : World) (x1 : Act),
      listed.size = ops.size → ActR ν1 a1 x1 → Rel ν1 s1 w1 → Step ν s w ν1 s1 w1 n nN → a1.length = a.length →
      (∀ i, i < ops.size → listed.getD i true = false → Fresh ν1 (Nn i) (Nn (i + 1))) →
      (∀ i k, listed.getD k false = true → DirectEdge ops i k → listed.getD i false = true) →
      Inv ops.size WrT valT (fun i => listed.getD i false = true) (fun t => a1[t]?) →
      Inv ops.size WrH valH (fun i => listed.getD i false = true) (proj s1) →
      ((List.range ops.size).filter fun i => !listed.getD i true).length ≤ fuel →
      wpAny P .any ops Q fuel listed x1 w1 := by
    have readyNil : ∀ listed : Array Bool, listed.size = ops.size → Region.ready .any ops listed = [] → ∀ i, i < ops.size → listed.getD i true = true := by
      intro listed hsz hnil i
      induction i using Nat.strongRecOn with
      | _ i ih =>
        intro hi
        cases hb : listed.getD i true with
        | true => rfl
        | false =>
          obtain ⟨o, ho⟩ := hsome i hi
          have : i ∈ Region.ready .any ops listed := mem_ready.2 ⟨hb, o, ho, fun e he hbe => by
            have hlt := (hok' i hi).1 o ho e (by simpa using he) hbe
            have h1 := ih e.on hlt (by omega)
            simpa [show e.on < listed.size by omega] using h1⟩
          rw [hnil] at this
          simp at this
    have same_get : ∀ (listed : Array Bool) (i : Nat), listed.size = ops.size → i < ops.size → listed.getD i true = listed.getD i false := by
      intro listed i h1 h2
      simp [show i < listed.size by omega]
    have finish : ∀ (listed : Array Bool) (ν1 : Nu) (a1 : LAct) (s1 : LW) (w1 : World) (x1 : Act),
        listed.size = ops.size → ActR ν1 a1 x1 → Rel ν1 s1 w1 → Step ν s w ν1 s1 w1 n nN → a1.length = a.length →
        Inv ops.size WrT valT (fun i => listed.getD i false = true) (fun t => a1[t]?) →
        Inv ops.size WrH valH (fun i => listed.getD i false = true) (proj s1) →
        (∀ i, i < ops.size → listed.getD i true = true) → Q .normal x1 w1 := by
      intro listed ν1 a1 s1 w1 x1 hsz h1 h2 h3 h4 h5 h6 hall
      have hall' : ∀ i, i < ops.size → listed.getD i false = true := fun i hi => by rw [← same_get listed i hsz hi]; exact hall i hi
      exact hfinal ν1 a1 s1 w1 x1 h1 h2 h3 h4 (fun t => h5.final ordT hall' t) (fun k => h6.final ordH hall' k)
    have hAlen : ∀ i, i ≤ ops.size → (A i).length = a.length := by
      intro i
      induction i with
      | zero => intro _; rw [hA0]
      | succ i ih =>
        intro hi
        obtain ⟨o, ho⟩ := hsome i (by omega)
        rw [(hget i o ho).2, ← ih (by omega)]
        cases o.dst <;> simp [putL]
    intro fuel
    induction fuel with
    | zero =>
      intro listed ν1 a1 s1 w1 x1 hsz h1 h2 h3 h4 h5 h6 h7 h8 hcount
      have hnil : ((List.range ops.size).filter fun i => !listed.getD i true) = [] := List.eq_nil_of_length_eq_zero (by omega)
      have hall : ∀ i, i < ops.size → listed.getD i true = true := by
        intro i hi
        have := List.filter_eq_nil_iff.1 hnil i (by simpa using hi)
        simpa using this
      refine ⟨?_, finish listed ν1 a1 s1 w1 x1 hsz h1 h2 h3 h4 h7 h8 hall⟩
      refine List.eq_nil_iff_forall_not_mem.2 fun i hi => ?_
      obtain ⟨hb, o, ho, _⟩ := mem_ready.1 hi
      have hlt : i < ops.size := (Array.getElem?_eq_some_iff.1 ho).1
      rw [hall i hlt] at hb
      simp at hb
    | succ fuel ih =>
      intro listed ν1 a1 s1 w1 x1 hsz h1 h2 h3 h4 h5 h6 h7 h8 hcount
      refine ⟨fun hnil => finish listed ν1 a1 s1 w1 x1 hsz h1 h2 h3 h4 h7 h8 (readyNil listed hsz hnil), fun i hi => ?_⟩
      obtain ⟨hb, o, ho, hedge⟩ := mem_ready.1 hi
      have hlt : i < ops.size := (Array.getElem?_eq_some_iff.1 ho).1
      have hnS : ¬ listed.getD i false = true := by rw [← same_get listed i hsz hlt, hb]; simp
      have hmem : o ∈ ops.toList := List.mem_of_getElem? (by simpa using ho : ops.toList[i]? = some o)
      have hclosed : ∀ j k, listed.getD k false = true → before j k → listed.getD j false = true := by
        intro j k hk hjk
        have hk' : k < ops.size := by
          rcases Nat.lt_or_ge k listed.size with hh | hh
          · omega
          · simp [Array.getElem?_eq_none hh] at hk
        exact closure_closed ops (fun j => listed.getD j false = true) h6 k hk' hk j hjk
      have hready : ∀ j, DirectEdge ops j i → listed.getD j false = true := by
        rintro j ⟨o', ho', e, he, hbe, rfl⟩
        rw [ho] at ho'
        obtain rfl := Option.some.inj ho'
        exact hedge e (by simpa using he) hbe
      have hpre : ∀ j, j < i → before j i → listed.getD j false = true := by
        intro j hji hb'
        rcases closure_ready ops (fun j => listed.getD j false = true) h6 i hlt hready j hb' with hh | hh
        · exact hh
        · omega
      have agT : ∀ t, RdT i t ∨ WrT i t → a1[t]? = (A i)[t]? := fun t ht => h7.agree ordT hclosed hlt hnS hpre ht
      have agH : ∀ l, RdH i l ∨ WrH i l → proj s1 l = proj (Sx i) l := fun l hl => h8.agree ordH hclosed hlt hnS hpre hl
      obtain ⟨t', e1, e2, e3⟩ := hthere i o ho s1 agH
      have e1' : stepV P gl call ops o a1 s1 (Nn i) = some ((V i, Nn (i + 1)), t', R i, W i) := by
        rw [stepV_congr (a := a1) (b := A i) s1 (Nn i) (fun t ht => agT t (.inl ⟨o, ho, ht⟩))]
        exact e1
      have hfr := h5 i hlt hb
      have hsound := hs o hmem ν1 a1 s1 w1 x1 (Nn i) (V i) (Nn (i + 1)) t' (R i) (W i) h1 h2 (hg.mono h3.le) hfr e1' (wpAny P .any ops Q fuel (listed.setIfInBounds i true)) Q
        (fun ν' w' y hst hrel hv => by
          have hwr : ∀ t, WrT i t ↔ o.dst = some t := fun t => ⟨fun ⟨o', ho', hd⟩ => by rw [ho] at ho'; obtain rfl := Option.some.inj ho'; exact hd, fun hd => ⟨o, ho, hd⟩⟩
          have hset : ∀ j, j < ops.size → ((listed.getD j false = true ∨ j = i) ↔ (listed.setIfInBounds i true).getD j false = true) := by
            intro j hj
            constructor
            · rintro (hh | rfl)
              · exact getD_set_true hh
              · simp [show j < listed.size by omega]
            · intro hh
              by_cases hji : j = i
              · exact .inr hji
              · rw [getD_set_ne false (Ne.symm hji)] at hh
                exact .inl hh
          refine ih (listed.setIfInBounds i true) ν' (putL a1 o.dst (V i)) t' w' (x1.put o.dst y) (by simpa using hsz) ((h1.mono hst.le).put o.dst hv) hrel
            (h3.trans' (hst.wide (by rw [← hN0]; exact hmono' 0 i (by omega) (by omega)) (by rw [← hNN]; exact hmono' (i + 1) ops.size (by omega) (Nat.le_refl _)))) ?_ ?_ ?_ ?_ ?_ ?_
          · rw [← h4]; cases o.dst <;> simp [putL]
          · intro j hj hbj
            have hji : j ≠ i := by
              rintro rfl
              simp [show j < listed.size by omega] at hbj
            rw [getD_set_ne true (Ne.symm hji)] at hbj
            intro k hk1 hk2
            refine hst.new k (h5 j hj hbj k hk1 hk2) ?_
            rcases Nat.lt_or_ge j i with hlt' | hge
            · exact .inl (Nat.lt_of_lt_of_le hk2 (hmono' (j + 1) i hlt' (by omega)))
            · exact .inr (Nat.le_trans (hmono' (i + 1) j (by omega) (by omega)) hk1)
          · intro j k hk hd
            by_cases hki : k = i
            · subst hki
              exact getD_set_true (hready j hd)
            · rw [getD_set_ne false (Ne.symm hki)] at hk
              exact getD_set_true (h6 j k hk hd)
          · refine (h7.step ordT hclosed hlt hnS (cur' := fun t => (putL a1 o.dst (V i))[t]?) (fun t ht => ?_) (fun t ht => ?_)).congr hset
            · have hd : o.dst ≠ some t := fun e => ht ((hwr t).2 e)
              unfold putL
              cases hdst : o.dst with
              | none => rfl
              | some d => exact List.getElem?_set_ne (fun e => hd (by rw [hdst, e]))
            · have hd := (hwr t).1 ht
              simp only [valT]
              rw [(hget i o ho).2]
              unfold putL
              rw [hd]
              simp only [List.getElem?_set_self']
              have hl1 : a1.length = (A i).length := by rw [h4, hAlen i (by omega)]
              rcases Nat.lt_or_ge t a1.length with hh | hh
              · rw [List.getElem?_eq_getElem hh, List.getElem?_eq_getElem (by omega)]; rfl
              · rw [List.getElem?_eq_none hh, List.getElem?_eq_none (by omega)]
          · refine (h8.step ordH hclosed hlt hnS (cur' := proj t') (fun k hk => e3 k hk) (fun k hk => e2 k hk)).congr hset
          · have hlt' := List.length_filter_lt (p := fun j => !listed.getD j true) (q := fun j => !(listed.setIfInBounds i true).getD j true) (l := List.range ops.size)
              (fun j hj => by
                by_cases hji : j = i
                · subst hji; simp [show j < listed.size by omega] at hj
                · rw [getD_set_ne true (Ne.symm hji)] at hj; exact hj)
              i (by simpa using hlt) (by rw [hb]; rfl) (by simp [show i < listed.size by omega])
            omega)
      unfold wpOp
      simp only [ho]
      split
      · rename_i hw
        rw [if_pos hw] at hsound
        exact .inl hsound
      · rename_i hw
        rw [if_neg hw] at hsound
        exact hsound
  have hzero : ∀ i, (Array.replicate ops.size false).getD i false = false := by
    intro i
    rcases Nat.lt_or_ge i ops.size with hh | hh
    · simp [hh]
    · simp [Array.getElem?_eq_none (show (Array.replicate ops.size false).size ≤ i by simpa using hh)]
  refine main ops.size (Array.replicate ops.size false) ν a s w.drew x (by simp) ha (drew_rel hr) ?_ rfl ?_ ?_ ?_ ?_ ?_
  · exact (drew_step ν s w n).wide (Nat.le_refl _) (by rw [← hNN, ← hN0]; exact hmono' 0 ops.size (by omega) (Nat.le_refl _))
  · intro i hi _ k hk1 hk2
    refine hf k ?_ ?_
    · rw [← hN0]; exact Nat.le_trans (hmono' 0 i (by omega) (by omega)) hk1
    · rw [← hNN]; exact Nat.lt_of_lt_of_le hk2 (hmono' (i + 1) ops.size (by omega) (Nat.le_refl _))
  · intro i k hk
    rw [hzero k] at hk
    simp at hk
  · have h0 := (Inv.start (N := ops.size) (Wr := WrT) (val := valT)).congr (S' := fun i => (Array.replicate ops.size false).getD i false = true) (fun i _ => by rw [hzero i]; simp)
    have e0 : valT 0 = fun t => a[t]? := by funext t; show (A 0)[t]? = a[t]?; rw [hA0]
    rw [e0] at h0
    exact h0
  · have h0 := (Inv.start (N := ops.size) (Wr := WrH) (val := valH)).congr (S' := fun i => (Array.replicate ops.size false).getD i false = true) (fun i _ => by rw [hzero i]; simp)
    have e0 : valH 0 = proj s := by show proj (Sx 0) = proj s; rw [hS0]
    rw [e0] at h0
    exact h0
  · have := List.length_filter_le (fun i => !(Array.replicate ops.size false).getD i true) (List.range ops.size)
    simpa using this

end
end Go.Ev

namespace Go.Ev

section
variable {P : Program}

theorem prun_run {α : Type} : ∀ (x : Sem α) (a : α), prun P x = some a → ∀ w, x.run P w = .ok a w
  | .pure a, b, h, w => by simp [prun] at h; subst h; rfl
  | .program k, b, h, w => by
    have := prun_run (k P) b (by simpa [prun] using h) w
    exact this
  | .load _ _ _, _, h, _ | .store _ _ _ _, _, h, _ | .new _ _, _, h, _ | .shape _ _, _, h, _ | .freeze _ _ _, _, h, _ | .frozen _ _, _, h, _ | .getObj _ _, _, h, _
  | .setObj _ _ _, _, h, _ | .choose _ _, _, h, _ | .sys _ _, _, h, _ | .mark _ _, _, h, _ | .halt _, _, h, _ => by simp [prun] at h

theorem isAggL_run {t : TypeId} {b : Bool} (h : isAggL P t = some b) (w : World) : (isAgg t).run P w = .ok b w := by
  unfold isAggL at h
  cases hu : P.underlying t with
  | none => simp [hu] at h
  | some d =>
    simp only [isAgg, Sem.run_bind, run_underlying hu, Result.andThen_ok]
    cases d <;> simp [hu] at h <;> subst h <;> rfl

theorem sizeL_info {t : TypeId} {n : Nat} (h : sizeL P t = some n) : ∃ i, P.info? t = some i ∧ i.size = n := by
  unfold sizeL at h
  cases hi : P.info? t with
  | none => simp [hi] at h
  | some i => exact ⟨i, rfl, by simpa [hi] using h⟩

theorem sizeL_run {t : TypeId} {n : Nat} (h : sizeL P t = some n) (w : World) : (sizeOf t).run P w = .ok n w := by
  obtain ⟨i, hi, rfl⟩ := sizeL_info h
  simp [sizeOf, typeInfo, hi]

/-! ## readings of cells that lie one behind the other -/
def Win (ν : Nu) (w : World) (a : Addr) (cs : List Cell) : Prop := ∃ ys, All2 (hR ν) cs ys ∧ ∀ j y, ys[j]? = some y → w.cell? (a.add j) = some y

theorem hR_cell {ν : Nu} {cs : List Cell} {ys : List Value} (h : All2 (hR ν) cs ys) : All2 (cellR ν) cs ys := h.mono fun _ _ h => h.1

theorem Win.drop {ν : Nu} {w : World} {b o : Nat} {cs : List Cell} (h : Win ν w ⟨b, o, none⟩ cs) (n : Nat) : Win ν w ⟨b, o + n, none⟩ (cs.drop n) := by
  obtain ⟨ys, h1, h2⟩ := h
  refine ⟨ys.drop n, h1.drop n, fun j y hy => ?_⟩
  rw [List.getElem?_drop] at hy
  have := h2 _ _ hy
  rw [Addr.add_lit] at this ⊢
  rw [Nat.add_assoc]
  exact this

theorem loadVar_win {ν : Nu} {w : World} {b o : Nat} {cs : List Cell} (h : Win ν w ⟨b, o, none⟩ cs) {t : TypeId} {off : Nat} {v : V1} (hp : partL P t cs off = some v) :
    ∃ u, (loadVar t ⟨b, o + off, none⟩).run P w = .ok u w ∧ v1R ν v u := by
  unfold partL at hp
  cases hA : isAggL P t with
  | none => simp [hA] at hp
  | some g =>
    cases hS : sizeL P t with
    | none => cases g <;> simp [hA, hS] at hp
    | some n =>
      obtain ⟨ys, h1, h2⟩ := h.drop off
      cases g with
      | true =>
        simp only [hA, hS] at hp
        split at hp
        · rename_i hl
          obtain rfl := Option.some.inj hp
          have hl2 : (ys.take n).length = n := by rw [← (h1.take n).length]; exact hl
          refine ⟨.agg (ys.take n).toArray, ?_, ys.take n, hR_cell (h1.take n), rfl⟩
          have := run_loadCells_list (P := P) w ⟨b, o + off, none⟩ (ys.take n) (fun j v hj => h2 j v (by
            rw [List.getElem?_take] at hj
            split at hj
            · exact hj
            · simp at hj))
          rw [hl2] at this
          simp only [loadVar, Sem.run_bind, isAggL_run hA, Result.andThen_ok, if_true, sizeL_run hS, this, Sem.run_pure]
        · simp at hp
      | false =>
        simp only [hA, hS] at hp
        cases hc : cs[off]? with
        | none => simp [hc] at hp
        | some c =>
          simp [hc] at hp
          subst hp
          obtain ⟨y, e1, e2⟩ := h1.get (i := 0) (x := c) (by simpa [List.getElem?_drop] using hc)
          have hcell := h2 0 y e1
          rw [Addr.add_lit, Nat.add_zero] at hcell
          refine ⟨y, ?_, e2.1⟩
          simp only [loadVar, Sem.run_bind, isAggL_run hA, Result.andThen_ok, Bool.false_eq_true, if_false, run_load, hcell]

theorem win_cells {ν : Nu} {w : World} {b : Nat} {cs : List Cell} {cs' : List Value} {t : TypeId} {fz : Nat × Nat} (hw : w.heap[b]? = some (.cells cs'.toArray t fz)) (h : All2 (hR ν) cs cs') :
    Win ν w ⟨b, 0, none⟩ cs := by
  refine ⟨cs', h, fun j y hy => ?_⟩
  rw [Addr.add_lit, Nat.zero_add, cell_of_row w b j _ t fz hw]
  simpa using hy

theorem win_row {ν : Nu} {i : HI} {ro : Bool} {t : TypeId} {sz n : Nat} {f : Nat → List Cell} {w : World} (h : rowR ν i ro t sz n f w) {j : Nat} (hj : j < n) :
    ∃ b, i.blk = some b ∧ i.sz = sz ∧ (f j).length = sz ∧ Win ν w ⟨b, i.base + j * sz, none⟩ (f j) := by
  obtain ⟨h1, h2, h3, h4, h5, h6⟩ := h
  cases hb : i.blk with
  | none => simp only [hb] at h6; omega
  | some b =>
    simp only [hb] at h6
    obtain ⟨cur, t', fz, g1, g2, g3, g4⟩ := h6
    obtain ⟨ys, k1, k2, k3⟩ := g4 j hj
    refine ⟨b, rfl, h1, by rw [k1.length, k2], ys, k1, fun k y hy => ?_⟩
    rw [Addr.add_lit, cell_of_row w b _ cur t' fz g1]
    exact k3 k y hy

theorem intsOf_spec {ν : Nu} {k : IntKind} : ∀ {cs : List Cell} {xs : List Int} {ys : List Value}, intsOf k cs = some xs → All2 (cellR ν) cs ys → ys = xs.map (Value.int k)
  | [], xs, ys, h, h2 => by
    simp [intsOf] at h; subst h; cases h2; rfl
  | c :: cs, xs, ys, h, h2 => by
    cases h2 with
    | cons h3 h4 =>
      cases c <;> try (simp [intsOf] at h; done)
      rename_i u
      cases u <;> try (simp [intsOf] at h; done)
      rename_i k' x
      simp only [intsOf] at h
      split at h
      · rename_i hk
        cases hx : intsOf k cs with
        | none => simp [hx] at h
        | some xs' =>
          simp [hx] at h
          subst h
          subst hk
          have := intsOf_spec hx h4
          rw [this]
          simp only [cellR] at h3
          rw [h3]; rfl
      · simp at h

theorem intKindL_agg {t : TypeId} {k : IntKind} (h : intKindL P t = some k) : isAggL P t = some false := by
  unfold intKindL at h
  unfold isAggL
  cases hu : P.underlying t with
  | none => simp [hu] at h
  | some d => cases d <;> simp [hu] at h ⊢

theorem load_sound {ν : Nu} {s : LW} {w : World} (hr : Rel ν s w) {t : TypeId} {c : Cell} {y : Value} (hy : cellR ν c y) {n : Nat} {out : Out} {s' : LW} {r wf : List Nat}
    (h : (loadL P t c fun v => retv v n).out s = some (out, s', r, wf)) :
    s' = s ∧ ∃ v u, out = .val (.o v) n ∧ (Instr.loadAt t y).run P w = .ok u w ∧ v1R ν v u := by
  cases c with
  | p a off =>
    simp only [loadL, Ac.out_get] at h
    cases hs : s a with
    | none => simp [hs] at h
    | some e =>
      simp only [hs] at h
      cases e with
      | cells ct cs =>
        simp only [] at h
        cases hp : partL P t cs off with
        | none => simp [hp] at h
        | some v =>
          simp [hp, retv] at h
          obtain ⟨rfl, rfl, rfl, rfl⟩ := h
          obtain ⟨i, b, h1, h2, rfl⟩ := hy
          obtain ⟨i', g1, b', cs', g2, g3, g4, g5⟩ := hr.ent a _ hs
          rw [h1] at g1; obtain rfl := Option.some.inj g1
          rw [h2] at g2; obtain rfl := Option.some.inj g2
          obtain ⟨u, k1, k2⟩ := loadVar_win (P := P) (win_cells g4 g5) hp
          refine ⟨rfl, v, u, rfl, ?_, k2⟩
          simp only [Instr.loadAt, Instr.sureAddr, Sem.run_bind, Sem.run_pure, Result.andThen_ok, g3]
          exact k1
      | row _ _ _ _ _ => simp at h
      | map _ => simp at h
  | q a off len j =>
    simp only [loadL, Ac.out_get] at h
    cases hs : s a with
    | none => simp [hs] at h
    | some e =>
      simp only [hs] at h
      cases e with
      | cells ct cs =>
        simp only [] at h
        cases hk : intKindL P t with
        | none => simp [hk] at h
        | some kd =>
          simp only [hk] at h
          cases hx : intsOf kd ((cs.drop off).take len) with
          | none => simp [hx] at h
          | some xs =>
            simp only [hx] at h
            split at h
            · rename_i hl
              simp only [chk, Ac.out_br, decide_eq_true_eq] at h
              split at h
              · rename_i hj
                simp [retv] at h
                obtain ⟨rfl, rfl, rfl, rfl⟩ := h
                obtain ⟨i, b, h1, h2, rfl⟩ := hy
                obtain ⟨i', g1, b', cs', g2, g3, g4, g5⟩ := hr.ent a _ hs
                rw [h1] at g1; obtain rfl := Option.some.inj g1
                rw [h2] at g2; obtain rfl := Option.some.inj g2
                have hm := intsOf_spec hx (hR_cell ((g5.drop off).take len))
                have hcell : cs'[off + j]? = some (.int kd (xs.getD j 0)) := by
                  have : ((cs'.drop off).take len)[j]? = some (.int kd (xs.getD j 0)) := by
                    rw [hm]; simp [List.getD_eq_getElem?_getD, hl, hj]
                  rw [List.getElem?_take] at this
                  simpa [hj, List.getElem?_drop] using this
                refine ⟨rfl, _, _, rfl, ?_, rfl⟩
                simp only [Instr.loadAt, Instr.sureAddr, Sem.run_bind, Sem.run_pure, Result.andThen_ok, g3, loadVar, isAggL_run (intKindL_agg hk), Bool.false_eq_true, if_false, run_load]
                rw [cell_of_row w b _ _ ct (0, 0) g4]
                simp only [Nat.zero_add, List.getElem?_toArray, hcell, List.getD_eq_getElem?_getD]
              · simp at h
            · simp at h
      | row _ _ _ _ _ => simp at h
      | map _ => simp at h
  | e a j off =>
    simp only [loadL, Ac.out_get] at h
    cases hs : s a with
    | none => simp [hs] at h
    | some e =>
      simp only [hs] at h
      cases e with
      | row ro rt sz m f =>
        simp only [chk, Ac.out_br, decide_eq_true_eq] at h
        split at h
        · rename_i hj
          cases hp : partL P t (f j) off with
          | none => simp [hp] at h
          | some v =>
            simp [hp, retv] at h
            obtain ⟨rfl, rfl, rfl, rfl⟩ := h
            obtain ⟨i, b, h1, h2, rfl⟩ := hy
            obtain ⟨i', g1, g2⟩ := hr.ent a _ hs
            rw [h1] at g1; obtain rfl := Option.some.inj g1
            obtain ⟨b', k1, k2, k3, k4⟩ := win_row g2 hj
            rw [h2] at k1; obtain rfl := Option.some.inj k1
            obtain ⟨u, m1, m2⟩ := loadVar_win (P := P) k4 hp
            refine ⟨rfl, v, u, rfl, ?_, m2⟩
            simp only [Instr.loadAt, Instr.sureAddr, Sem.run_bind, Sem.run_pure, Result.andThen_ok, k2]
            rw [show i.base + (j * sz + off) = i.base + j * sz + off by omega]
            exact m1
        · simp at h
      | cells _ _ => simp at h
      | map _ => simp at h
  | v _ => simp [loadL] at h
  | r _ => simp [loadL] at h
  | s _ _ _ => simp [loadL] at h
  | m _ => simp [loadL] at h
  | f _ _ => simp [loadL] at h
  | u => simp [loadL] at h

end
end Go.Ev

namespace Go.Ev

/-! ## changes of the memory -/
theorem entR_keep {ν ν' : Nu} (hn : ν.le ν') {i : HI} {e : Entry} {w w' : World} (h : entR ν i e w) (hk : ∀ b, i.blk = some b → w'.heap[b]? = w.heap[b]?) : entR ν' i e w' := by
  cases e with
  | cells t cs =>
    obtain ⟨b, cs', h1, h2, h3, h4⟩ := h
    exact ⟨b, cs', h1, h2, by rw [hk b h1]; exact h3, h4.mono fun _ _ => hR_mono hn⟩
  | row ro t sz n f =>
    obtain ⟨h1, h2, h3, h4, h5, h6⟩ := h
    refine ⟨h1, h2, h3, h4, h5, ?_⟩
    cases hb : i.blk with
    | none => simpa [hb] using h6
    | some b =>
      simp only [hb] at h6 ⊢
      obtain ⟨cur, t', fz, g1, g2, g3, g4⟩ := h6
      refine ⟨cur, t', fz, by rw [hk b hb]; exact g1, g2, g3, fun j hj => ?_⟩
      obtain ⟨ys, k1, k2, k3⟩ := g4 j hj
      exact ⟨ys, k1.mono fun _ _ => hR_mono hn, k2, k3⟩
  | map f =>
    obtain ⟨b, es', clock, h1, h2, h3⟩ := h
    exact ⟨b, es', clock, h1, by rw [hk b h1]; exact h2, h3.keys, fun k => (h3.vals k).imp id fun ⟨c, y, g1, g2, g3⟩ => ⟨c, y, g1, g2, cellR_mono hn g3⟩⟩

theorem Rel.drop {ν : Nu} {s : LW} {w : World} (hr : Rel ν s w) (h : Nat) : Rel ν (s.upd h none) w := by
  refine ⟨fun k e hk => ?_, fun k k' e e' i i' b hk hk' h1 h2 h3 h4 hne => ?_⟩
  · by_cases hkh : k = h
    · subst hkh; rw [upd_same] at hk; cases hk
    · rw [upd_other _ _ hkh] at hk; exact hr.ent k e hk
  · have : k ≠ h := by rintro rfl; rw [upd_same] at hk; cases hk
    have : k' ≠ h := by rintro rfl; rw [upd_same] at hk'; cases hk'
    rw [upd_other _ _ (by assumption)] at hk hk'
    exact hr.sep k k' e e' i i' b hk hk' h1 h2 h3 h4 hne

theorem Rel.set {ν ν' : Nu} {s : LW} {w w' : World} (hr : Rel ν s w) (hn : ν.le ν') {h0 : Nat} {e0 : Entry} {i0 : HI} (hi : ν' h0 = some i0) (he : entR ν' i0 e0 w')
    (hk : ∀ k e i b, k ≠ h0 → s k = some e → ν k = some i → i.blk = some b → w'.heap[b]? = w.heap[b]?)
    (hs : ∀ k e i b, k ≠ h0 → s k = some e → ν k = some i → i.blk = some b → i0.blk = some b → e0.ro = true ∧ e.ro = true) : Rel ν' (s.upd h0 (some e0)) w' := by
  have old : ∀ k e, k ≠ h0 → (s.upd h0 (some e0)) k = some e → s k = some e := fun k e h1 h2 => by rwa [upd_other _ _ h1] at h2
  refine ⟨fun k e h1 => ?_, fun k k' e e' i i' b h1 h2 h3 h4 h5 h6 hne => ?_⟩
  · by_cases hkh : k = h0
    · subst hkh
      rw [upd_same] at h1
      obtain rfl := Option.some.inj h1
      exact ⟨i0, hi, he⟩
    · have h1' := old k e hkh h1
      obtain ⟨i, g1, g2⟩ := hr.ent k e h1'
      exact ⟨i, hn _ _ g1, entR_keep hn g2 fun b hb => hk k e i b hkh h1' g1 hb⟩
  · by_cases hkh : k = h0
    · subst hkh
      rw [upd_same] at h1
      obtain rfl := Option.some.inj h1
      have h2' := old k' e' (Ne.symm hne) h2
      obtain ⟨i2, g1, _⟩ := hr.ent k' e' h2'
      have := hn _ _ g1; rw [h4] at this; obtain rfl := Option.some.inj this
      rw [h3] at hi; obtain rfl := Option.some.inj hi
      exact hs k' e' i' b (Ne.symm hne) h2' g1 h6 h5
    · have h1' := old k e hkh h1
      obtain ⟨i1, g1, _⟩ := hr.ent k e h1'
      have := hn _ _ g1; rw [h3] at this; obtain rfl := Option.some.inj this
      by_cases hkh' : k' = h0
      · subst hkh'
        rw [upd_same] at h2
        obtain rfl := Option.some.inj h2
        rw [h4] at hi; obtain rfl := Option.some.inj hi
        exact (hs k e i b hkh h1' g1 h5 h6).symm
      · have h2' := old k' e' hkh' h2
        obtain ⟨i2, g2, _⟩ := hr.ent k' e' h2'
        have := hn _ _ g2; rw [h4] at this; obtain rfl := Option.some.inj this
        exact hr.sep k k' e e' i i' b h1' h2' g1 g2 h5 h6 hne

theorem Rel.lt {ν : Nu} {s : LW} {w : World} (hr : Rel ν s w) {k : Nat} {e : Entry} {i : HI} {b : Nat} (h1 : s k = some e) (h2 : ν k = some i) (h3 : i.blk = some b) : b < w.heap.size := by
  obtain ⟨i', g1, g2⟩ := hr.ent k e h1
  rw [h2] at g1; obtain rfl := Option.some.inj g1
  have : ∃ o, w.heap[b]? = some o := by
    cases e with
    | cells t cs => obtain ⟨b', cs', k1, k2, k3, k4⟩ := g2; rw [h3] at k1; obtain rfl := Option.some.inj k1; exact ⟨_, k3⟩
    | row ro t sz n f =>
      obtain ⟨_, _, _, _, _, g⟩ := g2
      simp only [h3] at g
      obtain ⟨cur, t', fz, g1, _⟩ := g
      exact ⟨_, g1⟩
    | map f => obtain ⟨b', es', clock, k1, k2, k3⟩ := g2; rw [h3] at k1; obtain rfl := Option.some.inj k1; exact ⟨_, k2⟩
  obtain ⟨o, ho⟩ := this
  exact (Array.getElem?_eq_some_iff.1 ho).1

/-- a block of one's own is written -/
theorem write_own {ν : Nu} {s : LW} {w w' : World} (hr : Rel ν s w) {h : Nat} {e e' : Entry} {i : HI} {b : Nat} (h1 : s h = some e) (h2 : ν h = some i) (h3 : i.blk = some b) (hro : e.ro = false)
    (hw : ∀ k, k ≠ b → w'.heap[k]? = w.heap[k]?) (hsize : w'.heap.size = w.heap.size) (hos : w'.os = w.os) (htape : w'.tape = w.tape) (hout : w'.output = w.output)
    (he : entR ν i e' w') (n : Nat) : Rel ν (s.upd h (some e')) w' ∧ Step ν s w ν (s.upd h (some e')) w' n n := by
  refine ⟨hr.set (Nu.le_refl _) h2 he (fun k f j c hk g1 g2 g3 => ?_) (fun k f j c hk g1 g2 g3 g4 => ?_), ?_⟩
  · refine hw c fun hcb => ?_
    subst hcb
    have := (hr.sep k h f e j i c g1 h1 g2 h2 g3 h3 hk).2
    rw [hro] at this; cases this
  · rw [h3] at g4; obtain rfl := Option.some.inj g4
    have := (hr.sep k h f e j i b g1 h1 g2 h2 g3 h3 hk).2
    rw [hro] at this; cases this
  · refine ⟨Nu.le_refl _, fun _ h _ => h, hos, htape, hout, Nat.le_of_eq hsize.symm, fun c hc ho => hw c ?_, fun c hc => ?_⟩
    · rintro rfl; exact ho ⟨h, e, i, h1, h2, h3⟩
    · obtain ⟨k, f, j, g1, g2, g3⟩ := hc
      by_cases hk : k = h
      · subst hk; rw [h2] at g2; obtain rfl := Option.some.inj g2
        exact .inl ⟨k, e, i, h1, h2, g3⟩
      · rw [upd_other _ _ hk] at g1
        exact .inl ⟨k, f, j, g1, g2, g3⟩

def Nu.set (ν : Nu) (h : Nat) (i : HI) : Nu := fun k => if k = h then some i else ν k
theorem Nu.set_same (ν : Nu) (h : Nat) (i : HI) : ν.set h i h = some i := by simp [Nu.set]
theorem Nu.le_set {ν : Nu} {h : Nat} (i : HI) (hn : ν h = none) : ν.le (ν.set h i) := by
  intro k j hk
  unfold Nu.set
  split
  · rename_i e; subst e; rw [hn] at hk; cases hk
  · exact hk

/-- a new block -/
theorem alloc_new {ν : Nu} {s : LW} {w : World} (hr : Rel ν s w) {n : Nat} (hf : Fresh ν n (n + 1)) {o : Obj} {e : Entry} {i : HI} (hi : i.blk = some w.heap.size) (he : entR (ν.set n i) i e (w.alloc o)) :
    Rel (ν.set n i) (s.upd n (some e)) (w.alloc o) ∧ Step ν s w (ν.set n i) (s.upd n (some e)) (w.alloc o) n (n + 1) := by
  have hnone : ν n = none := hf n (Nat.le_refl _) (by omega)
  have hle := Nu.le_set i hnone
  refine ⟨hr.set hle (Nu.set_same _ _ _) he (fun k f j c hk g1 g2 g3 => heap_alloc_old w o c (hr.lt g1 g2 g3)) (fun k f j c hk g1 g2 g3 g4 => ?_), ?_⟩
  · rw [hi] at g4; obtain rfl := Option.some.inj g4
    exact absurd (hr.lt g1 g2 g3) (Nat.lt_irrefl _)
  · refine ⟨hle, fun k hk ho => ?_, rfl, rfl, rfl, by simp, fun c hc _ => heap_alloc_old w o c hc, fun c hc => ?_⟩
    · unfold Nu.set; rw [if_neg (by omega)]; exact hk
    · obtain ⟨k, f, j, g1, g2, g3⟩ := hc
      by_cases hk : k = n
      · subst hk; rw [Nu.set_same] at g2; obtain rfl := Option.some.inj g2
        rw [hi] at g3; obtain rfl := Option.some.inj g3
        exact .inr (Nat.le_refl _)
      · rw [upd_other _ _ hk] at g1
        unfold Nu.set at g2; rw [if_neg hk] at g2
        exact .inl ⟨k, f, j, g1, g2, g3⟩

/-- a new name without a block -/
theorem bare_new {ν : Nu} {s : LW} {w : World} (hr : Rel ν s w) {n : Nat} (hf : Fresh ν n (n + 1)) {e : Entry} {i : HI} (hi : i.blk = none) (he : entR (ν.set n i) i e w) :
    Rel (ν.set n i) (s.upd n (some e)) w ∧ Step ν s w (ν.set n i) (s.upd n (some e)) w n (n + 1) := by
  have hnone : ν n = none := hf n (Nat.le_refl _) (by omega)
  have hle := Nu.le_set i hnone
  refine ⟨hr.set hle (Nu.set_same _ _ _) he (fun k f j c hk g1 g2 g3 => rfl) (fun k f j c hk g1 g2 g3 g4 => ?_), ?_⟩
  · rw [hi] at g4; cases g4
  · refine ⟨hle, fun k hk ho => ?_, rfl, rfl, rfl, Nat.le_refl _, fun c hc _ => rfl, fun c hc => ?_⟩
    · unfold Nu.set; rw [if_neg (by omega)]; exact hk
    · obtain ⟨k, f, j, g1, g2, g3⟩ := hc
      by_cases hk : k = n
      · subst hk; rw [Nu.set_same] at g2; obtain rfl := Option.some.inj g2
        rw [hi] at g3; cases g3
      · rw [upd_other _ _ hk] at g1
        unfold Nu.set at g2; rw [if_neg hk] at g2
        exact .inl ⟨k, f, j, g1, g2, g3⟩

/-! ## stores -/
theorem oneOK_R {ν : Nu} {c : Cell} {y : Value} (h : oneOK c = true) (hy : cellR ν c y) : y.oneCell' = true := by
  cases c with
  | v x => simp only [cellR] at hy; subst hy; cases y <;> simp [oneOK] at h <;> rfl
  | p a off => obtain ⟨i, b, _, _, rfl⟩ := hy; rfl
  | q a off l j => obtain ⟨i, b, _, _, rfl⟩ := hy; rfl
  | e a j off => obtain ⟨i, b, _, _, rfl⟩ := hy; rfl
  | r a => obtain ⟨i, A, _, rfl, _⟩ := hy; rfl
  | s a lo len => obtain ⟨i, A, c, _, rfl, _⟩ := hy; rfl
  | m a => obtain ⟨i, b, _, _, rfl⟩ := hy; rfl
  | f fn caps => obtain ⟨cs, _, rfl⟩ := hy; rfl
  | u => exact hy.1

theorem allOK_R {ν : Nu} : ∀ {cs : List Cell} {ys : List Value}, cs.all oneOK = true → All2 (cellR ν) cs ys → All2 (hR ν) cs ys
  | [], _, _, h => by cases h; exact .nil
  | c :: cs, _, ho, h => by
    simp only [List.all_cons, Bool.and_eq_true] at ho
    cases h with
    | cons h1 h2 => exact .cons ⟨h1, oneOK_R ho.1 h1⟩ (allOK_R ho.2 h2)

theorem hR_all {ν : Nu} {cs : List Cell} {ys : List Value} (h : All2 (hR ν) cs ys) : ∀ v ∈ ys, v.oneCell' = true := by
  induction h with
  | nil => intro v hv; simp at hv
  | cons h1 _ ih =>
    intro v hv
    rcases List.mem_cons.1 hv with rfl | hv
    · exact h1.2
    · exact ih v hv

theorem v1_cells {ν : Nu} {v : V1} {y : Value} (ho : v.ok = true) (h : v1R ν v y) : All2 (hR ν) v.cells y.cells.toList := by
  cases v with
  | c x =>
    have h1 := oneOK_R ho h
    have : y.cells = #[y] := by cases y <;> first | rfl | (simp [Value.oneCell'] at h1)
    rw [this]
    exact .cons ⟨h, h1⟩ .nil
  | a cs =>
    obtain ⟨ys, h1, rfl⟩ := h
    exact allOK_R ho h1

theorem setFrom_length : ∀ (xs cs : List Cell) (off : Nat), (setFrom cs off xs).length = cs.length
  | [], _, _ => rfl
  | x :: xs, cs, off => by simp [setFrom, setFrom_length xs]

/-- setFrom, as a list between two pieces -/
theorem setFrom_eq : ∀ (xs cs : List Cell) (off : Nat), off + xs.length ≤ cs.length → setFrom cs off xs = cs.take off ++ xs ++ cs.drop (off + xs.length)
  | [], cs, off, _ => by simp [setFrom]
  | x :: xs, cs, off, h => by
    simp only [List.length_cons] at h
    rw [setFrom, setFrom_eq xs (cs.set off x) (off + 1) (by simp; omega)]
    have h1 : (cs.set off x).take (off + 1) = cs.take off ++ [x] := by
      rw [List.take_add_one, List.take_set_of_le (by omega)]
      simp [show off < cs.length by omega]
    have h2 : (cs.set off x).drop (off + 1 + xs.length) = cs.drop (off + 1 + xs.length) := by rw [List.drop_set_of_lt (by omega)]
    rw [h1, h2]
    simp [List.append_assoc, Nat.add_assoc, Nat.add_comm 1]

theorem setFrom_R {ν : Nu} {cs xs : List Cell} {cs' xs' : List Value} {off : Nat} (h : All2 (hR ν) cs cs') (hx : All2 (hR ν) xs xs') (hl : off + xs.length ≤ cs.length) :
    All2 (hR ν) (setFrom cs off xs) (cs'.take off ++ xs' ++ cs'.drop (off + xs'.length)) := by
  rw [setFrom_eq xs cs off hl, ← hx.length]
  exact ((h.take off).append hx).append (h.drop _)

theorem setRow_size (w : World) (g : Nat) (cs : Array Value) : (w.setRow g cs).heap.size = w.heap.size := by simp [World.setRow]

theorem storeVar_run {P : Program} {t : TypeId} {w : World} {b off : Nat} {cur : Array Value} {ct : TypeId} {u : Value} {size : Nat} (hs : sizeL P t = some size) (hu : u.cells.size = size)
    (hw : w.heap[b]? = some (.cells cur ct (0, 0))) (hfit : off + size ≤ cur.size) (h1 : ∀ v ∈ u.cells.toList, v.oneCell' = true) :
    (storeVar t ⟨b, off, none⟩ u).run P w = .ok () (w.setRow b (cur.toList.take off ++ u.cells.toList ++ cur.toList.drop (off + size)).toArray) := by
  have := run_storeCells_at P b off ct u.cells.toList 0 cur w hw (by simpa [hu] using hfit) h1
  simp only [Nat.add_zero, Array.length_toList, hu] at this
  simp only [storeVar, Sem.run_bind, sizeL_run hs, Result.andThen_ok]
  rw [if_neg (by simp [hu])]
  simpa using this

theorem updInts_length (i : Nat) (x : Int) : ∀ (ys : List Int) (j : Nat), (updInts i x j ys).length = ys.length
  | [], _ => rfl
  | _ :: ys, j => by simp [updInts, updInts_length i x ys]
theorem updInts_eq (i : Nat) (x : Int) : ∀ (ys : List Int) (j : Nat), j ≤ i → updInts i x j ys = ys.set (i - j) x
  | [], _, _ => rfl
  | y :: ys, j, h => by
    simp only [updInts]
    by_cases hji : j = i
    · subst hji
      have : ∀ (zs : List Int) (k : Nat), j < k → updInts j x k zs = zs := by
        intro zs
        induction zs with
        | nil => intro k _; rfl
        | cons z zs ih => intro k hk; simp [updInts, show k ≠ j by omega, ih (k + 1) (by omega)]
      simp [this ys (j + 1) (by omega)]
    · rw [if_neg hji, updInts_eq i x ys (j + 1) (by omega), show i - j = (i - (j + 1)) + 1 by omega]
      rfl

theorem selVal_eq (b : Bool) (x y : Value) : selVal b x y = bif b then x else y := by
  unfold selVal
  split
  · split
    · rename_i hk; subst hk; cases b <;> rfl
    · rfl
  · cases b <;> rfl
  · rfl

theorem selCell_eq (b : Bool) (x y : Cell) : selCell b x y = bif b then x else y := by
  unfold selCell
  split
  · rw [selVal_eq]; cases b <;> rfl
  · rfl

theorem selCell_R {ν : Nu} {b : Bool} {x y : Cell} {u : Value} (h : hR ν (bif b then x else y) u) : hR ν (selCell b x y) u := by
  rw [selCell_eq]; exact h

theorem zipSel_R' {ν : Nu} {b : Bool} : ∀ {xs ys : List Cell} {us : List Value}, All2 (hR ν) (bif b then xs else ys) us → All2 (hR ν) (zipSel b xs ys) us
  | [], [], us, h => by cases b <;> simpa [zipSel] using h
  | [], y :: ys, us, h => by simpa [zipSel] using h
  | x :: xs, [], us, h => by simpa [zipSel] using h
  | x :: xs, y :: ys, us, h => by
    cases b with
    | true =>
      simp only [cond_true] at h
      cases h with
      | cons h1 h2 => exact .cons (selCell_R (by simpa using h1)) (zipSel_R' (by simpa using h2))
    | false =>
      simp only [cond_false] at h
      cases h with
      | cons h1 h2 => exact .cons (selCell_R (by simpa using h1)) (zipSel_R' (by simpa using h2))

theorem zipSel_R {ν : Nu} {b : Bool} {xs ys : List Cell} {us : List Value} (_ : xs.length = ys.length) (h : All2 (hR ν) (bif b then xs else ys) us) : All2 (hR ν) (zipSel b xs ys) us := zipSel_R' h

theorem store_sound {P : Program} {ν : Nu} {s : LW} {w : World} (hr : Rel ν s w) {t : TypeId} {c : Cell} {y : Value} (hy : cellR ν c y) {v : V1} {u : Value} (hu : v1R ν v u) (n : Nat) {out : Out} {s' : LW} {r wf : List Nat}
    (h : (storeL P t c v).out s = some (out, s', r, wf)) :
    out = .skip ∧ ∃ w', (Instr.storeAt t y u).run P w = .ok () w' ∧ Rel ν s' w' ∧ Step ν s w ν s' w' n n := by
  unfold storeL at h
  simp only [setFromK_eq] at h
  cases hsz : sizeL P t with
  | none => simp [hsz] at h
  | some size =>
    simp only [hsz] at h
    split at h
    case isFalse => simp at h
    rename_i hok
    obtain ⟨hok, hvl⟩ := hok
    have hcells := v1_cells hok hu
    have husz : u.cells.size = size := by have := hcells.length; simp at this; omega
    cases c with
    | p a off =>
      simp only [Ac.out_get] at h
      cases hs : s a with
      | none => simp [hs] at h
      | some e =>
        simp only [hs] at h
        cases e with
        | cells ct cs =>
          simp only [] at h
          split at h
          · rename_i hfit
            simp [Ac.out_put] at h
            obtain ⟨rfl, rfl, rfl, rfl⟩ := h
            obtain ⟨i, b, h1, h2, rfl⟩ := hy
            obtain ⟨i', g1, b', cs', g2, g3, g4, g5⟩ := hr.ent a _ hs
            rw [h1] at g1; obtain rfl := Option.some.inj g1
            rw [h2] at g2; obtain rfl := Option.some.inj g2
            have hl := g5.length
            have hrun := storeVar_run (P := P) (off := off) hsz husz g4 (by simp; omega) (hR_all hcells)
            refine ⟨rfl, w.setRow b (cs'.take off ++ u.cells.toList ++ cs'.drop (off + size)).toArray, ?_, ?_⟩
            · simp only [Instr.storeAt, Instr.sureAddr, Sem.run_bind, Sem.run_pure, Result.andThen_ok, g3, Nat.zero_add]
              exact hrun
            · refine write_own hr hs h1 h2 rfl (fun k hk => setRow_other _ _ _ _ hk) (setRow_size _ _ _) rfl rfl rfl ?_ n
              refine ⟨b, cs'.take off ++ u.cells.toList ++ cs'.drop (off + size), h2, g3, setRow_heap _ _ _ _ _ _ g4, ?_⟩
              have := setFrom_R g5 hcells (off := off) (by rw [hvl]; omega)
              rwa [show u.cells.toList.length = size by simpa using husz] at this
          · simp at h
        | row _ _ _ _ _ => simp at h
        | map _ => simp at h
    | q a off len j =>
      simp only [Ac.out_get] at h
      cases hs : s a with
      | none => simp [hs] at h
      | some e =>
        simp only [hs] at h
        cases e with
        | cells ct cs =>
          cases v with
          | a _ => simp at h
          | c vc =>
            cases vc <;> try (simp at h; done)
            rename_i uv
            cases uv <;> try (simp at h; done)
            rename_i kd xv
            simp only [] at h
            cases hx : intsOf kd ((cs.drop off).take len) with
            | none => simp [hx] at h
            | some xs =>
              simp only [hx] at h
              split at h
              · rename_i hl
                simp only [chk, Ac.out_br, decide_eq_true_eq] at h
                split at h
                · rename_i hj
                  simp [Ac.out_put] at h
                  obtain ⟨rfl, rfl, rfl, rfl⟩ := h
                  obtain ⟨i, b, h1, h2, rfl⟩ := hy
                  obtain ⟨i', g1, b', cs', g2, g3, g4, g5⟩ := hr.ent a _ hs
                  rw [h1] at g1; obtain rfl := Option.some.inj g1
                  rw [h2] at g2; obtain rfl := Option.some.inj g2
                  have hm := intsOf_spec hx (hR_cell ((g5.drop off).take len))
                  have hlen' : ((cs'.drop off).take len).length = len := by rw [hm]; simp [hl]
                  have hbig : off + len ≤ cs'.length := by
                    have := hlen'; simp at this; omega
                  have hone : size = 1 := by simpa [V1.cells] using hvl.symm
                  have huv : u = .int kd xv := hu
                  have hrun := storeVar_run (P := P) (off := off + j) hsz husz g4 (by simp; omega) (hR_all hcells)
                  refine ⟨rfl, w.setRow b (cs'.take (off + j) ++ u.cells.toList ++ cs'.drop (off + j + size)).toArray, ?_, ?_⟩
                  · simp only [Instr.storeAt, Instr.sureAddr, Sem.run_bind, Sem.run_pure, Result.andThen_ok, g3, Nat.zero_add]
                    exact hrun
                  · refine write_own hr hs h1 h2 rfl (fun k hk => setRow_other _ _ _ _ hk) (setRow_size _ _ _) rfl rfl rfl ?_ n
                    refine ⟨b, cs'.take (off + j) ++ u.cells.toList ++ cs'.drop (off + j + size), h2, g3, setRow_heap _ _ _ _ _ _ g4, ?_⟩
                    have hnew : All2 (hR ν) ((updInts j xv 0 xs).map fun y => Cell.v (.int kd y)) ((xs.set j xv).map (Value.int kd)) := by
                      rw [updInts_eq j xv xs 0 (Nat.zero_le _), Nat.sub_zero]
                      refine All2.of_get (by simp) (fun i a b ha hb => ?_)
                      simp only [List.getElem?_map] at ha hb
                      cases hh : (xs.set j xv)[i]? with
                      | none => simp [hh] at ha
                      | some z => simp [hh] at ha hb; subst ha; subst hb; exact ⟨rfl, rfl⟩
                    have hset := setFrom_R g5 hnew (off := off) (by have := g5.length; simp [updInts_length]; omega)
                    have heq : cs'.take off ++ (xs.set j xv).map (Value.int kd) ++ cs'.drop (off + ((xs.set j xv).map (Value.int kd)).length) =
                        cs'.take (off + j) ++ u.cells.toList ++ cs'.drop (off + j + size) := by
                      have e1 : cs' = cs'.take off ++ xs.map (Value.int kd) ++ cs'.drop (off + len) := by
                        rw [← hm, List.append_assoc, ← List.drop_drop, List.take_append_drop, List.take_append_drop]
                      have hto : (cs'.take off).length = off := by simp; omega
                      subst huv
                      subst hone
                      have e2 : xs.set j xv = xs.take j ++ [xv] ++ xs.drop (j + 1) := by
                        rw [List.set_eq_take_append_cons_drop]; simp [show j < xs.length by omega]
                      simp only [List.length_map, List.length_set, hl]
                      rw [e2]
                      have e3 : cs'.take (off + j) = cs'.take off ++ (xs.take j).map (Value.int kd) := by
                        rw [List.take_add, List.map_take]
                        congr 1
                        have := congrArg (List.take j) hm
                        rw [List.take_take, Nat.min_eq_left (by omega)] at this
                        exact this
                      have e4 : cs'.drop (off + j + 1) = (xs.drop (j + 1)).map (Value.int kd) ++ cs'.drop (off + len) := by
                        have h5 : cs'.drop off = xs.map (Value.int kd) ++ cs'.drop (off + len) := by
                          rw [← hm, ← List.drop_drop, List.take_append_drop]
                        rw [show off + j + 1 = off + (j + 1) by omega, ← List.drop_drop, h5, List.drop_append_of_le_length (by simp; omega), List.map_drop]
                      rw [e3, e4]
                      simp [Value.cells, List.append_assoc]
                    rw [heq] at hset
                    exact hset
                · simp at h
              · simp at h
        | row _ _ _ _ _ => simp at h
        | map _ => simp at h
    | e a j off =>
      simp only [Ac.out_get] at h
      cases hs : s a with
      | none => simp [hs] at h
      | some e =>
        simp only [hs] at h
        cases e with
        | row ro rt sz m f =>
          cases ro with
          | true => simp at h
          | false =>
            simp only [chk, Ac.out_br, decide_eq_true_eq] at h
            split at h
            · rename_i hj
              split at h
              · rename_i hfit
                simp [Ac.out_put] at h
                obtain ⟨rfl, rfl, rfl, rfl⟩ := h
                obtain ⟨i, b, h1, h2, rfl⟩ := hy
                obtain ⟨i', g1, g2⟩ := hr.ent a _ hs
                rw [h1] at g1; obtain rfl := Option.some.inj g1
                obtain ⟨k1, k2, k3, k4, k5, k6⟩ := g2
                simp only [h2] at k6
                obtain ⟨cur, t', fz, m1, m2, m3, m4⟩ := k6
                obtain ⟨m5, m6, rfl, rfl⟩ := m3 trivial
                obtain ⟨yj, q1, q2, q3⟩ := m4 j hj
                have hbig : i.base + (j * sz + off) + size ≤ cur.size := by
                  have : j * sz + sz ≤ i.cap * sz := by rw [← Nat.succ_mul]; exact Nat.mul_le_mul_right _ (by omega)
                  omega
                have hrun := storeVar_run (P := P) (off := i.base + (j * i.sz + off)) hsz husz m1 (by rw [k1]; exact hbig) (hR_all hcells)
                refine ⟨rfl, w.setRow b (cur.toList.take (i.base + (j * i.sz + off)) ++ u.cells.toList ++ cur.toList.drop (i.base + (j * i.sz + off) + size)).toArray, ?_, ?_⟩
                · simp only [Instr.storeAt, Instr.sureAddr, Sem.run_bind, Sem.run_pure, Result.andThen_ok]
                  exact hrun
                · refine write_own hr hs h1 h2 rfl (fun k hk => setRow_other _ _ _ _ hk) (setRow_size _ _ _) rfl rfl rfl ?_ n
                  refine ⟨k1, k2, k3, k4, k5, ?_⟩
                  simp only [h2]
                  have hsizes : (cur.toList.take (i.base + (j * i.sz + off)) ++ u.cells.toList ++ cur.toList.drop (i.base + (j * i.sz + off) + size)).length = cur.size := by
                    simp [husz]; rw [k1]; omega
                  refine ⟨_, t', (0, 0), setRow_heap _ _ _ _ _ _ m1, by simp only [List.size_toArray, hsizes]; exact m2, fun _ => ⟨m5, by simp only [List.size_toArray, hsizes]; exact m6, rfl, rfl⟩, fun k hk => ?_⟩
                  obtain ⟨yk, r1, r2, r3⟩ := m4 k hk
                  have hfl : (f k).length = sz := by rw [r1.length, r2]
                  have hfj : (f j).length = sz := by rw [q1.length, q2]
                  have hlz : (setFrom (f j) off v.cells).length = (f k).length := by rw [setFrom_length, hfj, hfl]
                  by_cases hkj : k = j
                  · subst hkj
                    refine ⟨yj.take off ++ u.cells.toList ++ yj.drop (off + size), zipSel_R hlz ?_, ?_, fun l y hl => ?_⟩
                    · simp only [decide_true, cond_true]
                      have := setFrom_R q1 hcells (off := off) (by rw [hvl, hfj]; exact hfit)
                      rwa [show u.cells.toList.length = size by simpa using husz] at this
                    · simp [q2, husz]; omega
                    · simp only [List.getElem?_toArray]
                      have hyo : (yj.take off).length = off := by simp [q2]; omega
                      have hco : (cur.toList.take (i.base + (k * i.sz + off))).length = i.base + (k * i.sz + off) := by simp; rw [k1]; omega
                      rw [k1] at hco ⊢
                      by_cases hl1 : l < off
                      · rw [List.append_assoc, List.getElem?_append_left (by omega), List.getElem?_take] at hl
                        rw [List.append_assoc, List.getElem?_append_left (by omega), List.getElem?_take, if_pos (by omega)]
                        rw [if_pos hl1] at hl
                        simpa using q3 l y hl
                      · rw [List.append_assoc, List.getElem?_append_right (by omega)] at hl
                        rw [List.append_assoc, List.getElem?_append_right (by omega)]
                        rw [hyo] at hl
                        rw [hco, show i.base + k * sz + l - (i.base + (k * sz + off)) = l - off by omega]
                        by_cases hl2 : l - off < u.cells.toList.length
                        · rw [List.getElem?_append_left hl2] at hl ⊢
                          exact hl
                        · have hul : u.cells.toList.length = size := by simpa using husz
                          rw [List.getElem?_append_right (by omega), List.getElem?_drop] at hl
                          rw [List.getElem?_append_right (by omega), List.getElem?_drop]
                          rw [hul] at hl ⊢
                          have := q3 _ y hl
                          rw [Array.getElem?_toList, ← this]
                          congr 1
                          omega
                  · refine ⟨yk, zipSel_R hlz (by simp [hkj]; exact r1), r2, fun l y hl => ?_⟩
                    have hlt : l < sz := by
                      rcases Nat.lt_or_ge l sz with hh | hh
                      · exact hh
                      · rw [List.getElem?_eq_none (by omega)] at hl; cases hl
                    have := r3 l y hl
                    rw [k1] at *
                    simp only [List.getElem?_toArray]
                    have hco : (cur.toList.take (i.base + (j * sz + off))).length = i.base + (j * sz + off) := by simp; omega
                    have hul : u.cells.toList.length = size := by simpa using husz
                    rcases Nat.lt_or_gt_of_ne hkj with hlt' | hgt'
                    · have : k * sz + sz ≤ j * sz := by rw [← Nat.succ_mul]; exact Nat.mul_le_mul_right _ hlt'
                      rw [List.append_assoc, List.getElem?_append_left (by omega), List.getElem?_take, if_pos (by omega)]
                      simpa using r3 l y hl
                    · have h7 : j * sz + sz ≤ k * sz := by rw [← Nat.succ_mul]; exact Nat.mul_le_mul_right _ hgt'
                      rw [List.append_assoc, List.getElem?_append_right (by omega), List.getElem?_append_right (by omega), List.getElem?_drop, hco, hul]
                      rw [show i.base + (j * sz + off) + size + (i.base + k * sz + l - (i.base + (j * sz + off)) - size) = i.base + k * sz + l by omega]
                      simpa using r3 l y hl
              · simp at h
            · simp at h
        | cells _ _ => simp at h
        | map _ => simp at h
    | v _ => simp at h
    | r _ => simp at h
    | s _ _ _ => simp at h
    | m _ => simp at h
    | f _ _ => simp at h
    | u => simp at h

end Go.Ev
