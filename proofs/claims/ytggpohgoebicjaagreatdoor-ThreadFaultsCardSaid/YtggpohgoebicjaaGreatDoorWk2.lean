/- What the reference's functions compute; no conditions beyond the hypotheses named. -/
import Derived.Test.YtggpohgoebicjaaGreatDoorWk1
set_option linter.all false
namespace Go.Proofs.YtggpohgoebicjaaGreatDoor
open Go Go.Ev
set_option maxRecDepth 10000

/-! ## the document's cells -/
noncomputable def TB : FuncId → Option Prim := tableT [(108, cfgP fun _ _ _ _ _ _ _ _ _ => LI 0)]
theorem TB_ok (gl : Nat → Option Nat) : PrimOK Tryz.prog gl TB := tableT_ok fun x hx => by
  simp only [List.mem_cons, List.not_mem_nil, or_false] at hx
  subst hx; exact check108_ok gl
theorem blocks79 (w o c0 c1 rd wr al fr ck : Int) (st : Bool) : CallFact Tryz.prog glN TB mk0 79 0 [] [(0, true)] [cfgV w o c0 c1 rd wr al fr ck st] [] (LI (IntKind.i64.wrap (IntKind.i64.wrap (IntKind.i64.wrap (c0 + c1) + 0) + 0))) []
  (cj true [dq ((2 : Int) = 2 ∧ (0 : Int) = 0 ∧ (0 : Int) = 0 ∧ CfgOK w o c0 c1 rd wr al fr ck)]) true := by show _ = _; kernel_rfl
theorem dq_cfg {w o c0 c1 rd wr al fr ck : Int} (h : CfgOK w o c0 c1 rd wr al fr ck) : dq ((2 : Int) = 2 ∧ (0 : Int) = 0 ∧ (0 : Int) = 0 ∧ CfgOK w o c0 c1 rd wr al fr ck) = true := dq_iff.2 ⟨rfl, rfl, rfl, h⟩
theorem blocks79_ok (gl : Nat → Option Nat) : PrimOK1 Tryz.prog gl 79 (cfgP fun _ _ c0 c1 _ _ _ _ _ => LI (c0 + c1)) :=
  cfgP_ok (fun _ _ _ _ _ _ _ _ _ _ => rfl) fun w o c0 c1 rd wr al fr ck st h => by
    have := small_path mixed names_ok (TB_ok glN) (blocks79 w o c0 c1 rd wr al fr ck st) (cj_all (by simp [dq_iff.2 h])) rfl trivial rfl
    have h0 := h.h0; have h1 := h.h1
    rw [show IntKind.i64.wrap (IntKind.i64.wrap (IntKind.i64.wrap (c0 + c1) + 0) + 0) = c0 + c1 by simp (disch := omega) only [i64s, Int.add_zero]] at this
    exact this
noncomputable def TB2 : FuncId → Option Prim := tableT [(108, cfgP fun _ _ _ _ _ _ _ _ _ => LI 0), (79, cfgP fun _ _ c0 c1 _ _ _ _ _ => LI (c0 + c1))]
theorem TB2_ok (gl : Nat → Option Nat) : PrimOK Tryz.prog gl TB2 := tableT_ok fun x hx => by
  simp only [List.mem_cons, List.not_mem_nil, or_false] at hx
  rcases hx with rfl | rfl
  · exact check108_ok gl
  · exact blocks79_ok gl
theorem class80a (w o c0 c1 rd wr al fr ck b : Int) (st : Bool) : CallFact Tryz.prog glN TB2 mk0 80 0 [] [(0, false), (2, true), (2, false), (2, false)] [cfgV w o c0 c1 rd wr al fr ck st, .c (I b)] [] (LI 0) []
  (cj true [!(decide (b < 0)), dq ((2 : Int) = 2 ∧ (0 : Int) = 0 ∧ (0 : Int) = 0 ∧ CfgOK w o c0 c1 rd wr al fr ck), !(decide (b ≥ c0 + c1)), !(decide (b ≥ c0))]) true := by show _ = _; kernel_rfl
theorem class80b (w o c0 c1 rd wr al fr ck b : Int) (st : Bool) : CallFact Tryz.prog glN TB2 mk0 80 0 [] [(0, false), (2, true), (2, false), (2, true), (4, false)] [cfgV w o c0 c1 rd wr al fr ck st, .c (I b)] [] (LI 1) []
  (cj true [!(decide (b < 0)), dq ((2 : Int) = 2 ∧ (0 : Int) = 0 ∧ (0 : Int) = 0 ∧ CfgOK w o c0 c1 rd wr al fr ck), !(decide (b ≥ c0 + c1)), (decide (b ≥ c0)), !(decide (IntKind.i64.wrap (b - c0) ≥ c1))]) true := by show _ = _; kernel_rfl

noncomputable def classP : Prim := fun args n => match args with
  | [.a [.v (.int .i64 w), .v (.int .i64 o), .v (.int .i64 b), .v (.int .i64 c0), .v (.int .i64 c1), .v (.int .i64 c2), .v (.int .i64 c3), .v (.int .i64 rd), .v (.int .i64 wr), .v (.int .i64 al), .v (.int .i64 fr), .v (.int .i64 ck), .v (.bool _)], .c (.v (.int .i64 q))] =>
    askP (b = 2 ∧ c2 = 0 ∧ c3 = 0 ∧ CfgOK w o c0 c1 rd wr al fr ck) (chk (decide (0 ≤ q ∧ q < c0 + c1)) (.ret (LI (bif decide (q < c0) then 0 else 1), n)))
  | _ => .stuck
theorem class80_ok (gl : Nat → Option Nat) : PrimOK1 Tryz.prog gl 80 classP := by
  intro args s n v n' s' r wf h
  unfold classP at h
  split at h
  case h_2 => simp at h
  rename_i w o b c0 c1 c2 c3 rd wr al fr ck st q
  obtain ⟨hcs, h2⟩ := askP_out h (by simp)
  clear h
  obtain ⟨rfl, rfl, rfl, hc⟩ := hcs
  simp only [chk, Ac.out_br, decide_eq_true_eq] at h2
  split at h2
  case isFalse => simp at h2
  rename_i hq
  simp at h2
  obtain ⟨⟨rfl, rfl⟩, rfl, _⟩ := h2
  have h0 := hc.h0; have h1 := hc.h1
  have hargs : ∀ (ν ν' : Nu) ys, All2 (v1R ν) [cfgV w o c0 c1 rd wr al fr ck st, .c (I q)] ys → All2 (v1R ν') [cfgV w o c0 c1 rd wr al fr ck st, .c (I q)] ys :=
    fun ν ν' ys h => plainA (cfgCs_plain w o c0 c1 rd wr al fr ck st) h fun _ h => plain1 h fun _ h => plain0 h
  by_cases hlt : q < c0
  · have key := small_path mixed names_ok (TB2_ok glN) (class80a w o c0 c1 rd wr al fr ck q st) (cj_all (by simp [dq_iff.2 hc]; omega)) rfl trivial rfl
    simp only [hlt, decide_true, cond_true]
    exact prim_pure key hargs fun _ => rfl
  · have key := small_path mixed names_ok (TB2_ok glN) (class80b w o c0 c1 rd wr al fr ck q st) (cj_all (by
      have : IntKind.i64.wrap (q - c0) = q - c0 := i64s (by omega)
      simp [dq_iff.2 hc, this]; omega)) rfl trivial rfl
    simp only [hlt, decide_false, cond_false]
    exact prim_pure key hargs fun _ => rfl

noncomputable def TD : FuncId → Option Prim := tableT [(79, cfgP fun _ _ c0 c1 _ _ _ _ _ => LI (c0 + c1)), (80, classP)]
theorem TD_ok (gl : Nat → Option Nat) : PrimOK Tryz.prog gl TD := tableT_ok fun x hx => by
  simp only [List.mem_cons, List.not_mem_nil, or_false] at hx
  rcases hx with rfl | rfl
  · exact blocks79_ok gl
  · exact class80_ok gl
end Go.Proofs.YtggpohgoebicjaaGreatDoor

namespace Go.Proofs.YtggpohgoebicjaaGreatDoor
open Go Go.Ev
set_option maxRecDepth 10000

/-! ## strongtxref08.New -/
noncomputable def c42 : Code := bodyOf Tryz.f42
abbrev LP (h off : Nat) : LV := .o (.c (.p h off))
abbrev nilS : Cell := .v (.slice none 0 0)
def A42 (w o c0 c1 rd wr al fr ck th : Int) (st : Bool) : Env := [(0, .o (cfgV w o c0 c1 rd wr al fr ck st)), (1, LI th), (2, LR 0)]
def mem42 (cs : List Cell) (d : Cell) : Entry := .cells 94 (cs ++ [d, nilS, U 0, U 0, U 0, nilS, nilS, nilS])
def S42a (w o c0 c1 rd wr al fr ck th : Int) (st : Bool) (n : Nat) (g : Nat → Int) : St := ⟨[(1, LI th), (2, LR 0), (3, LP 1 0)], [(0, rowU n g), (1, .cells 25 (cfgCs w o c0 c1 rd wr al fr ck st))], 2⟩
def S42b (w o c0 c1 rd wr al fr ck th : Int) (st : Bool) (n : Nat) (g : Nat → Int) : St := ⟨[(1, LI th), (2, LR 0), (3, LP 1 0), (7, LI (c0 + c1))], [(0, rowU n g), (1, .cells 25 (cfgCs w o c0 c1 rd wr al fr ck st))], 2⟩
def S42c (w o c0 c1 rd wr al fr ck th : Int) (st : Bool) (n : Nat) (g : Nat → Int) : St := ⟨[(1, LI th), (2, LR 0), (3, LP 1 0), (7, LI (c0 + c1)), (8, LP 2 0)], [(0, rowU n g), (1, .cells 25 (cfgCs w o c0 c1 rd wr al fr ck st)), (2, mem42 (cfgCs w o c0 c1 rd wr al fr ck st) nilS)], 3⟩
def S42 (w o c0 c1 rd wr al fr ck th : Int) (st : Bool) (n : Nat) (g : Nat → Int) (i : Int) (m : Nat) (h : Nat → Int) : St :=
  ⟨[(1, LI th), (2, LR 0), (3, LP 1 0), (7, LI (c0 + c1)), (8, LP 2 0), (9, LI i)], [(0, rowU n g), (1, .cells 25 (cfgCs w o c0 c1 rd wr al fr ck st)), (2, mem42 (cfgCs w o c0 c1 rd wr al fr ck st) (.r 3)), (3, rowU m h)], 4⟩

def mem42b (cs : List Cell) : Entry := .cells 94 (cs ++ [.r 2, .r 3, U 0, U 0, U 0, .r 4, .r 5, .r 6])
theorem ref42_00 (w o rd wr al fr ck th : Int) (st : Bool) (n m : Nat) (g h : Nat → Int) (i : Int) : WayFactX Tryz.prog glN TD mk0 42 130 1 [.to 2, .to 3, .to 4, .to 5, .to 13, .nil 1] [(1, true), (0, true)] (sR (sR (sR (sR c42)))) (S42 w o 0 0 rd wr al fr ck th st n g i m h) .ret
  ⟨[(6, LP 1 0)], [(0, rowU n g), (1, mem42b (cfgCs w o 0 0 rd wr al fr ck st)), (2, rowU (m) (fun j => h j)), (3, rowU o.toNat fun _ => 0), (4, rowU th.toNat fun _ => 0), (5, rowU 4 (fun j => (bif decide (j < 1 + 1 + 1) then (bif decide (j < 1 + 1) then (bif decide (j < 1) then 0 else 0) else 0) else 0))), (6, rowU 0 (fun _ => 0))], 7⟩
  (cj true [decide (0 ≤ o ∧ o ≤ o ∧ o * 8 ≤ 140737488355328), decide (0 ≤ th ∧ th ≤ th ∧ th * 8 ≤ 140737488355328)]) true := by show _ = _; kernel_rfl
theorem ref42_01 (w o rd wr al fr ck th : Int) (st : Bool) (n m : Nat) (g h : Nat → Int) (i : Int) : WayFactX Tryz.prog glN TD mk0 42 130 1 [.to 2, .to 5, .to 8, .to 9, .to 17, .to 7] [(1, true), (12, true), (0, true)] (sR (sR (sR (sR c42)))) (S42 w o 0 1 rd wr al fr ck th st n g i m h) .ret
  ⟨[(6, LP 1 0)], [(0, rowU n g), (1, mem42b (cfgCs w o 0 1 rd wr al fr ck st)), (2, rowU (m + 1) (fun j => (bif decide (j < m) then h j else 0))), (3, rowU o.toNat fun _ => 0), (4, rowU th.toNat fun _ => 0), (5, rowU 4 (fun j => (bif decide (j < 1 + 1 + 1) then (bif decide (j < 1 + 1) then (bif decide (j < 1) then 0 else 1) else 0) else 0))), (6, rowU (1) (fun j => 0))], 7⟩
  (cj true [decide ((m + 1) * 8 ≤ 140737488355328), decide (0 ≤ o ∧ o ≤ o ∧ o * 8 ≤ 140737488355328), decide (0 ≤ th ∧ th ≤ th ∧ th * 8 ≤ 140737488355328)]) true := by show _ = _; kernel_rfl
theorem ref42_02 (w o rd wr al fr ck th : Int) (st : Bool) (n m : Nat) (g h : Nat → Int) (i : Int) : WayFactX Tryz.prog glN TD mk0 42 130 1 [.to 2, .to 9, .to 12, .to 13, .to 21, .to 11] [(1, true), (4, true), (4, true), (6, true), (12, true), (0, true)] (sR (sR (sR (sR c42)))) (S42 w o 0 2 rd wr al fr ck th st n g i m h) .ret
  ⟨[(6, LP 1 0)], [(0, rowU n g), (1, mem42b (cfgCs w o 0 2 rd wr al fr ck st)), (2, rowU (m + 1 + 1) (fun j => (bif decide (j < m + 1) then (bif decide (j < m) then h j else 0) else 0))), (3, rowU o.toNat fun _ => 0), (4, rowU th.toNat fun _ => 0), (5, rowU 4 (fun j => (bif decide (j < 1 + 1 + 1) then (bif decide (j < 1 + 1) then (bif decide (j < 1) then 0 else 1) else 0) else 0))), (6, rowU (1 + 1) (fun j => (bif decide (j < 1) then 2 else 0)))], 7⟩
  (cj true [decide ((m + 1) * 8 ≤ 140737488355328), dq ((2 : Int) = 2 ∧ (0 : Int) = 0 ∧ (0 : Int) = 0 ∧ CfgOK w o 0 2 rd wr al fr ck), dq ((2 : Int) = 2 ∧ (0 : Int) = 0 ∧ (0 : Int) = 0 ∧ CfgOK w o 0 2 rd wr al fr ck), decide ((m + 1 + 1) * 8 ≤ 140737488355328), decide (0 ≤ o ∧ o ≤ o ∧ o * 8 ≤ 140737488355328), decide (0 ≤ th ∧ th ≤ th ∧ th * 8 ≤ 140737488355328)]) true := by show _ = _; kernel_rfl
theorem ref42_10 (w o rd wr al fr ck th : Int) (st : Bool) (n m : Nat) (g h : Nat → Int) (i : Int) : WayFactX Tryz.prog glN TD mk0 42 130 1 [.to 2, .to 5, .to 8, .to 9, .to 17, .to 7] [(1, true), (12, true), (0, true)] (sR (sR (sR (sR c42)))) (S42 w o 1 0 rd wr al fr ck th st n g i m h) .ret
  ⟨[(6, LP 1 0)], [(0, rowU n g), (1, mem42b (cfgCs w o 1 0 rd wr al fr ck st)), (2, rowU (m + 1) (fun j => (bif decide (j < m) then h j else 0))), (3, rowU o.toNat fun _ => 0), (4, rowU th.toNat fun _ => 0), (5, rowU 4 (fun j => (bif decide (j < 1 + 1 + 1) then (bif decide (j < 1 + 1) then (bif decide (j < 1) then 1 else 0) else 0) else 0))), (6, rowU (1) (fun j => 0))], 7⟩
  (cj true [decide ((m + 1) * 8 ≤ 140737488355328), decide (0 ≤ o ∧ o ≤ o ∧ o * 8 ≤ 140737488355328), decide (0 ≤ th ∧ th ≤ th ∧ th * 8 ≤ 140737488355328)]) true := by show _ = _; kernel_rfl
theorem ref42_11 (w o rd wr al fr ck th : Int) (st : Bool) (n m : Nat) (g h : Nat → Int) (i : Int) : WayFactX Tryz.prog glN TD mk0 42 130 1 [.to 2, .to 9, .to 12, .to 13, .to 21, .to 11] [(1, true), (4, true), (4, true), (6, true), (12, true), (0, true)] (sR (sR (sR (sR c42)))) (S42 w o 1 1 rd wr al fr ck th st n g i m h) .ret
  ⟨[(6, LP 1 0)], [(0, rowU n g), (1, mem42b (cfgCs w o 1 1 rd wr al fr ck st)), (2, rowU (m + 1 + 1) (fun j => (bif decide (j < m + 1) then (bif decide (j < m) then h j else 0) else 0))), (3, rowU o.toNat fun _ => 0), (4, rowU th.toNat fun _ => 0), (5, rowU 4 (fun j => (bif decide (j < 1 + 1 + 1) then (bif decide (j < 1 + 1) then (bif decide (j < 1) then 1 else 2) else 0) else 0))), (6, rowU (1 + 1) (fun j => (bif decide (j < 1) then 0 else 0)))], 7⟩
  (cj true [decide ((m + 1) * 8 ≤ 140737488355328), dq ((2 : Int) = 2 ∧ (0 : Int) = 0 ∧ (0 : Int) = 0 ∧ CfgOK w o 1 1 rd wr al fr ck), dq ((2 : Int) = 2 ∧ (0 : Int) = 0 ∧ (0 : Int) = 0 ∧ CfgOK w o 1 1 rd wr al fr ck), decide ((m + 1 + 1) * 8 ≤ 140737488355328), decide (0 ≤ o ∧ o ≤ o ∧ o * 8 ≤ 140737488355328), decide (0 ≤ th ∧ th ≤ th ∧ th * 8 ≤ 140737488355328)]) true := by show _ = _; kernel_rfl
theorem ref42_12 (w o rd wr al fr ck th : Int) (st : Bool) (n m : Nat) (g h : Nat → Int) (i : Int) : WayFactX Tryz.prog glN TD mk0 42 130 1 [.to 2, .to 13, .to 16, .to 17, .to 25, .to 15] [(1, true), (4, true), (4, true), (6, true), (4, true), (4, true), (6, true), (12, true), (0, true)] (sR (sR (sR (sR c42)))) (S42 w o 1 2 rd wr al fr ck th st n g i m h) .ret
  ⟨[(6, LP 1 0)], [(0, rowU n g), (1, mem42b (cfgCs w o 1 2 rd wr al fr ck st)), (2, rowU (m + 1 + 1 + 1) (fun j => (bif decide (j < m + 1 + 1) then (bif decide (j < m + 1) then (bif decide (j < m) then h j else 0) else 0) else 0))), (3, rowU o.toNat fun _ => 0), (4, rowU th.toNat fun _ => 0), (5, rowU 4 (fun j => (bif decide (j < 1 + 1 + 1) then (bif decide (j < 1 + 1) then (bif decide (j < 1) then 1 else 2) else 0) else 0))), (6, rowU (1 + 1 + 1) (fun j => (bif decide (j < 1 + 1) then (bif decide (j < 1) then 0 else 3) else 0)))], 7⟩
  (cj true [decide ((m + 1) * 8 ≤ 140737488355328), dq ((2 : Int) = 2 ∧ (0 : Int) = 0 ∧ (0 : Int) = 0 ∧ CfgOK w o 1 2 rd wr al fr ck), dq ((2 : Int) = 2 ∧ (0 : Int) = 0 ∧ (0 : Int) = 0 ∧ CfgOK w o 1 2 rd wr al fr ck), decide ((m + 1 + 1) * 8 ≤ 140737488355328), dq ((2 : Int) = 2 ∧ (0 : Int) = 0 ∧ (0 : Int) = 0 ∧ CfgOK w o 1 2 rd wr al fr ck), dq ((2 : Int) = 2 ∧ (0 : Int) = 0 ∧ (0 : Int) = 0 ∧ CfgOK w o 1 2 rd wr al fr ck), decide ((m + 1 + 1 + 1) * 8 ≤ 140737488355328), decide (0 ≤ o ∧ o ≤ o ∧ o * 8 ≤ 140737488355328), decide (0 ≤ th ∧ th ≤ th ∧ th * 8 ≤ 140737488355328)]) true := by show _ = _; kernel_rfl
theorem ref42_20 (w o rd wr al fr ck th : Int) (st : Bool) (n m : Nat) (g h : Nat → Int) (i : Int) : WayFactX Tryz.prog glN TD mk0 42 130 1 [.to 2, .to 9, .to 12, .to 13, .to 21, .to 11] [(1, true), (4, true), (4, true), (6, true), (12, true), (0, true)] (sR (sR (sR (sR c42)))) (S42 w o 2 0 rd wr al fr ck th st n g i m h) .ret
  ⟨[(6, LP 1 0)], [(0, rowU n g), (1, mem42b (cfgCs w o 2 0 rd wr al fr ck st)), (2, rowU (m + 1 + 1) (fun j => (bif decide (j < m + 1) then (bif decide (j < m) then h j else 0) else 0))), (3, rowU o.toNat fun _ => 0), (4, rowU th.toNat fun _ => 0), (5, rowU 4 (fun j => (bif decide (j < 1 + 1 + 1) then (bif decide (j < 1 + 1) then (bif decide (j < 1) then 1 else 0) else 0) else 0))), (6, rowU (1 + 1) (fun j => (bif decide (j < 1) then 2 else 0)))], 7⟩
  (cj true [decide ((m + 1) * 8 ≤ 140737488355328), dq ((2 : Int) = 2 ∧ (0 : Int) = 0 ∧ (0 : Int) = 0 ∧ CfgOK w o 2 0 rd wr al fr ck), dq ((2 : Int) = 2 ∧ (0 : Int) = 0 ∧ (0 : Int) = 0 ∧ CfgOK w o 2 0 rd wr al fr ck), decide ((m + 1 + 1) * 8 ≤ 140737488355328), decide (0 ≤ o ∧ o ≤ o ∧ o * 8 ≤ 140737488355328), decide (0 ≤ th ∧ th ≤ th ∧ th * 8 ≤ 140737488355328)]) true := by show _ = _; kernel_rfl
theorem ref42_21 (w o rd wr al fr ck th : Int) (st : Bool) (n m : Nat) (g h : Nat → Int) (i : Int) : WayFactX Tryz.prog glN TD mk0 42 130 1 [.to 2, .to 13, .to 16, .to 17, .to 25, .to 15] [(1, true), (4, true), (4, true), (6, true), (4, true), (4, true), (6, true), (12, true), (0, true)] (sR (sR (sR (sR c42)))) (S42 w o 2 1 rd wr al fr ck th st n g i m h) .ret
  ⟨[(6, LP 1 0)], [(0, rowU n g), (1, mem42b (cfgCs w o 2 1 rd wr al fr ck st)), (2, rowU (m + 1 + 1 + 1) (fun j => (bif decide (j < m + 1 + 1) then (bif decide (j < m + 1) then (bif decide (j < m) then h j else 0) else 0) else 0))), (3, rowU o.toNat fun _ => 0), (4, rowU th.toNat fun _ => 0), (5, rowU 4 (fun j => (bif decide (j < 1 + 1 + 1) then (bif decide (j < 1 + 1) then (bif decide (j < 1) then 1 else 3) else 0) else 0))), (6, rowU (1 + 1 + 1) (fun j => (bif decide (j < 1 + 1) then (bif decide (j < 1) then 2 else 0) else 0)))], 7⟩
  (cj true [decide ((m + 1) * 8 ≤ 140737488355328), dq ((2 : Int) = 2 ∧ (0 : Int) = 0 ∧ (0 : Int) = 0 ∧ CfgOK w o 2 1 rd wr al fr ck), dq ((2 : Int) = 2 ∧ (0 : Int) = 0 ∧ (0 : Int) = 0 ∧ CfgOK w o 2 1 rd wr al fr ck), decide ((m + 1 + 1) * 8 ≤ 140737488355328), dq ((2 : Int) = 2 ∧ (0 : Int) = 0 ∧ (0 : Int) = 0 ∧ CfgOK w o 2 1 rd wr al fr ck), dq ((2 : Int) = 2 ∧ (0 : Int) = 0 ∧ (0 : Int) = 0 ∧ CfgOK w o 2 1 rd wr al fr ck), decide ((m + 1 + 1 + 1) * 8 ≤ 140737488355328), decide (0 ≤ o ∧ o ≤ o ∧ o * 8 ≤ 140737488355328), decide (0 ≤ th ∧ th ≤ th ∧ th * 8 ≤ 140737488355328)]) true := by show _ = _; kernel_rfl
theorem ref42_22 (w o rd wr al fr ck th : Int) (st : Bool) (n m : Nat) (g h : Nat → Int) (i : Int) : WayFactX Tryz.prog glN TD mk0 42 130 1 [.to 2, .to 17, .to 20, .to 21, .to 29, .to 19] [(1, true), (4, true), (4, true), (6, true), (4, true), (4, true), (6, true), (4, true), (4, true), (6, true), (12, true), (0, true)] (sR (sR (sR (sR c42)))) (S42 w o 2 2 rd wr al fr ck th st n g i m h) .ret
  ⟨[(6, LP 1 0)], [(0, rowU n g), (1, mem42b (cfgCs w o 2 2 rd wr al fr ck st)), (2, rowU (m + 1 + 1 + 1 + 1) (fun j => (bif decide (j < m + 1 + 1 + 1) then (bif decide (j < m + 1 + 1) then (bif decide (j < m + 1) then (bif decide (j < m) then h j else 0) else 0) else 0) else 0))), (3, rowU o.toNat fun _ => 0), (4, rowU th.toNat fun _ => 0), (5, rowU 4 (fun j => (bif decide (j < 1 + 1 + 1) then (bif decide (j < 1 + 1) then (bif decide (j < 1) then 1 else 3) else 0) else 0))), (6, rowU (1 + 1 + 1 + 1) (fun j => (bif decide (j < 1 + 1 + 1) then (bif decide (j < 1 + 1) then (bif decide (j < 1) then 2 else 0) else 4) else 0)))], 7⟩
  (cj true [decide ((m + 1) * 8 ≤ 140737488355328), dq ((2 : Int) = 2 ∧ (0 : Int) = 0 ∧ (0 : Int) = 0 ∧ CfgOK w o 2 2 rd wr al fr ck), dq ((2 : Int) = 2 ∧ (0 : Int) = 0 ∧ (0 : Int) = 0 ∧ CfgOK w o 2 2 rd wr al fr ck), decide ((m + 1 + 1) * 8 ≤ 140737488355328), dq ((2 : Int) = 2 ∧ (0 : Int) = 0 ∧ (0 : Int) = 0 ∧ CfgOK w o 2 2 rd wr al fr ck), dq ((2 : Int) = 2 ∧ (0 : Int) = 0 ∧ (0 : Int) = 0 ∧ CfgOK w o 2 2 rd wr al fr ck), decide ((m + 1 + 1 + 1) * 8 ≤ 140737488355328), dq ((2 : Int) = 2 ∧ (0 : Int) = 0 ∧ (0 : Int) = 0 ∧ CfgOK w o 2 2 rd wr al fr ck), dq ((2 : Int) = 2 ∧ (0 : Int) = 0 ∧ (0 : Int) = 0 ∧ CfgOK w o 2 2 rd wr al fr ck), decide ((m + 1 + 1 + 1 + 1) * 8 ≤ 140737488355328), decide (0 ≤ o ∧ o ≤ o ∧ o * 8 ≤ 140737488355328), decide (0 ≤ th ∧ th ≤ th ∧ th * 8 ≤ 140737488355328)]) true := by show _ = _; kernel_rfl

theorem ref42_0 (w o c0 c1 rd wr al fr ck th : Int) (st : Bool) (n : Nat) (g : Nat → Int) : WayFactX Tryz.prog glN TD mk0 42 130 1 [.to 1] [] (sL c42) ⟨A42 w o c0 c1 rd wr al fr ck th st, [(0, rowU n g)], 1⟩ .normal (S42a w o c0 c1 rd wr al fr ck th st n g) true true := by show _ = _; kernel_rfl
theorem ref42_1 (w o c0 c1 rd wr al fr ck th : Int) (st : Bool) (n : Nat) (g : Nat → Int) : WayFactX Tryz.prog glN TD mk0 42 130 1 [.to 1] [(0, true)] (sL (sR c42)) (S42a w o c0 c1 rd wr al fr ck th st n g) .normal (S42b w o c0 c1 rd wr al fr ck th st n g)
  (cj true [dq ((2 : Int) = 2 ∧ (0 : Int) = 0 ∧ (0 : Int) = 0 ∧ CfgOK w o c0 c1 rd wr al fr ck)]) true := by show _ = _; kernel_rfl
theorem ref42_2 (w o c0 c1 rd wr al fr ck th : Int) (st : Bool) (n : Nat) (g : Nat → Int) : WayFactX Tryz.prog glN TD mk0 42 130 1 [.to 1, .to 2] [] (sL (sR (sR c42))) (S42b w o c0 c1 rd wr al fr ck th st n g) .normal (S42c w o c0 c1 rd wr al fr ck th st n g) true true := by show _ = _; kernel_rfl
theorem ref42_3 (w o c0 c1 rd wr al fr ck th : Int) (st : Bool) (n : Nat) (g : Nat → Int) : WayFactX Tryz.prog glN TD mk0 42 130 1 [.to 1, .to 2, .nil 1] [] (sL (sL (sR (sR (sR c42))))) (S42c w o c0 c1 rd wr al fr ck th st n g) .normal (S42 w o c0 c1 rd wr al fr ck th st n g 0 0 g) true true := by show _ = _; kernel_rfl
theorem ref42_step (w o c0 c1 rd wr al fr ck th : Int) (st : Bool) (n m : Nat) (g h : Nat → Int) (i : Int) : WayFactX Tryz.prog glN TD mk0 42 130 1 [.to 1, .to 2, .to 5] [(0, true), (0, true), (0, true), (0, true)] (sB (sB (sR (sL (sR (sR (sR c42))))))) (S42 w o c0 c1 rd wr al fr ck th st n g i m h) .normal
  (S42 w o c0 c1 rd wr al fr ck th st n g (IntKind.i64.wrap (i + 1)) (m + 1) (fun j => bif decide (j < m) then h j else g (0 + i.toNat)))
  (cj true [decide (i < w), decide (0 ≤ i ∧ i < n), decide (0 + i.toNat < n), decide ((m + 1) * 8 ≤ 140737488355328)]) true := by show _ = _; kernel_rfl
theorem ref42_end (w o c0 c1 rd wr al fr ck th : Int) (st : Bool) (n m : Nat) (g h : Nat → Int) (i : Int) : WayFactX Tryz.prog glN TD mk0 42 130 1 [.to 1, .to 2, .to 3] [(0, false)] (sB (sB (sR (sL (sR (sR (sR c42))))))) (S42 w o c0 c1 rd wr al fr ck th st n g i m h) (.exit 0) (S42 w o c0 c1 rd wr al fr ck th st n g i m h)
  (cj true [!(decide (i < w))]) true := by show _ = _; kernel_rfl

def refL (w o c0 c1 rd wr al fr ck th : Int) (st : Bool) (n : Nat) (g : Nat → Int) : List (Nat × Entry) :=
  [(0, rowU n g), (1, mem42b (cfgCs w o c0 c1 rd wr al fr ck st)), (2, rowU (n + (c0 + c1).toNat) (padF n g)), (3, rowU o.toNat fun _ => 0), (4, rowU th.toNat fun _ => 0), (5, rowU 4 (hdF c0 c1)), (6, rowU (c0 + c1).toNat (nxF c0 c1))]

theorem ref42_rest {w o c0 c1 rd wr al fr ck th : Int} {st : Bool} {n : Nat} {g : Nat → Int} (hc : CfgOK w o c0 c1 rd wr al fr ck) (ht : 1 ≤ th ∧ th ≤ 16) (hn : (n : Int) = w) (i : Int) :
    Tr Tryz.prog glN 1 130 (sR (sR (sR (sR c42)))) (S42 w o c0 c1 rd wr al fr ck th st n g i n g) .ret ⟨[(6, LP 1 0)], refL w o c0 c1 rd wr al fr ck th st n g, 7⟩ := by
  have h0 := hc.h0
  have h1 := hc.h1
  have hw := hc.hw
  have ho := hc.ho
  have e0 : c0 = (0 : Nat) ∨ c0 = (1 : Nat) ∨ c0 = (2 : Nat) := by omega
  have e1 : c1 = (0 : Nat) ∨ c1 = (1 : Nat) ∨ c1 = (2 : Nat) := by omega
  have hd : ∀ {H H' : Nat → Int}, H 0 = H' 0 → H 1 = H' 1 → H 2 = H' 2 → H 3 = H' 3 → SameE (rowU 4 H) (rowU 4 H') := fun a b c d => sameU fun j hj => by
    match j, hj with
    | 0, _ => exact a
    | 1, _ => exact b
    | 2, _ => exact c
    | 3, _ => exact d
  have fin : ∀ {H N D : Nat → Int} {a b q q' : Nat}, (a : Int) = c0 → (b : Int) = c1 → q = n + (a + b) → q' = a + b → SameE (rowU 4 H) (rowU 4 (hdF c0 c1)) → (∀ j, j < a + b → N j = nxF c0 c1 j) → (∀ j, j < n + (a + b) → D j = padF n g j) →
      Tr Tryz.prog glN 1 130 (sR (sR (sR (sR c42)))) (S42 w o c0 c1 rd wr al fr ck th st n g i n g) .ret ⟨[(6, LP 1 0)], [(0, rowU n g), (1, mem42b (cfgCs w o c0 c1 rd wr al fr ck st)), (2, rowU q D), (3, rowU o.toNat fun _ => 0), (4, rowU th.toNat fun _ => 0), (5, rowU 4 H), (6, rowU q' N)], 7⟩ →
      Tr Tryz.prog glN 1 130 (sR (sR (sR (sR c42)))) (S42 w o c0 c1 rd wr al fr ck th st n g i n g) .ret ⟨[(6, LP 1 0)], refL w o c0 c1 rd wr al fr ck th st n g, 7⟩ := by
    intro H N D a b q q' ha hb hq hq' hH hN hD h
    have hab : (c0 + c1).toNat = a + b := by omega
    subst hq; subst hq'
    refine h.ext ⟨rfl, .inl rfl, rfl, .inl rfl, rfl, ?_, rfl, .inl rfl, rfl, .inl rfl, rfl, hH, rfl, ?_, trivial⟩
    · rw [hab]; exact sameU hD
    · rw [hab]; exact sameU hN
  have tr := fun {S S' : St} {l : List Ren} {o : Ev.Way} {cd : Code} {x0 : LExit} {c b : Bool} (F : WayFactX Tryz.prog glN TD mk0 42 130 1 l o cd S x0 S' c b) => Tr.ofX mixed names_ok (TD_ok glN) F
  rcases e0 with rfl | rfl | rfl <;> rcases e1 with rfl | rfl | rfl
  · exact fin (a := 0) (b := 0) rfl rfl rfl rfl (hd (by decide) (by decide) (by decide) (by decide)) (fun j hj => by omega) (fun j hj => by simp [padF, show j < n by omega]) (tr (ref42_00 w o rd wr al fr ck th st n n g g i) (cj_all (by simp; omega)) rfl trivial rfl rfl (glN_lt 1))
  · exact fin (a := 0) (b := 1) rfl rfl rfl rfl (hd (by decide) (by decide) (by decide) (by decide)) (fun j hj => by rcases (by omega : j = 0) with rfl <;> decide) (fun j hj => if h1 : j < n then (by simp [padF, h1]) else (by simp [padF, h1])) (tr (ref42_01 w o rd wr al fr ck th st n n g g i) (cj_all (by have hq : dq (CfgOK w o 0 1 rd wr al fr ck) = true := dq_iff.2 hc; simp [hq]; omega)) rfl trivial rfl rfl (glN_lt 1))
  · exact fin (a := 0) (b := 2) rfl rfl rfl rfl (hd (by decide) (by decide) (by decide) (by decide)) (fun j hj => by rcases (by omega : j = 0 ∨ j = 1) with rfl | rfl <;> decide) (fun j hj => if h1 : j < n then (by simp [padF, h1, show j < n + 1 by omega]) else (by simp [padF, h1])) (tr (ref42_02 w o rd wr al fr ck th st n n g g i) (cj_all (by have hq : dq (CfgOK w o 0 2 rd wr al fr ck) = true := dq_iff.2 hc; simp [hq]; omega)) rfl trivial rfl rfl (glN_lt 1))
  · exact fin (a := 1) (b := 0) rfl rfl rfl rfl (hd (by decide) (by decide) (by decide) (by decide)) (fun j hj => by rcases (by omega : j = 0) with rfl <;> decide) (fun j hj => if h1 : j < n then (by simp [padF, h1]) else (by simp [padF, h1])) (tr (ref42_10 w o rd wr al fr ck th st n n g g i) (cj_all (by have hq : dq (CfgOK w o 1 0 rd wr al fr ck) = true := dq_iff.2 hc; simp [hq]; omega)) rfl trivial rfl rfl (glN_lt 1))
  · exact fin (a := 1) (b := 1) rfl rfl rfl rfl (hd (by decide) (by decide) (by decide) (by decide)) (fun j hj => by rcases (by omega : j = 0 ∨ j = 1) with rfl | rfl <;> decide) (fun j hj => if h1 : j < n then (by simp [padF, h1, show j < n + 1 by omega]) else (by simp [padF, h1])) (tr (ref42_11 w o rd wr al fr ck th st n n g g i) (cj_all (by have hq : dq (CfgOK w o 1 1 rd wr al fr ck) = true := dq_iff.2 hc; simp [hq]; omega)) rfl trivial rfl rfl (glN_lt 1))
  · exact fin (a := 1) (b := 2) rfl rfl rfl rfl (hd (by decide) (by decide) (by decide) (by decide)) (fun j hj => by rcases (by omega : j = 0 ∨ j = 1 ∨ j = 2) with rfl | rfl | rfl <;> decide) (fun j hj => if h1 : j < n then (by simp [padF, h1, show j < n + 1 by omega, show j < n + 1 + 1 by omega]) else (by simp [padF, h1])) (tr (ref42_12 w o rd wr al fr ck th st n n g g i) (cj_all (by have hq : dq (CfgOK w o 1 2 rd wr al fr ck) = true := dq_iff.2 hc; simp [hq]; omega)) rfl trivial rfl rfl (glN_lt 1))
  · exact fin (a := 2) (b := 0) rfl rfl rfl rfl (hd (by decide) (by decide) (by decide) (by decide)) (fun j hj => by rcases (by omega : j = 0 ∨ j = 1) with rfl | rfl <;> decide) (fun j hj => if h1 : j < n then (by simp [padF, h1, show j < n + 1 by omega]) else (by simp [padF, h1])) (tr (ref42_20 w o rd wr al fr ck th st n n g g i) (cj_all (by have hq : dq (CfgOK w o 2 0 rd wr al fr ck) = true := dq_iff.2 hc; simp [hq]; omega)) rfl trivial rfl rfl (glN_lt 1))
  · exact fin (a := 2) (b := 1) rfl rfl rfl rfl (hd (by decide) (by decide) (by decide) (by decide)) (fun j hj => by rcases (by omega : j = 0 ∨ j = 1 ∨ j = 2) with rfl | rfl | rfl <;> decide) (fun j hj => if h1 : j < n then (by simp [padF, h1, show j < n + 1 by omega, show j < n + 1 + 1 by omega]) else (by simp [padF, h1])) (tr (ref42_21 w o rd wr al fr ck th st n n g g i) (cj_all (by have hq : dq (CfgOK w o 2 1 rd wr al fr ck) = true := dq_iff.2 hc; simp [hq]; omega)) rfl trivial rfl rfl (glN_lt 1))
  · exact fin (a := 2) (b := 2) rfl rfl rfl rfl (hd (by decide) (by decide) (by decide) (by decide)) (fun j hj => by rcases (by omega : j = 0 ∨ j = 1 ∨ j = 2 ∨ j = 3) with rfl | rfl | rfl | rfl <;> decide) (fun j hj => if h1 : j < n then (by simp [padF, h1, show j < n + 1 by omega, show j < n + 1 + 1 by omega, show j < n + 1 + 1 + 1 by omega]) else (by simp [padF, h1])) (tr (ref42_22 w o rd wr al fr ck th st n n g g i) (cj_all (by have hq : dq (CfgOK w o 2 2 rd wr al fr ck) = true := dq_iff.2 hc; simp [hq]; omega)) rfl trivial rfl rfl (glN_lt 1))

theorem ref42_small {w o c0 c1 rd wr al fr ck th : Int} {st : Bool} {n : Nat} {g : Nat → Int} (hc : CfgOK w o c0 c1 rd wr al fr ck) (ht : 1 ≤ th ∧ th ≤ 16) (hn : (n : Int) = w) :
    Small Tryz.prog glN 42 [cfgV w o c0 c1 rd wr al fr ck st, .c (I th), .c (.r 0)] (ofList [(0, rowU n g)]) 1 (LP 1 0) (ofList (refL w o c0 c1 rd wr al fr ck th st n g)) 6 := by
  have hw := hc.hw
  have tr := fun {S S' : St} {l : List Ren} {o : Ev.Way} {cd : Code} {x0 : LExit} {c b : Bool} (F : WayFactX Tryz.prog glN TD mk0 42 130 1 l o cd S x0 S' c b) (hc : c = true) (hb : b = true) (hM : MapsFix (RenX 1 l) S'.L) (hA : apartL (RenX 1 l) S'.L = true) (hn : S'.n = 1 + l.length) => Tr.ofX mixed names_ok (TD_ok glN) F hc hb hM hA hn (glN_lt 1)
  refine Tr.small (r := 6) (S' := ⟨[(6, LP 1 0)], refL w o c0 c1 rd wr al fr ck th st n g, 7⟩) names_ok Tryz.func42 (c := c42) rfl (.inr rfl) rfl ?_ rfl (by kernel_rfl)
  show Tr Tryz.prog glN 1 130 (.seq (sL c42) (.seq (sL (sR c42)) (.seq (sL (sR (sR c42))) (.seq (.seq (sL (sL (sR (sR (sR c42))))) (.block 0 (.loop (sB (sB (sR (sL (sR (sR (sR c42)))))))))) (sR (sR (sR (sR c42)))))))) ⟨A42 w o c0 c1 rd wr al fr ck th st, [(0, rowU n g)], 1⟩ .ret _
  refine (tr (ref42_0 w o c0 c1 rd wr al fr ck th st n g) rfl rfl trivial rfl rfl).seq ((tr (ref42_1 w o c0 c1 rd wr al fr ck th st n g) (cj_all (by simp [dq_iff.2 hc])) rfl trivial rfl rfl).seq ((tr (ref42_2 w o c0 c1 rd wr al fr ck th st n g) rfl rfl trivial rfl rfl).seq
    (((tr (ref42_3 w o c0 c1 rd wr al fr ck th st n g) rfl rfl trivial rfl rfl).seq (Tr.block (Tr.loop (by simp) (fun i => S42 w o c0 c1 rd wr al fr ck th st n g i i g) n (fun i hi => ?_) (tr (ref42_end w o c0 c1 rd wr al fr ck th st n n g g n) (cj_all (by simp; omega)) rfl trivial rfl rfl)))).seq (ref42_rest hc ht hn n))))
  have h := tr (ref42_step w o c0 c1 rd wr al fr ck th st n i g g i) (cj_all (by simp; omega)) rfl trivial rfl rfl
  rw [wrap_succ hi (by unfold maxLen; omega)] at h
  exact h.ext ⟨rfl, .inl rfl, rfl, .inl rfl, rfl, .inl rfl, rfl, sameU fun j hj => by
    by_cases hji : j < i
    · simp [hji]
    · have : j = i := by omega
      subst this; simp, trivial⟩
end Go.Proofs.YtggpohgoebicjaaGreatDoor

namespace Go.Proofs.YtggpohgoebicjaaGreatDoor
open Go Go.Ev
set_option maxRecDepth 10000

/-! ## the makers of cells as primitives -/
def gOf (f : Nat → List Cell) (j : Nat) : Int := match f j with | [.v (.int _ x)] => x | _ => 0

/-- a maker: a configuration, a number of threads, the first words -/
noncomputable def makeP (L : Int → Int → Int → Int → Int → Int → Int → Int → Int → Int → Bool → Nat → (Nat → Int) → List (Nat × Entry)) (v0 : LV) (m : Nat) : Prim := fun args n => match args with
  | [.a [.v (.int .i64 w), .v (.int .i64 o), .v (.int .i64 b), .v (.int .i64 c0), .v (.int .i64 c1), .v (.int .i64 c2), .v (.int .i64 c3), .v (.int .i64 rd), .v (.int .i64 wr), .v (.int .i64 al), .v (.int .i64 fr), .v (.int .i64 ck), .v (.bool st)], .c (.v (.int .i64 th)), .c (.r h)] =>
    .get h fun
    | .row false t z q f => (match Nat.beq t 42, Nat.beq z 1, Nat.blt h n with
      | true, true, true => askP ((b = 2 ∧ c2 = 0 ∧ c3 = 0 ∧ CfgOK w o c0 c1 rd wr al fr ck) ∧ (1 ≤ th ∧ th ≤ 16) ∧ (q : Int) = w ∧ f = shU (gOf f)) (putsL (outName [h] n) 1 (L w o c0 c1 rd wr al fr ck th st q (gOf f)) (.ret (lvF (outName [h] n) v0, n + m)))
      | _, _, _ => .stuck)
    | _ => .stuck
  | _ => .stuck

theorem Ac.out_get' {α : Type} {h : Nat} {g : Entry → Ac α} {s : LW} {a : α} {s' : LW} {r w : List Nat} (hh : (Ac.get h g).out s = some (a, s', r, w)) : ∃ e r', s h = some e ∧ (g e).out s = some (a, s', r', w) := by
  rw [Ac.out_get] at hh
  cases hs : s h with
  | none => simp [hs] at hh
  | some e =>
    simp only [hs] at hh
    cases hg : (g e).out s with
    | none => simp [hg] at hh
    | some q =>
      obtain ⟨a1, s1, r1, w1⟩ := q
      simp [hg] at hh
      obtain ⟨rfl, rfl, rfl, rfl⟩ := hh
      exact ⟨e, r1, rfl, hg⟩

theorem make_ok {gl : Nat → Option Nat} {f : FuncId} {L : Int → Int → Int → Int → Int → Int → Int → Int → Int → Int → Bool → Nat → (Nat → Int) → List (Nat × Entry)} {v0 : LV} {m : Nat}
    (hkeys : ∀ w o c0 c1 rd wr al fr ck th st q g, ((L w o c0 c1 rd wr al fr ck th st q g).map (·.1)).Nodup ∧ (∀ x ∈ L w o c0 c1 rd wr al fr ck th st q g, x.1 < 1 + m) ∧ ofList (L w o c0 c1 rd wr al fr ck th st q g) 0 = some (rowU q g))
    (H : ∀ {w o c0 c1 rd wr al fr ck th : Int} {st : Bool} {q : Nat} {g : Nat → Int}, CfgOK w o c0 c1 rd wr al fr ck → (1 ≤ th ∧ th ≤ 16) → (q : Int) = w → Small Tryz.prog glN f [cfgV w o c0 c1 rd wr al fr ck st, .c (I th), .c (.r 0)] (ofList [(0, rowU q g)]) 1 v0 (ofList (L w o c0 c1 rd wr al fr ck th st q g)) m) :
    PrimOK1 Tryz.prog gl f (makeP L v0 m) := by
  intro args s n v n' s' r wf h
  unfold makeP at h
  split at h
  case h_2 => simp at h
  rename_i w o b c0 c1 c2 c3 rd wr al fr ck st th hh
  obtain ⟨e, r', hs, h⟩ := Ac.out_get' h
  cases e with
  | cells _ _ => simp at h
  | map _ => simp at h
  | row ro t z q f' =>
    cases ro with
    | true => simp at h
    | false =>
      simp only [] at h
      cases b1 : Nat.beq t 42 with
      | false => simp [b1] at h
      | true =>
        cases b2 : Nat.beq z 1 with
        | false => simp [b1, b2] at h
        | true =>
          cases b3 : Nat.blt hh n with
          | false => simp [b1, b2, b3] at h
          | true =>
            simp only [b1, b2, b3] at h
            obtain rfl := Nat.eq_of_beq_eq_true b1
            obtain rfl := Nat.eq_of_beq_eq_true b2
            have hlt : hh < n := Nat.le_of_ble_eq_true b3
            obtain ⟨hc, h2⟩ := askP_out h (by simp)
            clear h
            obtain ⟨⟨rfl, rfl, rfl, hcfg⟩, ht, hq, hf⟩ := hc
            rw [hf] at hs
            obtain ⟨k1, k2, k3⟩ := hkeys w o c0 c1 rd wr al fr ck th st q (gOf f')
            refine says_puts (hs := [hh]) (Lin := [(0, rowU q (gOf f'))]) (args := [cfgV w o c0 c1 rd wr al fr ck st, .c (I th), .c (.r hh)]) (H hcfg ht hq) (fun _ => rfl) (by simp) (by simpa using hlt) (fun j hj => ?_) (fun j e he => ?_) (fun j h' e g1 g2 => ?_) (fun j e he => ?_) k1 (by simpa using k2) (fun ν ys hy => ?_) h2
            · have : j = 0 := by simpa using hj
              subst this; exact ⟨_, rfl, k3⟩
            · have := ofList_mem he
              simp at this
              simp [this.1]
            · have := ofList_mem g2
              simp at this
              obtain ⟨rfl, rfl⟩ := this
              simp at g1
              subst g1
              exact hs
            · have := ofList_mem he
              simp at this
              obtain ⟨rfl, rfl⟩ := this
              exact ⟨rfl, shU_plain _⟩
            · refine plainA (cfgCs_plain w o c0 c1 rd wr al fr ck st) hy fun ys hy => plain1 hy fun ys hy => ?_
              cases hy with
              | cons q1 q2 =>
                cases q2
                obtain ⟨i, A, k1, k2⟩ := q1
                exact .cons ⟨i, A, by simpa using k1, k2⟩ .nil

theorem cells41_ok (gl : Nat → Option Nat) : PrimOK1 Tryz.prog gl 41 (makeP (fun w o c0 c1 _ _ _ _ _ th _ q g => cellsL w o c0 c1 th q g) (.t [.c (.p 15 0), .c (I 0)]) 15) :=
  make_ok (fun _ _ _ _ _ _ _ _ _ _ _ _ _ => ⟨by simp [cellsL], by simp [cellsL], rfl⟩) fun hc ht hq => cells_small hc ht hq
theorem ref42_ok (gl : Nat → Option Nat) : PrimOK1 Tryz.prog gl 42 (makeP refL (LP 1 0) 6) :=
  make_ok (fun _ _ _ _ _ _ _ _ _ _ _ _ _ => ⟨by simp [refL], by simp [refL], rfl⟩) fun hc ht hq => ref42_small hc ht hq
noncomputable def TS : FuncId → Option Prim := tableT [(41, makeP (fun w o c0 c1 _ _ _ _ _ th _ q g => cellsL w o c0 c1 th q g) (.t [.c (.p 15 0), .c (I 0)]) 15), (42, makeP refL (LP 1 0) 6)]
theorem TS_ok (gl : Nat → Option Nat) : PrimOK Tryz.prog gl TS := tableT_ok fun x hx => by
  simp only [List.mem_cons, List.not_mem_nil, or_false] at hx
  rcases hx with rfl | rfl
  · exact cells41_ok gl
  · exact ref42_ok gl
end Go.Proofs.YtggpohgoebicjaaGreatDoor
