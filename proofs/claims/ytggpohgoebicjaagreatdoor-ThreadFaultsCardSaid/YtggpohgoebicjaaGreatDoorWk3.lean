/- What Start and the sanity check compute; no conditions beyond the hypotheses named. -/
import Derived.Test.YtggpohgoebicjaaGreatDoorWk2
set_option linter.all false
namespace Go.Proofs.YtggpohgoebicjaaGreatDoor
open Go Go.Ev
set_option maxRecDepth 10000

/-! ## strongtxlab.Start -/
noncomputable def c11 : Code := bodyOf Tryz.f11
abbrev nilP : Cell := .v (.pointer none)
def iniF (j : Nat) : Int := 10 * j + 1
def S11a (w o c0 c1 rd wr al fr ck th : Int) (st : Bool) : St := ⟨[(1, LI th), (2, LP 0 0), (4, LP 1 0)], [(0, .cells 25 (cfgCs w o c0 c1 rd wr al fr ck st)), (1, .cells 34 [nilP, nilP])], 2⟩
def S11b (w o c0 c1 rd wr al fr ck th : Int) (st : Bool) : St := ⟨[(1, LI th), (2, LP 0 0), (4, LP 1 0), (6, .o (.c nilS))], [(0, .cells 25 (cfgCs w o c0 c1 rd wr al fr ck st)), (1, .cells 34 [nilP, nilP])], 2⟩
def S11 (w o c0 c1 rd wr al fr ck th : Int) (st : Bool) (i : Int) (m : Nat) (h : Nat → Int) : St :=
  ⟨[(1, LI th), (2, LP 0 0), (4, LP 1 0), (6, LR 2), (7, LI i)], [(0, .cells 25 (cfgCs w o c0 c1 rd wr al fr ck st)), (1, .cells 34 [nilP, nilP]), (2, rowU m h)], 3⟩

def startM : Int → Option Cell := fun k => (cellsM 9 10 11 12 13 14 3 6 k).map (cellF (outName [2] 3))
def startL (w o c0 c1 rd wr al fr ck th : Int) (st : Bool) : List (Nat × Entry) :=
  [(5, rowU 4 (hdF c0 c1)), (8, rowU (c0 + c1).toNat (nxF c0 c1)), (9, .map startM), (11, rowU (w.toNat + (c0 + c1).toNat) (padF w.toNat iniF)), (12, rowU o.toNat fun _ => 0), (13, rowU 1 fun _ => 0), (14, rowU 1 fun _ => 0), (15, rowU 1 fun _ => 0), (16, rowU th.toNat fun _ => 0), (17, .cells 131 [.m 9]),
    (18, .cells 94 (cfgCs w o c0 c1 rd wr al fr ck st ++ [.r 19, .r 20, U 0, U 0, U 0, .r 21, .r 22, .r 23])), (19, rowU (w.toNat + (c0 + c1).toNat) (padF w.toNat iniF)), (20, rowU o.toNat fun _ => 0), (21, rowU th.toNat fun _ => 0), (22, rowU 4 (hdF c0 c1)), (23, rowU (c0 + c1).toNat (nxF c0 c1))]
def startV : LV := .t [.a [.p 17 0, .p 18 0], .c (B true)]
def startR : List Ren := [.off, .to 1, .off, .off, .off, .to 5, .off, .off, .to 8, .to 9, .off, .to 11, .to 12, .to 13, .to 14, .to 15, .to 16, .to 17, .to 18, .to 19, .to 20, .to 21, .to 22, .to 23]

theorem start0 (w o c0 c1 rd wr al fr ck th : Int) (st : Bool) : WayFactX Tryz.prog glN TS mk0 11 42 0 [.to 0, .to 1] [] (sL c11) ⟨[(0, .o (cfgV w o c0 c1 rd wr al fr ck st)), (1, LI th)], [], 0⟩ .normal (S11a w o c0 c1 rd wr al fr ck th st) true true := by show _ = _; kernel_rfl
theorem start1 (w o c0 c1 rd wr al fr ck th : Int) (st : Bool) : WayFactX Tryz.prog glN TS mk0 11 42 0 [.to 0, .to 1] [] (sL (sR c11)) (S11a w o c0 c1 rd wr al fr ck th st) .normal (S11b w o c0 c1 rd wr al fr ck th st) true true := by show _ = _; kernel_rfl
theorem start2 (w o c0 c1 rd wr al fr ck th : Int) (st : Bool) : WayFactX Tryz.prog glN TS mk0 11 42 0 [.to 0, .to 1, .nil 1] [] (sL (sL (sR (sR c11)))) (S11b w o c0 c1 rd wr al fr ck th st) .normal (S11 w o c0 c1 rd wr al fr ck th st 0 0 iniF) true true := by show _ = _; kernel_rfl
theorem start_step (w o c0 c1 rd wr al fr ck th : Int) (st : Bool) (i : Int) (m : Nat) (h : Nat → Int) : WayFactX Tryz.prog glN TS mk0 11 42 0 [.to 0, .to 1, .to 4] [(0, true), (0, true)] (sB (sB (sR (sL (sR (sR c11)))))) (S11 w o c0 c1 rd wr al fr ck th st i m h) .normal
  (S11 w o c0 c1 rd wr al fr ck th st (IntKind.i64.wrap (i + 1)) (m + 1) (fun j => bif decide (j < m) then h j else IntKind.u64.wrap (IntKind.i64.wrap (IntKind.i64.wrap (10 * i) + 1)))) (cj true [decide (i < w), decide ((m + 1) * 8 ≤ 140737488355328)]) true := by show _ = _; kernel_rfl
theorem start_end (w o c0 c1 rd wr al fr ck th : Int) (st : Bool) (i : Int) (m : Nat) (h : Nat → Int) : WayFactX Tryz.prog glN TS mk0 11 42 0 [.to 0, .to 1, .to 2] [(0, false)] (sB (sB (sR (sL (sR (sR c11)))))) (S11 w o c0 c1 rd wr al fr ck th st i m h) (.exit 0)
  (S11 w o c0 c1 rd wr al fr ck th st i m h) (cj true [!(decide (i < w))]) true := by show _ = _; kernel_rfl
theorem start_post (w o c0 c1 rd wr al fr ck th : Int) (st : Bool) (i : Int) : WayFactX Tryz.prog glN TS mk0 11 42 0 startR [(0, true), (0, true)] (sR (sR (sR c11))) (S11 w o c0 c1 rd wr al fr ck th st i w.toNat iniF) .ret
  ⟨[(4, LP 1 0), (5, .o (.c (B true)))], (1, .cells 34 [.p 17 0, .p 18 0]) :: startL w o c0 c1 rd wr al fr ck th st, 24⟩
  (cj true [dq (((2 : Int) = 2 ∧ (0 : Int) = 0 ∧ (0 : Int) = 0 ∧ CfgOK w o c0 c1 rd wr al fr ck) ∧ (1 ≤ th ∧ th ≤ 16) ∧ (w.toNat : Int) = w ∧ shU iniF = shU (gOf (shU iniF))), dq (((2 : Int) = 2 ∧ (0 : Int) = 0 ∧ (0 : Int) = 0 ∧ CfgOK w o c0 c1 rd wr al fr ck) ∧ (1 ≤ th ∧ th ≤ 16) ∧ (w.toNat : Int) = w ∧ shU iniF = shU (gOf (shU iniF)))]) true := by show _ = _; kernel_rfl

theorem startM_fix : MapFix (RenX 0 startR) startM := by
  intro k c hk
  unfold startM cellsM setKey at hk
  repeat' split at hk
  all_goals first | (simp only [Option.map_some, Option.some.injEq] at hk; subst hk; exact ⟨rfl, by simp [cellF]⟩) | (simp at hk; done)

theorem start_small {w o c0 c1 rd wr al fr ck th : Int} {st : Bool} (hc : CfgOK w o c0 c1 rd wr al fr ck) (ht : 1 ≤ th ∧ th ≤ 16) :
    Small Tryz.prog glN 11 [cfgV w o c0 c1 rd wr al fr ck st, .c (I th)] (ofList []) 0 startV (ofList ((1, .cells 34 [.p 17 0, .p 18 0]) :: startL w o c0 c1 rd wr al fr ck th st)) 24 := by
  have hw := hc.hw
  have hwn : (w.toNat : Int) = w := by omega
  have tr := fun {S S' : St} {l : List Ren} {o : Ev.Way} {cd : Code} {x0 : LExit} {c b : Bool} (F : WayFactX Tryz.prog glN TS mk0 11 42 0 l o cd S x0 S' c b) (hc : c = true) (hb : b = true) (hM : MapsFix (RenX 0 l) S'.L) (hA : apartL (RenX 0 l) S'.L = true) (hn : S'.n = 0 + l.length) => Tr.ofX mixed names_ok (TS_ok glN) F hc hb hM hA hn (glN_lt 0)
  have hq : dq (((2 : Int) = 2 ∧ (0 : Int) = 0 ∧ (0 : Int) = 0 ∧ CfgOK w o c0 c1 rd wr al fr ck) ∧ (1 ≤ th ∧ th ≤ 16) ∧ (w.toNat : Int) = w ∧ shU iniF = shU (gOf (shU iniF))) = true := dq_iff.2 ⟨⟨rfl, rfl, rfl, hc⟩, ht, hwn, rfl⟩
  refine Tr.small (r := 24) (S' := ⟨[(4, LP 1 0), (5, .o (.c (B true)))], (1, .cells 34 [.p 17 0, .p 18 0]) :: startL w o c0 c1 rd wr al fr ck th st, 24⟩) names_ok Tryz.func11 (c := c11) rfl (.inr rfl) rfl ?_ rfl (by kernel_rfl)
  show Tr Tryz.prog glN 0 42 (.seq (sL c11) (.seq (sL (sR c11)) (.seq (.seq (sL (sL (sR (sR c11)))) (.block 0 (.loop (sB (sB (sR (sL (sR (sR c11))))))))) (sR (sR (sR c11)))))) ⟨[(0, .o (cfgV w o c0 c1 rd wr al fr ck st)), (1, LI th)], [], 0⟩ .ret _
  refine (tr (start0 w o c0 c1 rd wr al fr ck th st) rfl rfl trivial rfl rfl).seq ((tr (start1 w o c0 c1 rd wr al fr ck th st) rfl rfl trivial rfl rfl).seq
    (((tr (start2 w o c0 c1 rd wr al fr ck th st) rfl rfl trivial rfl rfl).seq (Tr.block (Tr.loop (by simp) (fun i => S11 w o c0 c1 rd wr al fr ck th st i i iniF) w.toNat (fun i hi => ?_) (tr (start_end w o c0 c1 rd wr al fr ck th st w.toNat w.toNat iniF) (cj_all (by simp; omega)) rfl trivial rfl rfl)))).seq
      (tr (start_post w o c0 c1 rd wr al fr ck th st w.toNat) (cj_all (fun b hb => by
        rcases List.mem_cons.1 hb with rfl | hb
        · exact hq
        · rcases List.mem_cons.1 hb with rfl | hb
          · exact hq
          · cases hb)) rfl ⟨startM_fix, trivial⟩ rfl rfl)))
  have h := tr (start_step w o c0 c1 rd wr al fr ck th st i i iniF) (cj_all (by simp; omega)) rfl trivial rfl rfl
  rw [wrap_succ hi (by unfold maxLen; omega)] at h
  refine h.ext ⟨rfl, .inl rfl, rfl, .inl rfl, rfl, sameU fun j hj => ?_, trivial⟩
  by_cases hji : j < i
  · simp [hji]
  · have : j = i := by omega
    subst this
    rw [i64s (x := 10 * (j : Int)) (by omega), i64s (x := 10 * (j : Int) + 1) (by omega), IntWalk.u64_in _ (by omega)]
    simp [iniF]

noncomputable def startP : Prim := fun args n => match args with
  | [.a [.v (.int .i64 w), .v (.int .i64 o), .v (.int .i64 b), .v (.int .i64 c0), .v (.int .i64 c1), .v (.int .i64 c2), .v (.int .i64 c3), .v (.int .i64 rd), .v (.int .i64 wr), .v (.int .i64 al), .v (.int .i64 fr), .v (.int .i64 ck), .v (.bool st)], .c (.v (.int .i64 th))] =>
    askP ((b = 2 ∧ c2 = 0 ∧ c3 = 0 ∧ CfgOK w o c0 c1 rd wr al fr ck) ∧ (1 ≤ th ∧ th ≤ 16)) (putsL (outName [] n) 0 ((1, .cells 34 [.p 17 0, .p 18 0]) :: startL w o c0 c1 rd wr al fr ck th st) (.ret (lvF (outName [] n) startV, n + 24)))
  | _ => .stuck

theorem start_ok (gl : Nat → Option Nat) : PrimOK1 Tryz.prog gl 11 startP := by
  intro args s n v n' s' r wf h
  unfold startP at h
  split at h
  case h_2 => simp at h
  rename_i w o b c0 c1 c2 c3 rd wr al fr ck st th
  obtain ⟨hc, h2⟩ := askP_out h (by simp)
  clear h
  obtain ⟨⟨rfl, rfl, rfl, hcfg⟩, ht⟩ := hc
  refine says_puts (hs := []) (Lin := []) (args := [cfgV w o c0 c1 rd wr al fr ck st, .c (I th)]) (start_small hcfg ht) (fun _ => rfl) (by simp) (by simp) (fun j hj => by simp at hj) (fun j e he => by cases he) (fun j h' e g1 g2 => by simp at g1) (fun j e he => by cases he)
    (by simp [startL]) (by simp [startL]) (fun ν ys hy => plainA (cfgCs_plain w o c0 c1 rd wr al fr ck st) hy fun ys hy => plain1 hy fun ys hy => plain0 hy) h2
end Go.Proofs.YtggpohgoebicjaaGreatDoor

namespace Go.Proofs.YtggpohgoebicjaaGreatDoor
open Go Go.Ev
set_option maxRecDepth 10000

/-! ## the sanity check of the statement -/
def formsE (t : TypeId) : Entry := .cells t (formsV.map .v)
noncomputable def TA : FuncId → Option Prim := tableT ((401, externP Tryz.prog Extern.BytealgIndexByte.indexByte) :: cloneT)
theorem ext401_ok (gl : Nat → Option Nat) : PrimOK1 Tryz.prog gl 401 (externP Tryz.prog Extern.BytealgIndexByte.indexByte) :=
  externP_ok (fn := Tryz.f401) names_ok Tryz.func401 rfl (by kernel_rfl) (by kernel_rfl)
theorem TA_ok (gl : Nat → Option Nat) : PrimOK Tryz.prog gl TA := tableT_ok fun x hx => by
  rcases List.mem_cons.1 hx with rfl | hx
  · exact ext401_ok gl
  · exact cloneT_ok gl x hx
theorem awake19 (t : TypeId) : CallFact Tryz.prog gl0 TA mk0 19 1 [] [] [] [(0, formsE t)] (.o (.c (B true))) [(0, formsE t)] true true := by show _ = _; kernel_rfl
end Go.Proofs.YtggpohgoebicjaaGreatDoor

namespace Go.Proofs.YtggpohgoebicjaaGreatDoor
open Go Go.Ev
set_option maxRecDepth 10000

noncomputable def awakeP : Prim := fun args n => match args with
  | [] => .get 0 fun e => askP (∃ t, e = formsE t) (match Nat.blt 0 n with
    | true => .ret (.o (.c (B true)), n)
    | false => .stuck)
  | _ => .stuck
theorem formsE_plain (t : TypeId) : PlainE (formsE t) := fun c hc => by
  obtain ⟨v, _, h⟩ := List.mem_map.1 hc
  exact ⟨v, h.symm⟩
theorem awake_small (t : TypeId) : Small Tryz.prog gl0 19 [] (ofList [(0, formsE t)]) 1 (.o (.c (B true))) (ofList [(0, formsE t)]) 0 := small_path mixed names_ok (TA_ok gl0) (awake19 t) rfl rfl trivial rfl
theorem gl0_zero : ∀ g j, gl0 g = some j → g = 0 ∧ j = 0 := by
  intro g j h
  unfold gl0 at h
  split at h
  · exact ⟨rfl, by simpa using h.symm⟩
  · cases h
theorem awake_ok : PrimOK1 Tryz.prog gl0 19 awakeP := by
  intro args s n v n' s' r wf h
  unfold awakeP at h
  split at h
  case h_2 => simp at h
  obtain ⟨e, r', he, h⟩ := Ac.out_get' h
  obtain ⟨⟨t, rfl⟩, h2⟩ := askP_out h (by simp)
  clear h
  cases hb : Nat.blt 0 n with
  | false => simp [hb] at h2
  | true =>
    simp only [hb, Ac.out_ret, Option.some.injEq, Prod.mk.injEq] at h2
    obtain ⟨⟨rfl, rfl⟩, rfl, rfl, rfl⟩ := h2
    have hlt : 0 < n := Nat.le_of_ble_eq_true hb
    refine says_ro_g (hs := [0]) (es := [formsE t]) (s0 := ofList [(0, formsE t)]) (awake_small t) (fun g j hj => ?_) (fun j => ?_) rfl (by simp) (by simpa using hlt) (fun j h e h1 h2 => ?_) (fun e he => ?_) (fun ν ys hy => ?_) rfl
    · obtain ⟨rfl, rfl⟩ := gl0_zero g j hj
      exact ⟨0, rfl, rfl⟩
    · match j with
      | 0 => rfl
      | j + 1 => simp [ofList, Nat.beq]
    · match j with
      | 0 =>
        simp at h1 h2
        subst h1 h2; exact he
      | j + 1 => simp at h1
    · simp at he; subst he; exact formsE_plain t
    · cases hy; exact .nil
noncomputable def TL : FuncId → Option Prim := tableT [(9, configP), (10, placeP), (11, startP), (43, cfgP fun _ _ _ _ _ _ _ _ _ => LI 0), (48, cloneP 42 1 8), (55, sameP shU eqU 1), (19, awakeP), (401, externP Tryz.prog Extern.BytealgIndexByte.indexByte), (54, cloneP 54 3 24), (45, cloneP 29 5 40)]
theorem TL_ok : PrimOK Tryz.prog gl0 TL := tableT_ok fun x hx => by
  simp only [List.mem_cons, List.not_mem_nil, or_false] at hx
  rcases hx with rfl | rfl | rfl | rfl | rfl | rfl | rfl | rfl | rfl | rfl
  · exact config_ok gl0
  · exact place_ok gl0
  · exact start_ok gl0
  · exact check43_ok gl0
  · exact clone_ok mixed names_ok (TN_ok glN) clone48
  · exact words_ok gl0
  · exact awake_ok
  · exact ext401_ok gl0
  · exact clone_ok mixed names_ok (TN_ok glN) clone54
  · exact clone_ok mixed names_ok (TN_ok glN) clone45
end Go.Proofs.YtggpohgoebicjaaGreatDoor
