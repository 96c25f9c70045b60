/- The law ThreadFaults answers true on every input of the five numbers, the two further numbers and the flag; no conditions beyond those of the statement. -/
import Derived.Test.YtggpohgoebicjaaGreatDoorEvE
import Derived.Test.YtggpohgoebicjaaGreatDoorWk1
import Derived.WalkKit
import Derived.ProofKit
import Derived.Shelf.Lay
import Derived.Lay
import Derived.LaidOnce
import Derived.SevenTiedAt
import Derived.Carry
import Derived.MakeChecks
import Derived.Test.YtggpohgoebicjaaGreatDoorWk3
set_option linter.all false
namespace Go.Proofs.YtggpohgoebicjaaGreatDoor
open Go Go.Ev Go.ChangeShapes Go.WideShapes Go.ChangeAt Go.RowKit

theorem own : ownKnob Tryz.prog.godebug = none := by kernel_rfl

section
variable {H : Type} {enc : TypeId × Value → H} {P : Program}
theorem int_of_trod {w : World} {base : Nat} {sp : Nat → Bool} {held : Bool} {t : TypeId} {k : IntKind} (ht : P.underlying t = some (.int k)) : ∀ {fuel : Nat} {cs : List Value} {d : DataW H} {p : List MemPlace},
    DataW.trod enc P w base sp held fuel t cs = some (d, p) → ∃ n, cs = [.int k n] ∧ (Lit.int k n).wf = true ∧ d = .lit (.int k n) ∧ p = []
  | 0, cs, d, p, h => by simp [DataW.trod] at h
  | fuel + 1, cs, d, p, h => by
    unfold DataW.trod at h
    rw [ht] at h
    split at h <;> rename_i h1 <;> first | (cases h1; done) | skip
    · cases h1
      split at h
      · rename_i hh
        obtain ⟨rfl, hw⟩ := hh
        simp only [Option.some.injEq, Prod.mk.injEq] at h
        exact ⟨_, rfl, hw, h.1.symm, by first | exact h.2 | exact h.2.symm⟩
      · cases h
    · cases h

theorem ints_of_trod {w : World} {base : Nat} {sp : Nat → Bool} {held : Bool} {t e : TypeId} {k : IntKind} (ht : P.underlying t = some (.array 5 e)) (he : P.underlying e = some (.int k)) (hce : P.cellsOf e = 1) (hct : P.cellsOf t = 5)
    {fuel : Nat} {cs : List Value} {d : DataW H} {p : List MemPlace} (h : DataW.trod enc P w base sp held fuel t cs = some (d, p)) :
    ∃ a b c x y, cs = [.int k a, .int k b, .int k c, .int k x, .int k y] ∧ ((Lit.int k a).wf = true ∧ (Lit.int k b).wf = true ∧ (Lit.int k c).wf = true ∧ (Lit.int k x).wf = true ∧ (Lit.int k y).wf = true) ∧
      d = .agg [.lit (.int k a), .lit (.int k b), .lit (.int k c), .lit (.int k x), .lit (.int k y)] ∧ p = [] := by
  obtain ⟨hl, f, xs, hx, hd, hp⟩ := array_of_trod ht h
  obtain ⟨g1, g2⟩ := Go.Ev.mapM_some_get hx
  rw [hct] at hl
  rw [hce] at g2
  match cs, hl with
  | [v0, v1, v2, v3, v4], _ =>
    obtain ⟨y0, e0, k0⟩ := g2 0 0 rfl
    obtain ⟨y1, e1, k1⟩ := g2 1 1 rfl
    obtain ⟨y2, e2, k2⟩ := g2 2 2 rfl
    obtain ⟨y3, e3, k3⟩ := g2 3 3 rfl
    obtain ⟨y4, e4, k4⟩ := g2 4 4 rfl
    obtain ⟨d0, p0⟩ := y0; obtain ⟨d1, p1⟩ := y1; obtain ⟨d2, p2⟩ := y2; obtain ⟨d3, p3⟩ := y3; obtain ⟨d4, p4⟩ := y4
    obtain ⟨n0, c0, w0, q0, r0⟩ := int_of_trod he k0
    obtain ⟨n1, c1, w1, q1, r1⟩ := int_of_trod he k1
    obtain ⟨n2, c2, w2, q2, r2⟩ := int_of_trod he k2
    obtain ⟨n3, c3, w3, q3, r3⟩ := int_of_trod he k3
    obtain ⟨n4, c4, w4, q4, r4⟩ := int_of_trod he k4
    have hxs : xs = [(d0, p0), (d1, p1), (d2, p2), (d3, p3), (d4, p4)] := by
      match xs, g1 with
      | [u0, u1, u2, u3, u4], _ => simp at e0 e1 e2 e3 e4; rw [e0, e1, e2, e3, e4]
    subst hxs
    simp at c0 c1 c2 c3 c4
    refine ⟨n0, n1, n2, n3, n4, by rw [c0, c1, c2, c3, c4], ⟨w0, w1, w2, w3, w4⟩, by rw [hd]; simp [q0, q1, q2, q3, q4], by rw [hp]; simp [r0, r1, r2, r3, r4]⟩

theorem ints_shut {w : World} {base : Nat} {sp : Nat → Bool} {held : Bool} {t e : TypeId} {k : IntKind} (ht : P.underlying t = some (.array 5 e)) (he : P.underlying e = some (.int k)) (hce : P.cellsOf e = 1) (hct : P.cellsOf t = 5)
    {a b c x y : Int} (ha : (Lit.int k a).wf = true) (hb : (Lit.int k b).wf = true) (hc : (Lit.int k c).wf = true) (hx : (Lit.int k x).wf = true) (hy : (Lit.int k y).wf = true) :
    DataW.Trod enc P w base sp held t (.agg #[.int k a, .int k b, .int k c, .int k x, .int k y]) (.agg [.lit (.int k a), .lit (.int k b), .lit (.int k c), .lit (.int k x), .lit (.int k y)]) [] := by
  refine ⟨2, ?_⟩
  have h1 : ∀ n, (Lit.int k n).wf = true → DataW.trod enc P w base sp held 1 e [.int k n] = some (.lit (.int k n), []) := fun n hn => by
    unfold DataW.trod; rw [he]; simp [hn]
  unfold DataW.trod
  rw [ht]
  simp [Value.cells, hct, hce, List.range, List.range.loop, h1, ha, hb, hc, hx, hy]
end

/-- what the evaluator has to show of a law with these parameters -/
def TFLaw : Prop := ∀ (a b c x y far v : Int) (strong : Bool) (W : World), (Lit.int .i64 a).wf = true → (Lit.int .i64 b).wf = true → (Lit.int .i64 c).wf = true → (Lit.int .i64 x).wf = true → (Lit.int .i64 y).wf = true →
  (Lit.int .i64 far).wf = true → (Lit.int .i64 v).wf = true → (∃ t, W.heap[0]? = some (.cells formsV.toArray t (0, 0))) →
  Calls Tryz.prog 3 #[.agg #[.int .i64 a, .int .i64 b, .int .i64 c, .int .i64 x, .int .i64 y], .int .i64 far, .int .i64 v, .bool strong] W fun e W' => e = .returned (.bool true) ∧ ∀ may, W.keptBut W' may

set_option maxRecDepth 100000 in
theorem tf_lifted (law : TFLaw) (os : Os) (started : os.Started) (H : Type) (enc : TypeId × Value → H) :
    ReturnsInHanded {} Tryz.checked os 3 .any (fun w args => (Rows.threadFaultsSpec.pre enc Tryz.prog Tryz.f3 [] false w args ∧ laidMetH Tryz.prog [("strongtx/isa.forms", Rows.laid_strongtx_isa_forms)] w) ∧ sizedMet enc Tryz.prog Tryz.f3 (OpenSpec.ofChange Rows.threadFaultsSpec) false w args)
      (Rows.threadFaultsSpec.post enc Tryz.prog Tryz.f3 false true false false) := by
  refine returnsInHanded_of_change_and (C := Tryz.checked) (X := fun w _ => laidMetH Tryz.prog [("strongtx/isa.forms", Rows.laid_strongtx_isa_forms)] w) (fun _ _ _ hh h => h.of_heap hh) own started (by kernel_rfl) Tryz.func3
    (ChangeSpec.witness_shaped (enc := enc) (C := Tryz.checked) (os := os) (X := fun w _ => laidMetH Tryz.prog [("strongtx/isa.forms", Rows.laid_strongtx_isa_forms)] w) false (World.laidAll Tryz.prog os [("strongtx/isa.forms", Rows.laid_strongtx_isa_forms)])
      #[.agg #[.int .i64 0, .int .i64 0, .int .i64 0, .int .i64 0, .int .i64 0], .int .i64 0, .int .i64 0, .bool false] 8 (World.laidAll_os _ _ _)
      (World.shaped_of_ZipB (by kernel_rfl) (by kernel_rfl)) (by kernel_rfl) (by kernel_rfl) (by kernel_rfl)
      (by rw [MakeChecks.laidMetH_plain _ _ _ (by kernel_rfl)]; exact laidMet_laidAll _ (by kernel_rfl) (by kernel_rfl))) ?_
  intro W base args ds gs before hval0 hW _ _ hL _
  have hval : ∀ (j : Nat) t v, Tryz.f3.params[j]? = some t → args[j]? = some v → Value.okWide Tryz.prog W .any base t v := hval0
  have hW' := hW
  obtain ⟨p, q, hA0, hV, rfl, _, _⟩ := hW
  have hA : DataW.TrodAll enc Tryz.prog W 0 (fun _ => true) true Tryz.f3.params.toList args.toList ds p := hA0
  rw [Tryz.params3] at hA hval
  obtain ⟨v0, v1, v2, v3, d0, d1, d2, d3, p0, p1, p2, p3, rfl, rfl, rfl, h0, h1, h2, h3⟩ := trodAll_four hA
  obtain ⟨rfl, rfl⟩ := trodVars_none hV
  obtain ⟨fuel, h0⟩ := h0
  obtain ⟨a, b, c, x, y, hcs, ⟨wa, wb, wc, wx, wy⟩, rfl, rfl⟩ := ints_of_trod (P := Tryz.prog) (t := 22) (e := 3) (k := .i64) (by kernel_rfl) (by kernel_rfl) (by kernel_rfl) (by kernel_rfl) h0
  obtain ⟨far, rfl, rfl, rfl, wfar⟩ := open_int Tryz.underlying3 (hval 1 3 v1 rfl rfl) h1
  obtain ⟨v, rfl, rfl, rfl, wv⟩ := open_int Tryz.underlying3 (hval 2 3 v2 rfl rfl) h2
  obtain ⟨s, rfl, rfl, rfl⟩ := open_bool Tryz.underlying4 (hval 3 4 v3 rfl rfl) h3
  have hv0 : v0 = .agg #[.int .i64 a, .int .i64 b, .int .i64 c, .int .i64 x, .int .i64 y] := by
    cases v0 with
    | agg cs => simp only [Value.cells] at hcs; congr 1; exact Array.ext' hcs
    | _ => simp [Value.cells] at hcs
  subst hv0
  simp only [List.append_nil] at hW'
  refine (law a b c x y far v s W wa wb wc wx wy wfar wv (forms_of_laid hL)).mono fun e W' ⟨he, hb⟩ => ?_
  subst he
  exact ⟨_, rfl, _, _, _, [], [], [], hW', trodAll_mk1 (shut_bool Tryz.underlying4 _),
    trodAll_mk4 (ints_shut (P := Tryz.prog) (t := 22) (e := 3) (k := .i64) (by kernel_rfl) (by kernel_rfl) (by kernel_rfl) (by kernel_rfl) wa wb wc wx wy) (shut_int Tryz.underlying3 wfar) (shut_int Tryz.underlying3 wv) (shut_bool Tryz.underlying4 _),
    rfl, hb _, fun h => by cases h⟩
end Go.Proofs.YtggpohgoebicjaaGreatDoor

namespace Go.Proofs.YtggpohgoebicjaaGreatDoor
open Go Go.Ev
set_option maxRecDepth 10000

@[reducible] def okCfg (a b c d e : Int) : Prop := (2 : Int) = 2 ∧ (0 : Int) = 0 ∧ (0 : Int) = 0 ∧ CfgOK (cW a) (cO b) (c0F a d) (c1F a d) (cR c) (cS c) (cA d) (cF d) (cK e)
def tfWay : Ev.Way := [(11, true), (0, true), (1239, true), (0, true), (0, true), (0, true), (10, true), (0, true), (97, true), (61, true), (59, true), (74, true), (0, true), (0, true), (0, true), (10, true), (0, true), (1, true), (7, true), (26, true), (8, true), (8, true), (5, true)]
noncomputable def tfC (t : TypeId) (a b c d e far : Int) : List Bool := [
  dq (okCfg a b c d e ∧ (1 : Int) ≤ 1 ∧ (1 : Int) ≤ 16), dq (okCfg a b c d e),
  plainN 1 (shU (padF (cW a).toNat iniF)) ((cW a).toNat + (c0F a d + c1F a d).toNat), decide (((cW a).toNat + (c0F a d + c1F a d).toNat) * 8 ≤ 140737488355328),
  plainN 1 (shU fun _ => 0) (cO b).toNat, decide ((cO b).toNat * 8 ≤ 140737488355328),
  plainN 1 (shU (nxF (c0F a d) (c1F a d))) (c0F a d + c1F a d).toNat, decide ((c0F a d + c1F a d).toNat * 8 ≤ 140737488355328),
  decide (IntKind.u64.wrap (0 + IntKind.u64.wrap (IntKind.i64.wrap (cW a + placeF far 1000))) ≥ IntKind.u64.wrap (cW a)),
  decide (IntKind.u64.wrap (0 + IntKind.u64.wrap (IntKind.i64.wrap (cW a + placeF far 1000))) ≥ IntKind.u64.wrap (cW a)),
  decide (18446744073709551615 ≥ IntKind.u64.wrap (cW a)),
  plainN 1 (shU (padF (cW a).toNat iniF)) ((cW a).toNat + (c0F a d + c1F a d).toNat), decide (((cW a).toNat + (c0F a d + c1F a d).toNat) * 8 ≤ 140737488355328),
  plainN 1 (shU fun _ => 0) (cO b).toNat, decide ((cO b).toNat * 8 ≤ 140737488355328),
  plainN 1 (shU (nxF (c0F a d) (c1F a d))) (c0F a d + c1F a d).toNat, decide ((c0F a d + c1F a d).toNat * 8 ≤ 140737488355328),
  dq (SameRows shU eqU ((cW a).toNat + (c0F a d + c1F a d).toNat) ((cW a).toNat + (c0F a d + c1F a d).toNat) (shU (padF (cW a).toNat iniF)) (shU (padF (cW a).toNat iniF))),
  dq (SameRows shU eqU (cO b).toNat (cO b).toNat (shU fun _ => 0) (shU fun _ => 0)),
  dq (SameRows shU eqU 1 1 (shU fun _ => 0) (shU fun _ => 0)),
  dq (SameRows shU eqU 4 4 (shU (hdF (c0F a d) (c1F a d))) (shU (hdF (c0F a d) (c1F a d)))),
  dq (SameRows shU eqU (c0F a d + c1F a d).toNat (c0F a d + c1F a d).toNat (shU (nxF (c0F a d) (c1F a d))) (shU (nxF (c0F a d) (c1F a d)))),
  dq (∃ t', formsE t = formsE t')]

theorem tf_way (t : TypeId) (a b c d e far v : Int) (st : Bool) : wayOut Tryz.prog gl0 TL mk0 3000 tfWay 3 [.a [I a, I b, I c, I d, I e], .c (I far), .c (I v), .c (B st)] (Ev.start t formsV) 1 (fun v s _ _ _ => (v, s 0)) = some (cj true (tfC t a b c d e far), .o (.c (B true)), some (formsE t)) := by
  kernel_rfl
end Go.Proofs.YtggpohgoebicjaaGreatDoor

namespace Go.Proofs.YtggpohgoebicjaaGreatDoor
open Go Go.Ev
set_option maxRecDepth 10000

theorem same_rows (n : Nat) (g : Nat → Int) : SameRows shU eqU n n (shU g) (shU g) := ⟨rfl, g, g, rfl, rfl, fun _ _ => rfl⟩

theorem tf_checks (t : TypeId) (a b c d e far : Int) : cj true (tfC t a b c d e far) = true := by
  have hw := cW_range a
  have h0 := c0F_range a d
  have h1 := c1F_range a d
  have hk : okCfg a b c d e := ⟨rfl, rfl, rfl, cfg_ok a b c d e⟩
  have ho := (cfg_ok a b c d e).ho
  have hf := placeF_range far 1000 (by omega) (by omega)
  have hu : IntKind.u64.wrap (cW a) = cW a := IntWalk.u64_in _ (by omega)
  have hadr : IntKind.u64.wrap (0 + IntKind.u64.wrap (IntKind.i64.wrap (cW a + placeF far 1000))) = cW a + placeF far 1000 := by
    rw [i64s (x := cW a + placeF far 1000) ⟨by omega, by omega⟩, IntWalk.u64_in (cW a + placeF far 1000) ⟨by omega, by omega⟩, Int.zero_add, IntWalk.u64_in (cW a + placeF far 1000) ⟨by omega, by omega⟩]
  refine cj_all fun x hx => ?_
  unfold tfC at hx
  rw [hu, hadr] at hx
  simp only [List.mem_cons, List.not_mem_nil, or_false] at hx
  rcases hx with rfl | rfl | rfl | rfl | rfl | rfl | rfl | rfl | rfl | rfl | rfl | rfl | rfl | rfl | rfl | rfl | rfl | rfl | rfl | rfl | rfl | rfl | rfl
  · exact dq_iff.2 ⟨hk, by omega, by omega⟩
  · exact dq_iff.2 hk
  · exact plain_shU _ _
  · exact decide_eq_true (by omega)
  · exact plain_shU _ _
  · exact decide_eq_true (by omega)
  · exact plain_shU _ _
  · exact decide_eq_true (by omega)
  · exact decide_eq_true (by omega)
  · exact decide_eq_true (by omega)
  · exact decide_eq_true (by omega)
  · exact plain_shU _ _
  · exact decide_eq_true (by omega)
  · exact plain_shU _ _
  · exact decide_eq_true (by omega)
  · exact plain_shU _ _
  · exact decide_eq_true (by omega)
  · exact dq_iff.2 (same_rows _ _)
  · exact dq_iff.2 (same_rows _ _)
  · exact dq_iff.2 (same_rows _ _)
  · exact dq_iff.2 (same_rows _ _)
  · exact dq_iff.2 (same_rows _ _)
  · exact dq_iff.2 ⟨t, rfl⟩

theorem formsV_one : ∀ u ∈ formsV, u.oneCell' = true := by
  have : formsV.all (fun u => u.oneCell') = true := by kernel_rfl
  intro u hu
  exact List.all_eq_true.1 this u hu

theorem tf_law : TFLaw := by
  intro a b c x y far v st W wa wb wc wx wy wf wv hW
  obtain ⟨t, hW⟩ := hW
  have h := tf_way t a b c x y far v st
  rw [tf_checks] at h
  obtain ⟨v', n', s', r, w, h1, h2⟩ := way_sound h
  simp only [Prod.mk.injEq] at h2
  obtain ⟨rfl, hs'⟩ := h2
  refine entry (ys := [.agg #[.int .i64 a, .int .i64 b, .int .i64 c, .int .i64 x, .int .i64 y], .int .i64 far, .int .i64 v, .bool st]) mixed names_ok TL_ok (g := 0) gl0_zero formsV_one Tryz.func3 rfl (fun ν => ?_) hW (by decide) h1 hs'
  exact .cons ⟨_, .cons rfl (.cons rfl (.cons rfl (.cons rfl (.cons rfl .nil)))), rfl⟩ (.cons rfl (.cons rfl (.cons rfl .nil)))
end Go.Proofs.YtggpohgoebicjaaGreatDoor
