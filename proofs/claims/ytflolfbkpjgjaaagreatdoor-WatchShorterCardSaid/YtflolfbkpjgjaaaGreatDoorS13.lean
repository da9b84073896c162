/- WatchShorter holds: the law returns true for every input, and each argument reads behind the call as it read before. Conditions: the tables of the library that the row lists hold what their text lays. -/
import Derived.Test.YtflolfbkpjgjaaaGreatDoorCards
import Derived.Test.YtflolfbkpjgjaaaGreatDoorTie
import Derived.Test.YtflolfbkpjgjaaaGreatDoorY8
set_option linter.unusedVariables false
set_option linter.unusedSimpArgs false
section
namespace Go.Proofs.YtflolfbkpjgjaaaGreatDoorW.PrintWords
open Go.RowKit
namespace Kd
def bare {α : Type} (d : Kd α) : Kd α where
  sz := d.sz
  E := d.E
  K := d.K
  M := fun w base _ x cs => d.M w base (fun _ => False) x cs
  K_len := fun h => d.K_len h
  K_one := fun h => d.K_one h
  K_below := fun hb h => d.K_below hb h
  K_of_M := fun h => d.K_of_M h
  M_mono := fun _ h => h
  M_bound := fun h => h
  M_move := fun _ h => d.M_move (fun _ hk => hk.elim) h
  M_lower := fun hb h => d.M_lower hb h
section
variable {α β : Type} {d : Kd α} {d' : Kd β} {e e' : Nat} {w w1 W : World} {base b : Nat} {ok ok' okv oku : Nat → Prop} {u v : Value} {xs : List α} {ys : List β}
end
section
variable {α β : Type} {d : Kd α} {d' : Kd β} {e e' g : Nat} {w w1 W : World} {base b : Nat} {ok ok' okv oku : Nat → Prop} {u v : Value} {xs : List α} {ys : List β}
end
section
variable {P : Program} {ops : Array Oper} {rest : List Oper} {o : Oper} {a : Act} {Q : Exit → Act → World → Prop} {Kc : Act → World → Prop} {α : Type}
end
section
variable {α β : Type} {d : Kd α} {e e' g n cap : Nat} {w w1 W : World} {base : Nat} {ok ok' oki okp : Nat → Prop} {u v : Value} {xs : List α} {i : Int} {c : List Value}
end
section
variable {P : Program} {ops : Array Oper} {rest : List Oper} {o : Oper} {a : Act} {Q : Exit → Act → World → Prop} {α : Type}
end
end Kd
end Go.Proofs.YtflolfbkpjgjaaaGreatDoorW.PrintWords
end
section
namespace Go.Proofs.YtflolfbkpjgjaaaGreatDoor
def shR (r : Ros) (a b : Int) : Ros := ⟨r.gates, a, b, r.ahead, r.turns⟩
theorem shR_valid {r : Ros} (V : Valid r) {a b : Int} (h1 : r.frm ≤ a) (h2 : b ≤ r.til) (h3 : a < b) : Valid (shR r a b) :=
  ⟨V.gates, by have := V.frm; show 0 ≤ a; omega, h3, by have := V.til; show b ≤ 16777216; omega, V.clocks, V.turns, V.row, V.zero, V.bnd, V.tri, V.turn⟩
theorem shR_way {r : Ros} {a b gate : Int} (h1 : r.frm ≤ a) {p : List Nat} (h : Way (grOf r gate) p) : Way (grOf (shR r a b) gate) p := by
  refine ⟨h.ne, h.own, h.nd, fun x hx => ?_, h.chn⟩
  have hb := h.beg x hx
  change begB r (x : Int) = true at hb
  show begB (shR r a b) (x : Int) = true
  unfold begB begLate at *
  rw [decide_eq_true_eq] at *
  change (tn r (x : Int)).frm - a + ahd r 0 (tn r (x : Int)).clock ≤ 0
  omega
theorem shR_plan {r : Ros} {a b gate : Int} (h1 : r.frm ≤ a) (h2 : b ≤ r.til) {p : List Nat} (h : Plan (grOf r gate) p) : Plan (grOf (shR r a b) gate) p := by
  refine ⟨shR_way h1 h.way, fun x hx => ?_⟩
  have hb := h.fin x hx
  change endB r (x : Int) = true at hb
  show endB (shR r a b) (x : Int) = true
  unfold endB endLate at *
  rw [decide_eq_true_eq] at *
  change b - (tn r (x : Int)).til + ahd r (tn r (x : Int)).clock2 0 ≤ 0
  omega
theorem planE_iff {r : Ros} {gate : Int} (V : Valid r) (h0 : 0 ≤ gate) (h1 : gate < r.gates) (l : List Int) : checkPlanE r gate l = 0 ↔ ∃ p, l = intsN p ∧ Plan (grOf r gate) p := by
  rw [checkPlanE_zero V h0 h1, ← planB_iff V]
  cases planB r gate l <;> simp
structure Shorter (r s : Ros) (gate : Int) (l : List Int) : Prop where
  can : planR r gate ≠ [] → planR s gate ≠ []
  lst : checkPlanE r gate l = 0 → checkPlanE s gate l = 0
  gap : checkGapE s gate l = 0 → checkPlanE r gate (intsN (planR r gate)) ≠ 0
  own : planR r gate ≠ [] → checkPlanE s gate (intsN (planR r gate)) = 0
  cost : planR r gate ≠ [] → costL s (intsN (planR s gate)) ≤ costL r (intsN (planR r gate))
theorem shorter_law {r : Ros} {gate a b : Int} (V : Valid r) (g0 : 0 ≤ gate) (g1 : gate < r.gates) (h1 : r.frm ≤ a) (h2 : b ≤ r.til) (h3 : a < b) (l : List Int) : Shorter r (shR r a b) gate l := by
  have VS := shR_valid V h1 h2 h3
  have B := planR_best V gate
  have BS := planR_best VS gate
  have gs : gate < (shR r a b).gates := g1
  have hcan : planR r gate ≠ [] → planR (shR r a b) gate ≠ [] := fun h => by
    obtain ⟨p, hp⟩ := (best_ne B).1 h
    exact (best_ne BS).2 ⟨p, shR_plan h1 h2 hp⟩
  refine ⟨hcan, fun h => ?_, fun h => ?_, fun h => ?_, fun h => ?_⟩
  · rw [planE_iff V g0 g1] at h
    rw [planE_iff VS g0 gs]
    obtain ⟨p, e, hp⟩ := h
    exact ⟨p, e, shR_plan h1 h2 hp⟩
  · rw [checkGapE_zero VS g0 gs] at h
    rw [Ne, planE_iff V g0 g1]
    rintro ⟨p, e, hp⟩
    exact h.none p (shR_plan h1 h2 hp)
  · rw [planE_iff VS g0 gs]
    exact ⟨_, rfl, shR_plan h1 h2 (B.plan.resolve_left h)⟩
  · have hp := shR_plan (b := b) h1 h2 (B.plan.resolve_left h)
    have hs := BS.plan.resolve_left (hcan h)
    exact key_costs VS hs.way hp.way (BS.least _ hp).2
theorem plan_in {r : Ros} {gate : Int} {p : List Nat} (h : Plan (grOf r gate) p) : (∀ x ∈ intsN p, 0 ≤ x ∧ x < r.turns.length) ∧ diffB (intsN p) = true := by
  have hb := (planB_ints gate (fun x hx => (h.way.own x hx).1)).2 h
  refine ⟨fun x hx => ?_, ?_⟩
  · obtain ⟨i, hi, rfl⟩ := mem_ints.1 hx
    have : i < r.turns.length := (h.way.own i hi).1
    omega
  · unfold planB at hb
    simp only [Bool.and_eq_true] at hb
    exact hb.2.1
end Go.Proofs.YtflolfbkpjgjaaaGreatDoor
end
section
namespace Go.Proofs.YtflolfbkpjgjaaaGreatDoor
open Go.RowKit Go.Proofs.YtflolfbkpjgjaaaGreatDoorW.PrintWords
open Go.Proofs.YtflolfbkpjgjaaaGreatDoorW.PrintMore
set_option maxHeartbeats 60000000 in
set_option maxRecDepth 100000 in
theorem shorter_calls (v lv : Value) (r : Ros) (gate : Int) (l : List Int) (a b : Int) (w : World) (hT : TabP w) (hv : RosAt w v r) (hl : IntsAt w lv l) :
    Calls Tryz.prog 13 #[v, .int .i64 gate, lv, .int .i64 a, .int .i64 b] w fun e w' => e = .returned (.bool true) ∧ Below w.heap.size w w' := by
  have HT := Aside0.mk hT
  obtain ⟨A, c, T, d, rfl, h1, h2, h3, h4⟩ := hv
  have hR : Aside0 (RosAt w (.agg #[.int .i64 r.gates, .int .i64 r.frm, .int .i64 r.til, .slice A r.ahead.length c, .slice T r.turns.length d]) r) := ⟨⟨A, c, T, d, rfl, h1, h2, h3, h4⟩⟩
  obtain ⟨A1, c1, rfl, i1, i2⟩ := hl
  have HL : Aside0 (IntsAt w (.slice A1 l.length c1) l) := ⟨⟨A1, c1, rfl, i1, i2⟩⟩
  clear i1 i2
  have hS : Aside0 (RosAt w (.agg #[.int .i64 (shR r a b).gates, .int .i64 (shR r a b).frm, .int .i64 (shR r a b).til, .slice A (shR r a b).ahead.length c, .slice T (shR r a b).turns.length d]) (shR r a b)) := ⟨⟨A, c, T, d, rfl, h1, h2, h3, h4⟩⟩
  clear hT h1 h2 h3 h4
  have hval := fun W (h : RosAt W (.agg #[.int .i64 r.gates, .int .i64 r.frm, .int .i64 r.til, .slice A r.ahead.length c, .slice T r.turns.length d]) r) => valid_calls (.agg #[.int .i64 r.gates, .int .i64 r.frm, .int .i64 r.til, .slice A r.ahead.length c, .slice T r.turns.length d]) r W h
  have hfew := fun W (h : RosAt W (.agg #[.int .i64 r.gates, .int .i64 r.frm, .int .i64 r.til, .slice A r.ahead.length c, .slice T r.turns.length d]) r) (h2 : IntsAt W (.slice A1 l.length c1) l) => few1_calls (.agg #[.int .i64 r.gates, .int .i64 r.frm, .int .i64 r.til, .slice A r.ahead.length c, .slice T r.turns.length d]) _ r l W h h2
  by_cases hg : checkB r = true ∧ fewB r [l] = true ∧ 0 ≤ gate ∧ gate < r.gates ∧ r.frm ≤ a ∧ b ≤ r.til ∧ a < b
  · obtain ⟨g1, g2, g3, g4, g5, g6, g7⟩ := hg
    simp only [g1] at hval
    simp only [g2] at hfew
    have V := (checkB_iff r).1 g1
    have d1 : decide (gate < 0) = false := decide_eq_false (by omega)
    have d2 : decide (r.gates ≤ gate) = false := decide_eq_false (by omega)
    have d3 : decide (a < r.frm) = false := decide_eq_false (by omega)
    have d4 : decide (r.til < b) = false := decide_eq_false (by omega)
    have d5 : decide (b ≤ a) = false := decide_eq_false (by omega)
    have VS := shR_valid (a := a) (b := b) V g5 g6 g7
    have HE := shorter_law V g3 g4 g5 g6 g7 l
    have hplan := fun W (h : RosAt W (.agg #[.int .i64 r.gates, .int .i64 r.frm, .int .i64 r.til, .slice A r.ahead.length c, .slice T r.turns.length d]) r) => plan0_calls V g3 g4 h
    have hplan2 := fun W (h : RosAt W (.agg #[.int .i64 (shR r a b).gates, .int .i64 (shR r a b).frm, .int .i64 (shR r a b).til, .slice A (shR r a b).ahead.length c, .slice T (shR r a b).turns.length d]) (shR r a b)) => plan0_calls VS g3 (show gate < (shR r a b).gates from g4) h
    have hpa := fun W (h : RosAt W (.agg #[.int .i64 r.gates, .int .i64 r.frm, .int .i64 r.til, .slice A r.ahead.length c, .slice T r.turns.length d]) r) (h2 : IntsAt W (.slice A1 l.length c1) l) => checkPlan_calls (.agg #[.int .i64 r.gates, .int .i64 r.frm, .int .i64 r.til, .slice A r.ahead.length c, .slice T r.turns.length d]) (.slice A1 l.length c1) r gate l W h h2
    have hpb := fun W (h : RosAt W (.agg #[.int .i64 (shR r a b).gates, .int .i64 (shR r a b).frm, .int .i64 (shR r a b).til, .slice A (shR r a b).ahead.length c, .slice T (shR r a b).turns.length d]) (shR r a b)) (h2 : IntsAt W (.slice A1 l.length c1) l) => checkPlan_calls (.agg #[.int .i64 (shR r a b).gates, .int .i64 (shR r a b).frm, .int .i64 (shR r a b).til, .slice A (shR r a b).ahead.length c, .slice T (shR r a b).turns.length d]) (.slice A1 l.length c1) (shR r a b) gate l W h h2
    have hgc := fun W (h : RosAt W (.agg #[.int .i64 (shR r a b).gates, .int .i64 (shR r a b).frm, .int .i64 (shR r a b).til, .slice A (shR r a b).ahead.length c, .slice T (shR r a b).turns.length d]) (shR r a b)) (h2 : IntsAt W (.slice A1 l.length c1) l) => checkGap_calls (.agg #[.int .i64 (shR r a b).gates, .int .i64 (shR r a b).frm, .int .i64 (shR r a b).til, .slice A (shR r a b).ahead.length c, .slice T (shR r a b).turns.length d]) (.slice A1 l.length c1) (shR r a b) gate l W h h2
    have hpd := fun W x (h : RosAt W (.agg #[.int .i64 r.gates, .int .i64 r.frm, .int .i64 r.til, .slice A r.ahead.length c, .slice T r.turns.length d]) r) (h2 : IntsAt W x (intsN (planR r gate))) => checkPlan_calls (.agg #[.int .i64 r.gates, .int .i64 r.frm, .int .i64 r.til, .slice A r.ahead.length c, .slice T r.turns.length d]) x r gate (intsN (planR r gate)) W h h2
    have hpe := fun W x (h : RosAt W (.agg #[.int .i64 (shR r a b).gates, .int .i64 (shR r a b).frm, .int .i64 (shR r a b).til, .slice A (shR r a b).ahead.length c, .slice T (shR r a b).turns.length d]) (shR r a b)) (h2 : IntsAt W x (intsN (planR r gate))) => checkPlan_calls (.agg #[.int .i64 (shR r a b).gates, .int .i64 (shR r a b).frm, .int .i64 (shR r a b).til, .slice A (shR r a b).ahead.length c, .slice T (shR r a b).turns.length d]) x (shR r a b) gate (intsN (planR r gate)) W h h2
    have HF : Aside0 (rosC (shR r a b) A c T d = #[.int .i64 r.gates, .int .i64 a, .int .i64 b, .slice A r.ahead.length c, .slice T r.turns.length d]) := ⟨rfl⟩
    obtain ⟨f1, f2, f3, f4, f5⟩ := HE
    by_cases hp : planR r gate ≠ []
    · have hq := f1 hp
      have P1 := plan_in ((planR_best V gate).plan.resolve_left hp)
      have P2 := plan_in ((planR_best VS gate).plan.resolve_left hq)
      have hcx := fun W x (h : RosAt W (.agg #[.int .i64 r.gates, .int .i64 r.frm, .int .i64 r.til, .slice A r.ahead.length c, .slice T r.turns.length d]) r) (h2 : IntsAt W x (intsN (planR r gate))) => cost0_calls (v := (.agg #[.int .i64 r.gates, .int .i64 r.frm, .int .i64 r.til, .slice A r.ahead.length c, .slice T r.turns.length d])) (lv := x) (w := W) V P1.1 P1.2 h h2
      have hcy := fun W x (h : RosAt W (.agg #[.int .i64 (shR r a b).gates, .int .i64 (shR r a b).frm, .int .i64 (shR r a b).til, .slice A (shR r a b).ahead.length c, .slice T (shR r a b).turns.length d]) (shR r a b)) (h2 : IntsAt W x (intsN (planR (shR r a b) gate))) => cost0_calls (v := (.agg #[.int .i64 (shR r a b).gates, .int .i64 (shR r a b).frm, .int .i64 (shR r a b).til, .slice A (shR r a b).ahead.length c, .slice T (shR r a b).turns.length d])) (lv := x) (w := W) VS P2.1 P2.2 h h2
      have k4 := f4 hp
      have k5 := decide_eq_true (f5 hp)
      simp only [decide_eq_true hp] at hplan
      simp only [decide_eq_true hq] at hplan2
      simp only [k4] at hpe
      clear f1 f4 f5 k4 P1 P2 V VS hp hq g1 g2
      generalize shR r a b = s at *
      generalize checkPlanE r gate l = xa at *
      generalize checkPlanE s gate l = xb at *
      generalize checkGapE s gate l = xc at *
      generalize checkPlanE r gate (intsN (planR r gate)) = xd at *
      generalize costL r (intsN (planR r gate)) = cx at *
      generalize costL s (intsN (planR s gate)) = cy at *
      have f2' : xa ≠ 0 ∨ xb = 0 := Decidable.not_or_of_imp f2
      have f3' : xc ≠ 0 ∨ xd ≠ 0 := Decidable.not_or_of_imp f3
      clear f2 f3 g3 g4 g5 g6 g7
      go_enter Tryz.func13, Tryz.ntmps13
      go_wp2_with (first | ((with_reducible refine gate_dst (N := 5) rfl ?_); refine box_event ?hg (N := 5) ?hd (cs := (rosC r A c T d)) (t := 25) ?hr ?_; (case hd => rfl); (case hg => rfl); (case hr => first | (go_simp; done) | (go_simp; rfl)); intro g hg_ wb hbox_ hb_; have BK := Aside0.mk hbox_; have HB := Aside0.mk hb_; obtain ⟨q0, q1, q2, q3, q4⟩ := rosC_cells BK.out; clear hbox_ hb_ hg_) | (go_at_call 17; refine (sane_calls _ (HT.out.below HB.out)).mono ?_; rintro e wb ⟨rfl, hb_⟩; replace HB := Aside0.mk (below_step HB.out hb_); replace BK := Aside0.mk (blk_below BK.out hb_); (try (replace BS := Aside0.mk (blk_below BS.out hb_))); (try (replace LP := Aside0.mk (LP.out.below hb_))); (try (replace LS := Aside0.mk (LS.out.below hb_))); clear q0 q1 q2 q3 q4; obtain ⟨q0, q1, q2, q3, q4⟩ := rosC_cells BK.out; (try (clear p0 p1 p2 p3 p4; obtain ⟨p0, p1, p2, p3, p4⟩ := rosC_cells BS.out)); clear hb_) | (go_at_call 34; (with_reducible refine (hval _ (hR.out.below HB.out)).mono ?_); rintro e wb ⟨rfl, hb_⟩; replace HB := Aside0.mk (below_step HB.out hb_); replace BK := Aside0.mk (blk_below BK.out hb_); (try (replace BS := Aside0.mk (blk_below BS.out hb_))); (try (replace LP := Aside0.mk (LP.out.below hb_))); (try (replace LS := Aside0.mk (LS.out.below hb_))); clear q0 q1 q2 q3 q4; obtain ⟨q0, q1, q2, q3, q4⟩ := rosC_cells BK.out; (try (clear p0 p1 p2 p3 p4; obtain ⟨p0, p1, p2, p3, p4⟩ := rosC_cells BS.out)); clear hb_) | (go_at_call 18; (with_reducible refine (hfew _ (hR.out.below HB.out) (HL.out.below HB.out)).mono ?_); rintro e wb ⟨rfl, hb_⟩; replace hb_ := below_al hb_; replace HB := Aside0.mk (below_step HB.out hb_); replace BK := Aside0.mk (blk_below BK.out hb_); (try (replace BS := Aside0.mk (blk_below BS.out hb_))); (try (replace LP := Aside0.mk (LP.out.below hb_))); (try (replace LS := Aside0.mk (LS.out.below hb_))); clear q0 q1 q2 q3 q4; obtain ⟨q0, q1, q2, q3, q4⟩ := rosC_cells BK.out; (try (clear p0 p1 p2 p3 p4; obtain ⟨p0, p1, p2, p3, p4⟩ := rosC_cells BS.out)); clear hb_) | ((with_reducible refine gate_dst (N := 11) rfl ?_); refine box_event ?hg (N := 11) ?hd (cs := #[.int .i64 0, .int .i64 0, .int .i64 0, .slice none 0 0, .slice none 0 0]) (t := 25) ?hr ?_; (case hd => rfl); (case hg => rfl); (case hr => first | (go_simp; done) | (go_simp; rfl)); intro g2 hg w5 hbox_ hb_;  have BZ := Aside0.mk hbox_; have HX := Aside0.mk hb_; have HG := Aside0.mk (Nat.le_of_eq hg.symm); have HNE : Aside0 (g ≠ g2) := ⟨by have h1 := blk_lt BK.out; omega⟩; replace BK := Aside0.mk (blk_below BK.out hb_); have z0 : w5.cell? ⟨g2, 0, none⟩ = some (.int .i64 0) := (blk_cell BZ.out 0).trans rfl; have y0 := blk_frozen BZ.out 0; have z1 : w5.cell? ⟨g2, 1, none⟩ = some (.int .i64 0) := (blk_cell BZ.out 1).trans rfl; have y1 := blk_frozen BZ.out 1; have z2 : w5.cell? ⟨g2, 2, none⟩ = some (.int .i64 0) := (blk_cell BZ.out 2).trans rfl; have y2 := blk_frozen BZ.out 2; have z3 : w5.cell? ⟨g2, 3, none⟩ = some (.slice none 0 0) := (blk_cell BZ.out 3).trans rfl; have y3 := blk_frozen BZ.out 3; have z4 : w5.cell? ⟨g2, 4, none⟩ = some (.slice none 0 0) := (blk_cell BZ.out 4).trans rfl; have y4 := blk_frozen BZ.out 4; clear q0 q1 q2 q3 q4; obtain ⟨q0, q1, q2, q3, q4⟩ := rosC_cells BK.out; have hne : g ≠ g2 := HNE.out; clear hbox_ hb_ hg) | (go_at_call 35; have BS : Aside0 ((((((((w5.setCell ⟨g2, 0, none⟩ (.int .i64 r.gates)).setCell ⟨g2, 1, none⟩ (.int .i64 r.frm)).setCell ⟨g2, 2, none⟩ (.int .i64 r.til)).setCell ⟨g2, 3, none⟩ (.slice A r.ahead.length c)).setCell ⟨g2, 4, none⟩ (.slice T r.turns.length d)).setCell ⟨g2, 1, none⟩ (.int .i64 a)).setCell ⟨g2, 2, none⟩ (.int .i64 b)).heap[g2]? = some (.cells (rosC s A c T d) 25 (0, 0))) := ⟨by rw [HF.out]; exact (blk_set (blk_set (blk_set (blk_set (blk_set (blk_set (blk_set BZ.out 0 (.int .i64 r.gates)) 1 (.int .i64 r.frm)) 2 (.int .i64 r.til)) 3 (.slice A r.ahead.length c)) 4 (.slice T r.turns.length d)) 1 (.int .i64 a)) 2 (.int .i64 b))⟩; replace BK := Aside0.mk (blk_far (p := ⟨g2, 2, none⟩) (blk_far (p := ⟨g2, 1, none⟩) (blk_far (p := ⟨g2, 4, none⟩) (blk_far (p := ⟨g2, 3, none⟩) (blk_far (p := ⟨g2, 2, none⟩) (blk_far (p := ⟨g2, 1, none⟩) (blk_far (p := ⟨g2, 0, none⟩) BK.out HNE.out (.int .i64 r.gates)) HNE.out (.int .i64 r.frm)) HNE.out (.int .i64 r.til)) HNE.out (.slice A r.ahead.length c)) HNE.out (.slice T r.turns.length d)) HNE.out (.int .i64 a)) HNE.out (.int .i64 b)); replace HB := Aside0.mk (below_step HB.out (bset (bset (bset (bset (bset (bset (bset HX.out HG.out 0 (.int .i64 r.gates)) HG.out 1 (.int .i64 r.frm)) HG.out 2 (.int .i64 r.til)) HG.out 3 (.slice A r.ahead.length c)) HG.out 4 (.slice T r.turns.length d)) HG.out 1 (.int .i64 a)) HG.out 2 (.int .i64 b))); clear z0 z1 z2 z3 z4 y0 y1 y2 y3 y4 hne BZ HX q0 q1 q2 q3 q4; generalize (((((((w5.setCell ⟨g2, 0, none⟩ (.int .i64 r.gates)).setCell ⟨g2, 1, none⟩ (.int .i64 r.frm)).setCell ⟨g2, 2, none⟩ (.int .i64 r.til)).setCell ⟨g2, 3, none⟩ (.slice A r.ahead.length c)).setCell ⟨g2, 4, none⟩ (.slice T r.turns.length d)).setCell ⟨g2, 1, none⟩ (.int .i64 a)).setCell ⟨g2, 2, none⟩ (.int .i64 b)) = wb at *; (with_reducible refine (hplan _ (hR.out.below HB.out)).mono ?_); rintro e wb ⟨pv, rfl, hl_, hb_⟩; replace HB := Aside0.mk (below_step HB.out hb_); replace BK := Aside0.mk (blk_below BK.out hb_); replace BS := Aside0.mk (blk_below BS.out hb_); have LP := Aside0.mk hl_; obtain ⟨p0, p1, p2, p3, p4⟩ := rosC_cells BS.out; obtain ⟨q0, q1, q2, q3, q4⟩ := rosC_cells BK.out; clear hl_ hb_) | (go_at_call 35; (with_reducible refine (hplan2 _ (hS.out.below HB.out)).mono ?_); rintro e wb ⟨sv, rfl, hl_, hb_⟩; replace HB := Aside0.mk (below_step HB.out hb_); replace BK := Aside0.mk (blk_below BK.out hb_); (try (replace BS := Aside0.mk (blk_below BS.out hb_))); (try (replace LP := Aside0.mk (LP.out.below hb_))); (try (replace LS := Aside0.mk (LS.out.below hb_))); have LS := Aside0.mk hl_; clear hl_; clear q0 q1 q2 q3 q4; obtain ⟨q0, q1, q2, q3, q4⟩ := rosC_cells BK.out; (try (clear p0 p1 p2 p3 p4; obtain ⟨p0, p1, p2, p3, p4⟩ := rosC_cells BS.out)); clear hb_) | (go_at_call 36; (with_reducible refine (hpa _ (hR.out.below HB.out) (HL.out.below HB.out)).mono ?_); rintro e wb ⟨rfl, hb_⟩; replace HB := Aside0.mk (below_step HB.out hb_); replace BK := Aside0.mk (blk_below BK.out hb_); (try (replace BS := Aside0.mk (blk_below BS.out hb_))); (try (replace LP := Aside0.mk (LP.out.below hb_))); (try (replace LS := Aside0.mk (LS.out.below hb_))); clear q0 q1 q2 q3 q4; obtain ⟨q0, q1, q2, q3, q4⟩ := rosC_cells BK.out; (try (clear p0 p1 p2 p3 p4; obtain ⟨p0, p1, p2, p3, p4⟩ := rosC_cells BS.out)); clear hb_) | (go_at_call 36; (with_reducible refine (hpb _ (hS.out.below HB.out) (HL.out.below HB.out)).mono ?_); rintro e wb ⟨rfl, hb_⟩; replace HB := Aside0.mk (below_step HB.out hb_); replace BK := Aside0.mk (blk_below BK.out hb_); (try (replace BS := Aside0.mk (blk_below BS.out hb_))); (try (replace LP := Aside0.mk (LP.out.below hb_))); (try (replace LS := Aside0.mk (LS.out.below hb_))); clear q0 q1 q2 q3 q4; obtain ⟨q0, q1, q2, q3, q4⟩ := rosC_cells BK.out; (try (clear p0 p1 p2 p3 p4; obtain ⟨p0, p1, p2, p3, p4⟩ := rosC_cells BS.out)); clear hb_) | (go_at_call 26; (with_reducible refine (hgc _ (hS.out.below HB.out) (HL.out.below HB.out)).mono ?_); rintro e wb ⟨rfl, hb_⟩; replace HB := Aside0.mk (below_step HB.out hb_); replace BK := Aside0.mk (blk_below BK.out hb_); (try (replace BS := Aside0.mk (blk_below BS.out hb_))); (try (replace LP := Aside0.mk (LP.out.below hb_))); (try (replace LS := Aside0.mk (LS.out.below hb_))); clear q0 q1 q2 q3 q4; obtain ⟨q0, q1, q2, q3, q4⟩ := rosC_cells BK.out; (try (clear p0 p1 p2 p3 p4; obtain ⟨p0, p1, p2, p3, p4⟩ := rosC_cells BS.out)); clear hb_) | (go_at_call 36; (with_reducible refine (hpd _ _ (hR.out.below HB.out) LP.out).mono ?_); rintro e wb ⟨rfl, hb_⟩; replace HB := Aside0.mk (below_step HB.out hb_); replace BK := Aside0.mk (blk_below BK.out hb_); (try (replace BS := Aside0.mk (blk_below BS.out hb_))); (try (replace LP := Aside0.mk (LP.out.below hb_))); (try (replace LS := Aside0.mk (LS.out.below hb_))); clear q0 q1 q2 q3 q4; obtain ⟨q0, q1, q2, q3, q4⟩ := rosC_cells BK.out; (try (clear p0 p1 p2 p3 p4; obtain ⟨p0, p1, p2, p3, p4⟩ := rosC_cells BS.out)); clear hb_) | (go_at_call 36; (with_reducible refine (hpe _ _ (hS.out.below HB.out) LP.out).mono ?_); rintro e wb ⟨rfl, hb_⟩; replace HB := Aside0.mk (below_step HB.out hb_); replace BK := Aside0.mk (blk_below BK.out hb_); (try (replace BS := Aside0.mk (blk_below BS.out hb_))); (try (replace LP := Aside0.mk (LP.out.below hb_))); (try (replace LS := Aside0.mk (LS.out.below hb_))); clear q0 q1 q2 q3 q4; obtain ⟨q0, q1, q2, q3, q4⟩ := rosC_cells BK.out; (try (clear p0 p1 p2 p3 p4; obtain ⟨p0, p1, p2, p3, p4⟩ := rosC_cells BS.out)); clear hb_) | (go_at_call 54; (with_reducible refine (hcx _ _ (hR.out.below HB.out) LP.out).mono ?_); rintro e wb ⟨rfl, hb_⟩; replace HB := Aside0.mk (below_step HB.out hb_); replace BK := Aside0.mk (blk_below BK.out hb_); (try (replace BS := Aside0.mk (blk_below BS.out hb_))); (try (replace LP := Aside0.mk (LP.out.below hb_))); (try (replace LS := Aside0.mk (LS.out.below hb_))); clear q0 q1 q2 q3 q4; obtain ⟨q0, q1, q2, q3, q4⟩ := rosC_cells BK.out; (try (clear p0 p1 p2 p3 p4; obtain ⟨p0, p1, p2, p3, p4⟩ := rosC_cells BS.out)); clear hb_) | (go_at_call 54; (with_reducible refine (hcy _ _ (hS.out.below HB.out) LS.out).mono ?_); rintro e wb ⟨rfl, hb_⟩; replace HB := Aside0.mk (below_step HB.out hb_); replace BK := Aside0.mk (blk_below BK.out hb_); (try (replace BS := Aside0.mk (blk_below BS.out hb_))); (try (replace LP := Aside0.mk (LP.out.below hb_))); (try (replace LS := Aside0.mk (LS.out.below hb_))); clear q0 q1 q2 q3 q4; obtain ⟨q0, q1, q2, q3, q4⟩ := rosC_cells BK.out; (try (clear p0 p1 p2 p3 p4; obtain ⟨p0, p1, p2, p3, p4⟩ := rosC_cells BS.out)); clear hb_))
      all_goals first
        | (go_ret; exact ⟨rfl, HB.out⟩)
        | (exfalso; (try simp only [beq_iff_eq, bne_iff_ne, ne_eq, beq_eq_false_iff_ne, bne_eq_false_iff_eq, decide_eq_true_eq, decide_eq_false_iff_not, Bool.not_eq_true] at *); omega)
    · simp only [decide_eq_false hp] at hplan
      clear f1 f4 f5 V VS hp g1 g2
      generalize shR r a b = s at *
      generalize checkPlanE r gate l = xa at *
      generalize checkPlanE s gate l = xb at *
      generalize checkGapE s gate l = xc at *
      generalize checkPlanE r gate (intsN (planR r gate)) = xd at *
      have f2' : xa ≠ 0 ∨ xb = 0 := Decidable.not_or_of_imp f2
      have f3' : xc ≠ 0 ∨ xd ≠ 0 := Decidable.not_or_of_imp f3
      clear f2 f3 g3 g4 g5 g6 g7
      go_enter Tryz.func13, Tryz.ntmps13
      go_wp2_with (first | ((with_reducible refine gate_dst (N := 5) rfl ?_); refine box_event ?hg (N := 5) ?hd (cs := (rosC r A c T d)) (t := 25) ?hr ?_; (case hd => rfl); (case hg => rfl); (case hr => first | (go_simp; done) | (go_simp; rfl)); intro g hg_ wb hbox_ hb_; have BK := Aside0.mk hbox_; have HB := Aside0.mk hb_; obtain ⟨q0, q1, q2, q3, q4⟩ := rosC_cells BK.out; clear hbox_ hb_ hg_) | (go_at_call 17; refine (sane_calls _ (HT.out.below HB.out)).mono ?_; rintro e wb ⟨rfl, hb_⟩; replace HB := Aside0.mk (below_step HB.out hb_); replace BK := Aside0.mk (blk_below BK.out hb_); (try (replace BS := Aside0.mk (blk_below BS.out hb_))); (try (replace LP := Aside0.mk (LP.out.below hb_))); (try (replace LS := Aside0.mk (LS.out.below hb_))); clear q0 q1 q2 q3 q4; obtain ⟨q0, q1, q2, q3, q4⟩ := rosC_cells BK.out; (try (clear p0 p1 p2 p3 p4; obtain ⟨p0, p1, p2, p3, p4⟩ := rosC_cells BS.out)); clear hb_) | (go_at_call 34; (with_reducible refine (hval _ (hR.out.below HB.out)).mono ?_); rintro e wb ⟨rfl, hb_⟩; replace HB := Aside0.mk (below_step HB.out hb_); replace BK := Aside0.mk (blk_below BK.out hb_); (try (replace BS := Aside0.mk (blk_below BS.out hb_))); (try (replace LP := Aside0.mk (LP.out.below hb_))); (try (replace LS := Aside0.mk (LS.out.below hb_))); clear q0 q1 q2 q3 q4; obtain ⟨q0, q1, q2, q3, q4⟩ := rosC_cells BK.out; (try (clear p0 p1 p2 p3 p4; obtain ⟨p0, p1, p2, p3, p4⟩ := rosC_cells BS.out)); clear hb_) | (go_at_call 18; (with_reducible refine (hfew _ (hR.out.below HB.out) (HL.out.below HB.out)).mono ?_); rintro e wb ⟨rfl, hb_⟩; replace hb_ := below_al hb_; replace HB := Aside0.mk (below_step HB.out hb_); replace BK := Aside0.mk (blk_below BK.out hb_); (try (replace BS := Aside0.mk (blk_below BS.out hb_))); (try (replace LP := Aside0.mk (LP.out.below hb_))); (try (replace LS := Aside0.mk (LS.out.below hb_))); clear q0 q1 q2 q3 q4; obtain ⟨q0, q1, q2, q3, q4⟩ := rosC_cells BK.out; (try (clear p0 p1 p2 p3 p4; obtain ⟨p0, p1, p2, p3, p4⟩ := rosC_cells BS.out)); clear hb_) | ((with_reducible refine gate_dst (N := 11) rfl ?_); refine box_event ?hg (N := 11) ?hd (cs := #[.int .i64 0, .int .i64 0, .int .i64 0, .slice none 0 0, .slice none 0 0]) (t := 25) ?hr ?_; (case hd => rfl); (case hg => rfl); (case hr => first | (go_simp; done) | (go_simp; rfl)); intro g2 hg w5 hbox_ hb_;  have BZ := Aside0.mk hbox_; have HX := Aside0.mk hb_; have HG := Aside0.mk (Nat.le_of_eq hg.symm); have HNE : Aside0 (g ≠ g2) := ⟨by have h1 := blk_lt BK.out; omega⟩; replace BK := Aside0.mk (blk_below BK.out hb_); have z0 : w5.cell? ⟨g2, 0, none⟩ = some (.int .i64 0) := (blk_cell BZ.out 0).trans rfl; have y0 := blk_frozen BZ.out 0; have z1 : w5.cell? ⟨g2, 1, none⟩ = some (.int .i64 0) := (blk_cell BZ.out 1).trans rfl; have y1 := blk_frozen BZ.out 1; have z2 : w5.cell? ⟨g2, 2, none⟩ = some (.int .i64 0) := (blk_cell BZ.out 2).trans rfl; have y2 := blk_frozen BZ.out 2; have z3 : w5.cell? ⟨g2, 3, none⟩ = some (.slice none 0 0) := (blk_cell BZ.out 3).trans rfl; have y3 := blk_frozen BZ.out 3; have z4 : w5.cell? ⟨g2, 4, none⟩ = some (.slice none 0 0) := (blk_cell BZ.out 4).trans rfl; have y4 := blk_frozen BZ.out 4; clear q0 q1 q2 q3 q4; obtain ⟨q0, q1, q2, q3, q4⟩ := rosC_cells BK.out; have hne : g ≠ g2 := HNE.out; clear hbox_ hb_ hg) | (go_at_call 35; have BS : Aside0 ((((((((w5.setCell ⟨g2, 0, none⟩ (.int .i64 r.gates)).setCell ⟨g2, 1, none⟩ (.int .i64 r.frm)).setCell ⟨g2, 2, none⟩ (.int .i64 r.til)).setCell ⟨g2, 3, none⟩ (.slice A r.ahead.length c)).setCell ⟨g2, 4, none⟩ (.slice T r.turns.length d)).setCell ⟨g2, 1, none⟩ (.int .i64 a)).setCell ⟨g2, 2, none⟩ (.int .i64 b)).heap[g2]? = some (.cells (rosC s A c T d) 25 (0, 0))) := ⟨by rw [HF.out]; exact (blk_set (blk_set (blk_set (blk_set (blk_set (blk_set (blk_set BZ.out 0 (.int .i64 r.gates)) 1 (.int .i64 r.frm)) 2 (.int .i64 r.til)) 3 (.slice A r.ahead.length c)) 4 (.slice T r.turns.length d)) 1 (.int .i64 a)) 2 (.int .i64 b))⟩; replace BK := Aside0.mk (blk_far (p := ⟨g2, 2, none⟩) (blk_far (p := ⟨g2, 1, none⟩) (blk_far (p := ⟨g2, 4, none⟩) (blk_far (p := ⟨g2, 3, none⟩) (blk_far (p := ⟨g2, 2, none⟩) (blk_far (p := ⟨g2, 1, none⟩) (blk_far (p := ⟨g2, 0, none⟩) BK.out HNE.out (.int .i64 r.gates)) HNE.out (.int .i64 r.frm)) HNE.out (.int .i64 r.til)) HNE.out (.slice A r.ahead.length c)) HNE.out (.slice T r.turns.length d)) HNE.out (.int .i64 a)) HNE.out (.int .i64 b)); replace HB := Aside0.mk (below_step HB.out (bset (bset (bset (bset (bset (bset (bset HX.out HG.out 0 (.int .i64 r.gates)) HG.out 1 (.int .i64 r.frm)) HG.out 2 (.int .i64 r.til)) HG.out 3 (.slice A r.ahead.length c)) HG.out 4 (.slice T r.turns.length d)) HG.out 1 (.int .i64 a)) HG.out 2 (.int .i64 b))); clear z0 z1 z2 z3 z4 y0 y1 y2 y3 y4 hne BZ HX q0 q1 q2 q3 q4; generalize (((((((w5.setCell ⟨g2, 0, none⟩ (.int .i64 r.gates)).setCell ⟨g2, 1, none⟩ (.int .i64 r.frm)).setCell ⟨g2, 2, none⟩ (.int .i64 r.til)).setCell ⟨g2, 3, none⟩ (.slice A r.ahead.length c)).setCell ⟨g2, 4, none⟩ (.slice T r.turns.length d)).setCell ⟨g2, 1, none⟩ (.int .i64 a)).setCell ⟨g2, 2, none⟩ (.int .i64 b)) = wb at *; (with_reducible refine (hplan _ (hR.out.below HB.out)).mono ?_); rintro e wb ⟨pv, rfl, hl_, hb_⟩; replace HB := Aside0.mk (below_step HB.out hb_); replace BK := Aside0.mk (blk_below BK.out hb_); replace BS := Aside0.mk (blk_below BS.out hb_); have LP := Aside0.mk hl_; obtain ⟨p0, p1, p2, p3, p4⟩ := rosC_cells BS.out; obtain ⟨q0, q1, q2, q3, q4⟩ := rosC_cells BK.out; clear hl_ hb_) | (go_at_call 35; (with_reducible refine (hplan2 _ (hS.out.below HB.out)).mono ?_); rintro e wb ⟨sv, rfl, hl_, hb_⟩; replace HB := Aside0.mk (below_step HB.out hb_); replace BK := Aside0.mk (blk_below BK.out hb_); (try (replace BS := Aside0.mk (blk_below BS.out hb_))); (try (replace LP := Aside0.mk (LP.out.below hb_))); (try (replace LS := Aside0.mk (LS.out.below hb_))); have LS := Aside0.mk hl_; clear hl_; clear q0 q1 q2 q3 q4; obtain ⟨q0, q1, q2, q3, q4⟩ := rosC_cells BK.out; (try (clear p0 p1 p2 p3 p4; obtain ⟨p0, p1, p2, p3, p4⟩ := rosC_cells BS.out)); clear hb_) | (go_at_call 36; (with_reducible refine (hpa _ (hR.out.below HB.out) (HL.out.below HB.out)).mono ?_); rintro e wb ⟨rfl, hb_⟩; replace HB := Aside0.mk (below_step HB.out hb_); replace BK := Aside0.mk (blk_below BK.out hb_); (try (replace BS := Aside0.mk (blk_below BS.out hb_))); (try (replace LP := Aside0.mk (LP.out.below hb_))); (try (replace LS := Aside0.mk (LS.out.below hb_))); clear q0 q1 q2 q3 q4; obtain ⟨q0, q1, q2, q3, q4⟩ := rosC_cells BK.out; (try (clear p0 p1 p2 p3 p4; obtain ⟨p0, p1, p2, p3, p4⟩ := rosC_cells BS.out)); clear hb_) | (go_at_call 36; (with_reducible refine (hpb _ (hS.out.below HB.out) (HL.out.below HB.out)).mono ?_); rintro e wb ⟨rfl, hb_⟩; replace HB := Aside0.mk (below_step HB.out hb_); replace BK := Aside0.mk (blk_below BK.out hb_); (try (replace BS := Aside0.mk (blk_below BS.out hb_))); (try (replace LP := Aside0.mk (LP.out.below hb_))); (try (replace LS := Aside0.mk (LS.out.below hb_))); clear q0 q1 q2 q3 q4; obtain ⟨q0, q1, q2, q3, q4⟩ := rosC_cells BK.out; (try (clear p0 p1 p2 p3 p4; obtain ⟨p0, p1, p2, p3, p4⟩ := rosC_cells BS.out)); clear hb_) | (go_at_call 26; (with_reducible refine (hgc _ (hS.out.below HB.out) (HL.out.below HB.out)).mono ?_); rintro e wb ⟨rfl, hb_⟩; replace HB := Aside0.mk (below_step HB.out hb_); replace BK := Aside0.mk (blk_below BK.out hb_); (try (replace BS := Aside0.mk (blk_below BS.out hb_))); (try (replace LP := Aside0.mk (LP.out.below hb_))); (try (replace LS := Aside0.mk (LS.out.below hb_))); clear q0 q1 q2 q3 q4; obtain ⟨q0, q1, q2, q3, q4⟩ := rosC_cells BK.out; (try (clear p0 p1 p2 p3 p4; obtain ⟨p0, p1, p2, p3, p4⟩ := rosC_cells BS.out)); clear hb_) | (go_at_call 36; (with_reducible refine (hpd _ _ (hR.out.below HB.out) LP.out).mono ?_); rintro e wb ⟨rfl, hb_⟩; replace HB := Aside0.mk (below_step HB.out hb_); replace BK := Aside0.mk (blk_below BK.out hb_); (try (replace BS := Aside0.mk (blk_below BS.out hb_))); (try (replace LP := Aside0.mk (LP.out.below hb_))); (try (replace LS := Aside0.mk (LS.out.below hb_))); clear q0 q1 q2 q3 q4; obtain ⟨q0, q1, q2, q3, q4⟩ := rosC_cells BK.out; (try (clear p0 p1 p2 p3 p4; obtain ⟨p0, p1, p2, p3, p4⟩ := rosC_cells BS.out)); clear hb_) | (go_at_call 36; (with_reducible refine (hpe _ _ (hS.out.below HB.out) LP.out).mono ?_); rintro e wb ⟨rfl, hb_⟩; replace HB := Aside0.mk (below_step HB.out hb_); replace BK := Aside0.mk (blk_below BK.out hb_); (try (replace BS := Aside0.mk (blk_below BS.out hb_))); (try (replace LP := Aside0.mk (LP.out.below hb_))); (try (replace LS := Aside0.mk (LS.out.below hb_))); clear q0 q1 q2 q3 q4; obtain ⟨q0, q1, q2, q3, q4⟩ := rosC_cells BK.out; (try (clear p0 p1 p2 p3 p4; obtain ⟨p0, p1, p2, p3, p4⟩ := rosC_cells BS.out)); clear hb_) | (go_at_call 54; (with_reducible refine (hcx _ _ (hR.out.below HB.out) LP.out).mono ?_); rintro e wb ⟨rfl, hb_⟩; replace HB := Aside0.mk (below_step HB.out hb_); replace BK := Aside0.mk (blk_below BK.out hb_); (try (replace BS := Aside0.mk (blk_below BS.out hb_))); (try (replace LP := Aside0.mk (LP.out.below hb_))); (try (replace LS := Aside0.mk (LS.out.below hb_))); clear q0 q1 q2 q3 q4; obtain ⟨q0, q1, q2, q3, q4⟩ := rosC_cells BK.out; (try (clear p0 p1 p2 p3 p4; obtain ⟨p0, p1, p2, p3, p4⟩ := rosC_cells BS.out)); clear hb_) | (go_at_call 54; (with_reducible refine (hcy _ _ (hS.out.below HB.out) LS.out).mono ?_); rintro e wb ⟨rfl, hb_⟩; replace HB := Aside0.mk (below_step HB.out hb_); replace BK := Aside0.mk (blk_below BK.out hb_); (try (replace BS := Aside0.mk (blk_below BS.out hb_))); (try (replace LP := Aside0.mk (LP.out.below hb_))); (try (replace LS := Aside0.mk (LS.out.below hb_))); clear q0 q1 q2 q3 q4; obtain ⟨q0, q1, q2, q3, q4⟩ := rosC_cells BK.out; (try (clear p0 p1 p2 p3 p4; obtain ⟨p0, p1, p2, p3, p4⟩ := rosC_cells BS.out)); clear hb_))
      all_goals first
        | (go_ret; exact ⟨rfl, HB.out⟩)
        | (exfalso; (try simp only [beq_iff_eq, bne_iff_ne, ne_eq, beq_eq_false_iff_ne, bne_eq_false_iff_eq, decide_eq_true_eq, decide_eq_false_iff_not, Bool.not_eq_true] at *); omega)
  · clear hS
    go_enter Tryz.func13, Tryz.ntmps13
    go_wp2_with (first | ((with_reducible refine gate_dst (N := 5) rfl ?_); refine box_event ?hg (N := 5) ?hd (cs := (rosC r A c T d)) (t := 25) ?hr ?_; (case hd => rfl); (case hg => rfl); (case hr => first | (go_simp; done) | (go_simp; rfl)); intro g hg_ wb hbox_ hb_; have BK := Aside0.mk hbox_; have HB := Aside0.mk hb_; obtain ⟨q0, q1, q2, q3, q4⟩ := rosC_cells BK.out; clear hbox_ hb_ hg_) | (go_at_call 17; refine (sane_calls _ (HT.out.below HB.out)).mono ?_; rintro e wb ⟨rfl, hb_⟩; replace HB := Aside0.mk (below_step HB.out hb_); replace BK := Aside0.mk (blk_below BK.out hb_); (try (replace BS := Aside0.mk (blk_below BS.out hb_))); (try (replace LP := Aside0.mk (LP.out.below hb_))); (try (replace LS := Aside0.mk (LS.out.below hb_))); clear q0 q1 q2 q3 q4; obtain ⟨q0, q1, q2, q3, q4⟩ := rosC_cells BK.out; (try (clear p0 p1 p2 p3 p4; obtain ⟨p0, p1, p2, p3, p4⟩ := rosC_cells BS.out)); clear hb_) | (go_at_call 34; (with_reducible refine (hval _ (hR.out.below HB.out)).mono ?_); rintro e wb ⟨rfl, hb_⟩; replace HB := Aside0.mk (below_step HB.out hb_); replace BK := Aside0.mk (blk_below BK.out hb_); (try (replace BS := Aside0.mk (blk_below BS.out hb_))); (try (replace LP := Aside0.mk (LP.out.below hb_))); (try (replace LS := Aside0.mk (LS.out.below hb_))); clear q0 q1 q2 q3 q4; obtain ⟨q0, q1, q2, q3, q4⟩ := rosC_cells BK.out; (try (clear p0 p1 p2 p3 p4; obtain ⟨p0, p1, p2, p3, p4⟩ := rosC_cells BS.out)); clear hb_) | (go_at_call 18; (with_reducible refine (hfew _ (hR.out.below HB.out) (HL.out.below HB.out)).mono ?_); rintro e wb ⟨rfl, hb_⟩; replace hb_ := below_al hb_; replace HB := Aside0.mk (below_step HB.out hb_); replace BK := Aside0.mk (blk_below BK.out hb_); (try (replace BS := Aside0.mk (blk_below BS.out hb_))); (try (replace LP := Aside0.mk (LP.out.below hb_))); (try (replace LS := Aside0.mk (LS.out.below hb_))); clear q0 q1 q2 q3 q4; obtain ⟨q0, q1, q2, q3, q4⟩ := rosC_cells BK.out; (try (clear p0 p1 p2 p3 p4; obtain ⟨p0, p1, p2, p3, p4⟩ := rosC_cells BS.out)); clear hb_))
    all_goals first
      | (go_ret; exact ⟨rfl, HB.out⟩)
      | (exfalso; exact hg ⟨by assumption, by assumption, by omega, by omega, by omega, by omega, by omega⟩)
end Go.Proofs.YtflolfbkpjgjaaaGreatDoor
end
section
namespace Go.Proofs.YtflolfbkpjgjaaaGreatDoor
open Go.RowKit Go.Proofs.YtflolfbkpjgjaaaGreatDoorW.PrintWords
namespace watchShorter
open Go.ChangeShapes Go.WideShapes Go.ChangeAt
theorem own : ownKnob Tryz.prog.godebug = none := by kernel_rfl
theorem laidOut : laidOutB Tryz.prog = true := by kernel_rfl
set_option maxRecDepth 100000 in
theorem contract (H : Type) (enc : TypeId × Value → H) (W : World) (base : Nat) (args : Array Value) (ds gs : List (DataW H)) (before : List MemPlace)
    (hval : ∀ (j : Nat) t v, Tryz.f13.params[j]? = some t → args[j]? = some v → Value.okWide Tryz.prog W .any base t v)
    (hW : DataW.Whole enc Tryz.prog Tryz.f13.params.toList Rows.watchShorterSpec.vars false W args.toList ds gs before) (hL : laidMetH Tryz.prog Rows.watchShorterRow.laid W) :
    Calls Tryz.prog 13 args W fun e W' => ∃ v, e = .returned v ∧ Rows.watchShorterSpec.post enc Tryz.prog Tryz.f13 false true false false W args v W' := by
  have hW' := hW
  obtain ⟨p, q, hA0, hV, rfl, hfz, hnd⟩ := hW
  have hA : DataW.TrodAll enc Tryz.prog W 0 (fun _ => true) true Tryz.f13.params.toList args.toList ds p := hA0
  rw [Tryz.params13] at hA hval
  obtain ⟨v0, vs0, d0, ds0, p0, q0, hargs, rfl, rfl, h0, r0_⟩ := trodAll_cons hA
  obtain ⟨v1, vs1, d1, ds1, p1, q1, rfl, rfl, rfl, h1, r1_⟩ := trodAll_cons r0_
  obtain ⟨v2, vs2, d2, ds2, p2, q2, rfl, rfl, rfl, h2, r2_⟩ := trodAll_cons r1_
  obtain ⟨v3, vs3, d3, ds3, p3, q3, rfl, rfl, rfl, h3, r3_⟩ := trodAll_cons r2_
  obtain ⟨v4, vs4, d4, ds4, p4, q4, rfl, rfl, rfl, h4, r4_⟩ := trodAll_cons r3_
  obtain ⟨rfl, rfl, rfl⟩ := trodAll_nil r4_
  obtain rfl : args = #[v0, v1, v2, v3, v4] := by cases args; simp_all
  obtain ⟨rfl, rfl⟩ := trodVars_none hV
  have k0 := h0
  have lt0 : ∀ x ∈ p0, x.block < W.heap.size := by obtain ⟨m, hm⟩ := k0; exact DataW.trod_lt m _ _ _ hm
  obtain ⟨r0, hr0⟩ := open_ros (hval 0 25 v0 rfl rfl) h0
  obtain ⟨a1, rfl, rfl, rfl, w1⟩ := open_int Tryz.underlying3 (hval 1 3 v1 rfl rfl) h1
  have k2 := h2
  have lt2 : ∀ x ∈ p2, x.block < W.heap.size := by obtain ⟨m, hm⟩ := k2; exact DataW.trod_lt m _ _ _ hm
  obtain ⟨l2, hr2⟩ := open_intsAt (hval 2 26 v2 rfl rfl) h2
  obtain ⟨a3, rfl, rfl, rfl, w3⟩ := open_int Tryz.underlying3 (hval 3 3 v3 rfl rfl) h3
  obtain ⟨a4, rfl, rfl, rfl, w4⟩ := open_int Tryz.underlying3 (hval 4 3 v4 rfl rfl) h4
  clear hA0
  have hT : TabP W := laid_tab hL
  refine (shorter_calls v0 v2 r0 a1 l2 a3 a4 W hT hr0 hr2).mono fun e W' ⟨he, bel⟩ => ?_
  subst he
  exact ⟨_, rfl, _, _, _, [], _, [], hW', trodAll_mk1 (shut_bool Tryz.underlying4 _), (trodAll_cons_mk (Below.trod laidOut (by kernel_rfl) (of_decide_eq_true (by kernel_rfl)) k0 bel lt0) (trodAll_cons_mk (shut_int Tryz.underlying3 w1) (trodAll_cons_mk (Below.trod laidOut (by kernel_rfl) (of_decide_eq_true (by kernel_rfl)) k2 bel lt2) (trodAll_cons_mk (shut_int Tryz.underlying3 w3) (trodAll_cons_mk (shut_int Tryz.underlying3 w4) trodAll_mk0))))), rfl, bel.frame _, fun h => by cases h⟩
noncomputable def laidWorld (os : Os) : World :=
  { World.holding Tryz.prog os ⟨#[], #[], []⟩ with heap := (((World.holding Tryz.prog os ⟨#[], #[], []⟩).heap.modify 6 (layC tab32)).modify 7 (layC tab64)).modify 2 (layC tab10) }
theorem laid_met (os : Os) : laidMet Tryz.prog Rows.watchShorterRow.laid ((laidWorld os).forCall (fun _ _ => 0) ⟨#[], #[.agg #[.int .i64 0, .int .i64 0, .int .i64 0, .slice none 0 0, .slice none 0 0], .int .i64 0, .slice none 0 0, .int .i64 0, .int .i64 0], []⟩).memory :=
  laidMet_of_run3 8 (by kernel_rfl) (by kernel_rfl) (by kernel_rfl)
theorem reads (os : Os) {H : Type} (enc : TypeId × Value → H) : ∃ places, DataW.whole enc Tryz.prog ((laidWorld os).forCall (fun _ _ => 0) ⟨#[], #[.agg #[.int .i64 0, .int .i64 0, .int .i64 0, .slice none 0 0, .slice none 0 0], .int .i64 0, .slice none 0 0, .int .i64 0, .int .i64 0], []⟩).memory Tryz.f13.params.toList Rows.watchShorterSpec.vars false #[Value.agg #[.int .i64 0, .int .i64 0, .int .i64 0, .slice none 0 0, .slice none 0 0], .int .i64 0, .slice none 0 0, .int .i64 0, .int .i64 0].toList 8 = some ([.agg [.lit (.int .i64 0), .lit (.int .i64 0), .lit (.int .i64 0), .nil, .nil], .lit (.int .i64 0), .nil, .lit (.int .i64 0), .lit (.int .i64 0)], [], places) :=
  ⟨[], by kernel_rfl⟩
set_option maxRecDepth 100000 in
theorem lifted (os : Os) (started : os.Started) (H : Type) (enc : TypeId × Value → H) (F : Stop.Interp) :
    ReturnsInHanded {} Tryz.checked os 13 .any ((OpenSpec.ofChange Rows.watchShorterSpec).preRow enc Tryz.prog Tryz.f13 Rows.watchShorterRow.domain false Rows.watchShorterRow.laid) (((OpenSpec.ofChange Rows.watchShorterSpec).at F).post enc Tryz.prog Tryz.f13 false true false false) := by
  obtain ⟨places, hx⟩ := reads os enc
  refine returnsInHanded_of_row (C := Tryz.checked) (s := OpenSpec.ofChange Rows.watchShorterSpec) own started (by kernel_rfl) Tryz.func13
    (witness_row_at (enc := enc) (C := Tryz.checked) false (laidWorld os) #[.agg #[.int .i64 0, .int .i64 0, .int .i64 0, .slice none 0 0, .slice none 0 0], .int .i64 0, .slice none 0 0, .int .i64 0, .int .i64 0] rfl (by kernel_rfl) (by kernel_rfl) (by kernel_rfl)
      (OpenSpec.preRow_of_cond 8 hx (by kernel_rfl) (fun k hk => by cases hk) (by kernel_rfl) (laid_met os))) ?_
  intro W base args ds gs before hval hW _ _ _ hL _ _
  exact contract H enc W base args ds gs before hval hW hL
theorem named : Tryz.pinned.checked.prog.funcNamed Rows.watchShorterRow.func = some 13 := by kernel_rfl
set_option maxHeartbeats 8000000 in
theorem closed : joinedFacts Tryz.pinned.checked.prog 13 Tryz.f13 (OpenSpec.ofChange Rows.watchShorterSpec).bare Rows.watchShorterRow = true := by
  unfold joinedFacts
  repeat' (with_reducible refine band ?_ ?_)
  all_goals (as_aux_lemma => kernel_rfl)
theorem inst : Tryz.f13.isInstance Tryz.pinned.checked.prog Rows.watchShorterRow.origin Rows.watchShorterRow.targs := of_decide_eq_true (by kernel_rfl)
theorem said : Rows.WatchShorterSaid :=
  OpenClaim.holds_of_cond 13 Tryz.f13 rfl rfl rfl rfl rfl rfl rfl ⟨rfl, rfl, rfl, rfl, rfl⟩ rfl rfl rfl rfl rfl named Tryz.func13 closed
    inst (by unfold Func.isWrapper; first | (rw [if_pos (by decide +kernel)]; kernel_rfl) | (rw [if_neg (by decide +kernel)]; exact ⟨rfl, rfl⟩))
    (fun os started H enc _ F => by rw [OpenClaim.pre_eq_preRow]; exact lifted os started H enc F)
theorem plain (f : FuncId) (fn : Func) (hf : Tryz.pinned.checked.prog.funcNamed "waterhour/waterhourlaw07.WatchShorter" = some f) (hfn : Tryz.pinned.checked.prog.funcs[f]? = some fn) :
    true = Tryz.pinned.checked.prog.looks [] ∧ ∀ (j : Nat) t, fn.params[j]? = some t → Tryz.pinned.checked.prog.wantsStandIn t = false := by
  obtain rfl : f = 13 := Option.some.inj ((show Tryz.prog.funcNamed "waterhour/waterhourlaw07.WatchShorter" = some 13 by kernel_rfl).symm.trans hf) |>.symm
  obtain rfl : fn = Tryz.f13 := (Option.some.inj (Tryz.func13.symm.trans hfn)).symm
  refine ⟨by kernel_rfl, fun j t ht => ?_⟩
  rw [Tryz.params13] at ht
  have hm := Array.mem_of_getElem? ht
  have hm2 : t ∈ ([25, 3, 26, 3, 3] : List Nat) := by simpa using hm
  have hall : ([25, 3, 26, 3, 3] : List Nat).all (fun t => Tryz.prog.wantsStandIn t == false) = true := by kernel_rfl
  rw [List.all_eq_true] at hall
  exact beq_iff_eq.1 (hall t hm2)
end watchShorter
theorem watchShorter_card : Rows.WatchShorterCardSaid :=
  Claim7.holds_tied_plain_at .later [] _ _ _ _ watchShorter.said (fun _ h => by cases h) (by kernel_rfl) (fun _ h => by cases h) watchShorter_row_tie rfl ⟨rfl, rfl⟩ (by kernel_rfl) rfl watchShorter.plain (by kernel_rfl)
end Go.Proofs.YtflolfbkpjgjaaaGreatDoor
end
