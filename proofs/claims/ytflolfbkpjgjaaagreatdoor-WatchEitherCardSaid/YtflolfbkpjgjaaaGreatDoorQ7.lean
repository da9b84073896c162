/- WatchEither holds: for each gate of a valid roster there is a plan, or a gap, and never both: the law returns true for every input, and each argument reads behind the call as it read before. Conditions: the tables of the library that the row lists hold what their text lays. -/
import Derived.Test.YtflolfbkpjgjaaaGreatDoorRows
import Derived.WalkKit
import Derived.ProofKit
import Derived.OpenShut
import Derived.Deep.DeepHandedRow
import Derived.Deep.Matrix
import Derived.Lib.LaidTab
import Derived.Stop.LaidErr
import Derived.MakeChecks
import Derived.Deep.DeepLaidRun
import Derived.Test.YtflolfbkpjgjaaaGreatDoorCards
import Derived.Test.YtflolfbkpjgjaaaGreatDoorTie
import Derived.Test.YtflolfbkpjgjaaaGreatDoorQ6
section
set_option linter.unusedVariables false
set_option linter.unusedSimpArgs false
namespace Go.Proofs.YtflolfbkpjgjaaaGreatDoor
open Go.RowKit Go.Proofs.YtflolfbkpjgjaaaGreatDoorW.PrintWords
open Go.Proofs.YtflolfbkpjgjaaaGreatDoorW.PrintMore
def o5_9_0 : Oper := { dst := some 85, op := Op.load 25 (Operand.tmp 4), type := 25, pos := "law.go:228", after := #[], guard := none }
def o5_9_1 : Oper := { dst := some 86, op := Op.move (Operand.tmp 1), type := 3, pos := "law.go:228", after := #[], guard := none }
def o5_9_2 : Oper := { dst := some 87, op := Op.move (Operand.tmp 2), type := 26, pos := "law.go:228", after := #[], guard := none }
def o5_9_3 : Oper := { dst := some 88, op := Op.call { callee := Callee.value (Operand.func 36), args := #[Operand.tmp 85, Operand.tmp 86, Operand.tmp 87], argTypes := #[25, 3, 26] }, type := 29, pos := "law.go:228", after := #[{ on := 0, ground := Ground.data }, { on := 1, ground := Ground.data }, { on := 2, ground := Ground.data }], guard := none }
def o5_9_4 : Oper := { dst := some 89, op := Op.binOp BinOp.eql 29 (Operand.tmp 88) (Operand.const (Value.int IntKind.i64 0)) 29, type := 4, pos := "law.go:228", after := #[{ on := 3, ground := Ground.data }], guard := none }
def o5_9_5 : Oper := { dst := some 90, op := Op.load 25 (Operand.tmp 4), type := 25, pos := "law.go:228", after := #[], guard := none }
def o5_9_6 : Oper := { dst := some 91, op := Op.move (Operand.tmp 1), type := 3, pos := "law.go:228", after := #[], guard := none }
def o5_9_7 : Oper := { dst := some 92, op := Op.move (Operand.tmp 3), type := 26, pos := "law.go:228", after := #[], guard := none }
def o5_9_8 : Oper := { dst := some 93, op := Op.call { callee := Callee.value (Operand.func 26), args := #[Operand.tmp 90, Operand.tmp 91, Operand.tmp 92], argTypes := #[25, 3, 26] }, type := 29, pos := "law.go:228", after := #[{ on := 5, ground := Ground.data }, { on := 6, ground := Ground.data }, { on := 7, ground := Ground.data }, { on := 3, ground := Ground.chain }], guard := none }
def o5_9_9 : Oper := { dst := some 94, op := Op.binOp BinOp.eql 29 (Operand.tmp 93) (Operand.const (Value.int IntKind.i64 0)) 29, type := 4, pos := "law.go:228", after := #[{ on := 8, ground := Ground.data }, { on := 10, ground := Ground.gcOnly Departure.lateStores }], guard := none }
def o5_9_10 : Oper := { dst := some 15, op := Op.assign (Operand.tmp 89), type := 4, pos := "law.go:228", after := #[{ on := 4, ground := Ground.data }, { on := 8, ground := Ground.chain }, { on := 0, ground := Ground.phase }, { on := 1, ground := Ground.phase }, { on := 2, ground := Ground.phase }, { on := 3, ground := Ground.phase }, { on := 4, ground := Ground.phase }, { on := 5, ground := Ground.textOnly Departure.lateStores }, { on := 6, ground := Ground.textOnly Departure.lateStores }, { on := 7, ground := Ground.textOnly Departure.lateStores }, { on := 8, ground := Ground.textOnly Departure.lateStoresUnsure }, { on := 9, ground := Ground.textOnly Departure.lateStores }], guard := none }
def o5_9_11 : Oper := { dst := some 16, op := Op.assign (Operand.tmp 94), type := 4, pos := "law.go:228", after := #[{ on := 9, ground := Ground.data }, { on := 10, ground := Ground.chain }, { on := 0, ground := Ground.phase }, { on := 1, ground := Ground.phase }, { on := 2, ground := Ground.phase }, { on := 3, ground := Ground.phase }, { on := 4, ground := Ground.phase }, { on := 5, ground := Ground.phase }, { on := 6, ground := Ground.phase }, { on := 7, ground := Ground.phase }, { on := 8, ground := Ground.phase }, { on := 9, ground := Ground.phase }, { on := 10, ground := Ground.phase }], guard := none }
set_option maxHeartbeats 8000000 in
set_option maxRecDepth 100000 in
theorem either_calls (v lv mv : Value) (r : Ros) (gate : Int) (l m : List Int) (w : World) (hT : TabP w) (hv : RosAt w v r) (hl : IntsAt w lv l) (hm : IntsAt w mv m) :
    Calls Tryz.prog 5 #[v, .int .i64 gate, lv, mv] w fun e w' => e = .returned (.bool true) ∧ Below w.heap.size w w' := by
  have HT := Aside0.mk hT
  have HL := Aside0.mk hl
  have HM := Aside0.mk hm
  have hR := Aside0.mk hv
  obtain ⟨A, c, T, d, rfl, h1, h2, h3, h4⟩ := hv
  obtain ⟨A1, c1, rfl, a1, a2⟩ := hl
  obtain ⟨A2, c2, rfl, a3, a4⟩ := hm
  clear hT a1 a2 a3 a4 h1 h2 h3 h4
  have hval := fun W h => valid_calls (.agg (rosC r A c T d)) r W h
  have hfew := fun W h (h2 : IntsAt W (.slice A1 l.length c1) l) (h3 : IntsAt W (.slice A2 m.length c2) m) => few2_calls (.agg (rosC r A c T d)) _ _ r l m W h h2 h3
  cases hcb : checkB r
  · simp only [hcb] at hval
    go_enter Tryz.func5, Tryz.ntmps5
    go_wp2_with (first | ((with_reducible refine gate_dst (N := 4) rfl ?_); refine box_event ?hg (N := 4) ?hd (cs := rosC r A c T d) (t := 25) ?hr ?_; (case hd => rfl); (case hg => rfl); (case hr => first | (go_simp; done) | (go_simp; rfl)); intro g hg w1 hbox_ hb_; have BK1 := Aside0.mk hbox_; have Hg := Aside0.mk hg; have HB1 := Aside0.mk hb_; obtain ⟨q0, q1, q2, q3, q4⟩ := rosC_cells hbox_; clear hbox_ hb_ hg) | (go_at_call 17; (refine (sane_calls w1 (HT.out.below HB1.out)).mono ?_); rintro e w2 ⟨rfl, hb_⟩; have HB2 := Aside0.mk (below_step HB1.out hb_); have BK2 := Aside0.mk (blk_below BK1.out hb_); clear q0 q1 q2 q3 q4; obtain ⟨q0, q1, q2, q3, q4⟩ := rosC_cells BK2.out; clear hb_) | (go_at_call 34; (refine (hval w2 (hR.out.below HB2.out)).mono ?_); rintro e w3 ⟨rfl, hb_⟩; have HB3 := Aside0.mk (below_step HB2.out hb_); have BK3 := Aside0.mk (blk_below BK2.out hb_); clear q0 q1 q2 q3 q4; obtain ⟨q0, q1, q2, q3, q4⟩ := rosC_cells BK3.out; clear hb_))
    go_ret
    exact ⟨rfl, HB3.out⟩
  · simp only [hcb] at hval
    have V := (checkB_iff r).1 hcb
    cases hfb : fewB r [l, m]
    · simp only [hfb] at hfew
      go_enter Tryz.func5, Tryz.ntmps5
      go_wp2_with (first | ((with_reducible refine gate_dst (N := 4) rfl ?_); refine box_event ?hg (N := 4) ?hd (cs := rosC r A c T d) (t := 25) ?hr ?_; (case hd => rfl); (case hg => rfl); (case hr => first | (go_simp; done) | (go_simp; rfl)); intro g hg w1 hbox_ hb_; have BK1 := Aside0.mk hbox_; have Hg := Aside0.mk hg; have HB1 := Aside0.mk hb_; obtain ⟨q0, q1, q2, q3, q4⟩ := rosC_cells hbox_; clear hbox_ hb_ hg) | (go_at_call 17; (refine (sane_calls w1 (HT.out.below HB1.out)).mono ?_); rintro e w2 ⟨rfl, hb_⟩; have HB2 := Aside0.mk (below_step HB1.out hb_); have BK2 := Aside0.mk (blk_below BK1.out hb_); clear q0 q1 q2 q3 q4; obtain ⟨q0, q1, q2, q3, q4⟩ := rosC_cells BK2.out; clear hb_) | (go_at_call 34; (refine (hval w2 (hR.out.below HB2.out)).mono ?_); rintro e w3 ⟨rfl, hb_⟩; have HB3 := Aside0.mk (below_step HB2.out hb_); have BK3 := Aside0.mk (blk_below BK2.out hb_); clear q0 q1 q2 q3 q4; obtain ⟨q0, q1, q2, q3, q4⟩ := rosC_cells BK3.out; clear hb_) | (go_at_call 18; (refine (hfew w3 (hR.out.below HB3.out) (HL.out.below HB3.out) (HM.out.below HB3.out)).mono ?_); rintro e w4 ⟨rfl, hb_⟩; replace hb_ := below_step (below_alloc (Below.refl w3.heap.size w3) (.cells #[.slice A1 l.length c1, .slice A2 m.length c2] 26)) hb_; have HB4 := Aside0.mk (below_step HB3.out hb_); have BK4 := Aside0.mk (blk_below BK3.out hb_); clear q0 q1 q2 q3 q4; obtain ⟨q0, q1, q2, q3, q4⟩ := rosC_cells BK4.out; clear hb_))
      go_ret
      exact ⟨rfl, HB4.out⟩
    simp only [hfb] at hfew
    by_cases k1 : gate < 0
    · have d1 := decide_eq_true k1
      go_enter Tryz.func5, Tryz.ntmps5
      go_wp2_with (first | ((with_reducible refine gate_dst (N := 4) rfl ?_); refine box_event ?hg (N := 4) ?hd (cs := rosC r A c T d) (t := 25) ?hr ?_; (case hd => rfl); (case hg => rfl); (case hr => first | (go_simp; done) | (go_simp; rfl)); intro g hg w1 hbox_ hb_; have BK1 := Aside0.mk hbox_; have Hg := Aside0.mk hg; have HB1 := Aside0.mk hb_; obtain ⟨q0, q1, q2, q3, q4⟩ := rosC_cells hbox_; clear hbox_ hb_ hg) | (go_at_call 17; (refine (sane_calls w1 (HT.out.below HB1.out)).mono ?_); rintro e w2 ⟨rfl, hb_⟩; have HB2 := Aside0.mk (below_step HB1.out hb_); have BK2 := Aside0.mk (blk_below BK1.out hb_); clear q0 q1 q2 q3 q4; obtain ⟨q0, q1, q2, q3, q4⟩ := rosC_cells BK2.out; clear hb_) | (go_at_call 34; (refine (hval w2 (hR.out.below HB2.out)).mono ?_); rintro e w3 ⟨rfl, hb_⟩; have HB3 := Aside0.mk (below_step HB2.out hb_); have BK3 := Aside0.mk (blk_below BK2.out hb_); clear q0 q1 q2 q3 q4; obtain ⟨q0, q1, q2, q3, q4⟩ := rosC_cells BK3.out; clear hb_) | (go_at_call 18; (refine (hfew w3 (hR.out.below HB3.out) (HL.out.below HB3.out) (HM.out.below HB3.out)).mono ?_); rintro e w4 ⟨rfl, hb_⟩; replace hb_ := below_step (below_alloc (Below.refl w3.heap.size w3) (.cells #[.slice A1 l.length c1, .slice A2 m.length c2] 26)) hb_; have HB4 := Aside0.mk (below_step HB3.out hb_); have BK4 := Aside0.mk (blk_below BK3.out hb_); clear q0 q1 q2 q3 q4; obtain ⟨q0, q1, q2, q3, q4⟩ := rosC_cells BK4.out; clear hb_))
      go_ret
      exact ⟨rfl, HB4.out⟩
    have d1 := decide_eq_false k1
    by_cases k2 : r.gates ≤ gate
    · have d2 := decide_eq_true k2
      go_enter Tryz.func5, Tryz.ntmps5
      go_wp2_with (first | ((with_reducible refine gate_dst (N := 4) rfl ?_); refine box_event ?hg (N := 4) ?hd (cs := rosC r A c T d) (t := 25) ?hr ?_; (case hd => rfl); (case hg => rfl); (case hr => first | (go_simp; done) | (go_simp; rfl)); intro g hg w1 hbox_ hb_; have BK1 := Aside0.mk hbox_; have Hg := Aside0.mk hg; have HB1 := Aside0.mk hb_; obtain ⟨q0, q1, q2, q3, q4⟩ := rosC_cells hbox_; clear hbox_ hb_ hg) | (go_at_call 17; (refine (sane_calls w1 (HT.out.below HB1.out)).mono ?_); rintro e w2 ⟨rfl, hb_⟩; have HB2 := Aside0.mk (below_step HB1.out hb_); have BK2 := Aside0.mk (blk_below BK1.out hb_); clear q0 q1 q2 q3 q4; obtain ⟨q0, q1, q2, q3, q4⟩ := rosC_cells BK2.out; clear hb_) | (go_at_call 34; (refine (hval w2 (hR.out.below HB2.out)).mono ?_); rintro e w3 ⟨rfl, hb_⟩; have HB3 := Aside0.mk (below_step HB2.out hb_); have BK3 := Aside0.mk (blk_below BK2.out hb_); clear q0 q1 q2 q3 q4; obtain ⟨q0, q1, q2, q3, q4⟩ := rosC_cells BK3.out; clear hb_) | (go_at_call 18; (refine (hfew w3 (hR.out.below HB3.out) (HL.out.below HB3.out) (HM.out.below HB3.out)).mono ?_); rintro e w4 ⟨rfl, hb_⟩; replace hb_ := below_step (below_alloc (Below.refl w3.heap.size w3) (.cells #[.slice A1 l.length c1, .slice A2 m.length c2] 26)) hb_; have HB4 := Aside0.mk (below_step HB3.out hb_); have BK4 := Aside0.mk (blk_below BK3.out hb_); clear q0 q1 q2 q3 q4; obtain ⟨q0, q1, q2, q3, q4⟩ := rosC_cells BK4.out; clear hb_))
      go_ret
      exact ⟨rfl, HB4.out⟩
    · have d2 := decide_eq_false k2
      have HE := Aside0.mk (either_law V (by omega) (by omega) (planR_best V gate) l m)
      have hplan := fun W (h : RosAt W (.agg (rosC r A c T d)) r) => plan0_calls V (by omega : 0 ≤ gate) (by omega : gate < r.gates) h
      have hgap := fun W (h : RosAt W (.agg (rosC r A c T d)) r) => gap0_calls V (by omega : 0 ≤ gate) (by omega : gate < r.gates) h
      have hcp := fun W h h2 => checkPlan_calls (.agg (rosC r A c T d)) (.slice A1 l.length c1) r gate l W h h2
      have hcg := fun W h h2 => checkGap_calls (.agg (rosC r A c T d)) (.slice A2 m.length c2) r gate m W h h2
      have HE1 := HE.out.gap
      clear k1 k2 V hcb hfb
      cases hp : decide (planR r gate ≠ [])
      · rw [hp] at HE1
        simp only [hp] at hplan
        have hgb : gapB r gate = true := HE1
        simp only [hgb] at hgap
        have hne : ¬ planR r gate ≠ [] := of_decide_eq_false hp
        have ha0 : (checkPlanE r gate l == 0) = false := by rw [beq_eq_false_iff_ne]; exact fun h => hne (HE.out.lst h)
        have hcgo := fun W x h (h2 : IntsAt W x (gapO r gate)) => checkGap_calls (.agg (rosC r A c T d)) x r gate (gapO r gate) W h h2
        simp only [HE.out.gapped hgb] at hcgo
        clear HE1 hgb hne HE hp
        generalize checkPlanE r gate l = a at *
        generalize checkGapE r gate m = b at *
        cases hb0 : (b == 0)
        · go_enter Tryz.func5, Tryz.ntmps5
          go_wp2_with (first | ((with_reducible refine gate_dst (N := 4) rfl ?_); refine box_event ?hg (N := 4) ?hd (cs := rosC r A c T d) (t := 25) ?hr ?_; (case hd => rfl); (case hg => rfl); (case hr => first | (go_simp; done) | (go_simp; rfl)); intro g hg w1 hbox_ hb_; have BK1 := Aside0.mk hbox_; have Hg := Aside0.mk hg; have HB1 := Aside0.mk hb_; obtain ⟨q0, q1, q2, q3, q4⟩ := rosC_cells hbox_; clear hbox_ hb_ hg) | (go_at_call 17; (refine (sane_calls w1 (HT.out.below HB1.out)).mono ?_); rintro e w2 ⟨rfl, hb_⟩; have HB2 := Aside0.mk (below_step HB1.out hb_); have BK2 := Aside0.mk (blk_below BK1.out hb_); clear q0 q1 q2 q3 q4; obtain ⟨q0, q1, q2, q3, q4⟩ := rosC_cells BK2.out; clear hb_) | (go_at_call 34; (refine (hval w2 (hR.out.below HB2.out)).mono ?_); rintro e w3 ⟨rfl, hb_⟩; have HB3 := Aside0.mk (below_step HB2.out hb_); have BK3 := Aside0.mk (blk_below BK2.out hb_); clear q0 q1 q2 q3 q4; obtain ⟨q0, q1, q2, q3, q4⟩ := rosC_cells BK3.out; clear hb_) | (go_at_call 18; (refine (hfew w3 (hR.out.below HB3.out) (HL.out.below HB3.out) (HM.out.below HB3.out)).mono ?_); rintro e w4 ⟨rfl, hb_⟩; replace hb_ := below_step (below_alloc (Below.refl w3.heap.size w3) (.cells #[.slice A1 l.length c1, .slice A2 m.length c2] 26)) hb_; have HB4 := Aside0.mk (below_step HB3.out hb_); have BK4 := Aside0.mk (blk_below BK3.out hb_); clear q0 q1 q2 q3 q4; obtain ⟨q0, q1, q2, q3, q4⟩ := rosC_cells BK4.out; clear hb_) | (go_at_call 35; (refine (hplan w4 (hR.out.below HB4.out)).mono ?_); rintro e w5 ⟨pv, rfl, hl_, hb_⟩; have HB5 := Aside0.mk (below_step HB4.out hb_); have BK5 := Aside0.mk (blk_below BK4.out hb_); have LP5 := Aside0.mk hl_; clear q0 q1 q2 q3 q4; obtain ⟨q0, q1, q2, q3, q4⟩ := rosC_cells BK5.out; clear hl_; clear hb_) | (go_at_call 21; (refine (hgap w5 (hR.out.below HB5.out)).mono ?_); rintro e w6 ⟨gv, rfl, hl_, hb_⟩; have HB6 := Aside0.mk (below_step HB5.out hb_); have BK6 := Aside0.mk (blk_below BK5.out hb_); have LP6 := Aside0.mk (LP5.out.below hb_); have LG6 := Aside0.mk hl_; clear q0 q1 q2 q3 q4; obtain ⟨q0, q1, q2, q3, q4⟩ := rosC_cells BK6.out; clear hl_; clear hb_) | (go_at_call 26; (refine (hcgo w6 _ (hR.out.below HB6.out) LG6.out).mono ?_); rintro e w7 ⟨rfl, hb_⟩; have HB7 := Aside0.mk (below_step HB6.out hb_); have BK7 := Aside0.mk (blk_below BK6.out hb_); have LP7 := Aside0.mk (LP6.out.below hb_); have LG7 := Aside0.mk (LG6.out.below hb_); clear q0 q1 q2 q3 q4; obtain ⟨q0, q1, q2, q3, q4⟩ := rosC_cells BK7.out; clear hb_))
          have HSW : Aside0 (∀ W, Below w7.heap.size w7 W → (fun w' => w'.cell? ⟨g, 0, none⟩ = some (.int .i64 r.gates) ∧ w'.cell? ⟨g, 1, none⟩ = some (.int .i64 r.frm) ∧ w'.cell? ⟨g, 2, none⟩ = some (.int .i64 r.til) ∧ w'.cell? ⟨g, 3, none⟩ = some (.slice A r.ahead.length c) ∧ w'.cell? ⟨g, 4, none⟩ = some (.slice T r.turns.length d)) W) := ⟨fun W h => rosC_cells (blk_below BK7.out h)⟩
          clear q0 q1 q2 q3 q4
          refine wp_region_held_drew (S := (fun w' => w'.cell? ⟨g, 0, none⟩ = some (.int .i64 r.gates) ∧ w'.cell? ⟨g, 1, none⟩ = some (.int .i64 r.frm) ∧ w'.cell? ⟨g, 2, none⟩ = some (.int .i64 r.til) ∧ w'.cell? ⟨g, 3, none⟩ = some (.slice A r.ahead.length c) ∧ w'.cell? ⟨g, 4, none⟩ = some (.slice T r.turns.length d))) (by kernel_rfl) ?_ (fun hH0 => ?_)
          · exact HSW.out _ (below_drew (Below.refl _ _))
          refine tk 0 (oi := o5_9_0) (v := ?_) rfl (by kernel_rfl) (fun _ _ _ h => h) (by rfl) ?_ hH0 ?_
          rotate_left
          · (intro w hSw; (try dsimp only at hSw); unfold o5_9_0; go_simp <;> (with_reducible rfl))
          simp only [Act.put, o5_9_0, List.setIfInBounds_toArray, List.set_cons_zero, List.set_cons_succ]
          refine tk 1 (oi := o5_9_1) (v := ?_) rfl (by kernel_rfl) (fun _ _ _ h => h) (by rfl) ?_ hH0 ?_
          rotate_left
          · (intro w hSw; (try dsimp only at hSw); unfold o5_9_1; go_simp <;> (with_reducible rfl))
          simp only [Act.put, o5_9_1, List.setIfInBounds_toArray, List.set_cons_zero, List.set_cons_succ]
          refine tk 2 (oi := o5_9_2) (v := ?_) rfl (by kernel_rfl) (fun _ _ _ h => h) (by rfl) ?_ hH0 ?_
          rotate_left
          · (intro w hSw; (try dsimp only at hSw); unfold o5_9_2; go_simp <;> (with_reducible rfl))
          simp only [Act.put, o5_9_2, List.setIfInBounds_toArray, List.set_cons_zero, List.set_cons_succ]
          refine tk 5 (oi := o5_9_5) (v := ?_) rfl (by kernel_rfl) (fun _ _ _ h => h) (by rfl) ?_ hH0 ?_
          rotate_left
          · (intro w hSw; (try dsimp only at hSw); unfold o5_9_5; go_simp <;> (with_reducible rfl))
          simp only [Act.put, o5_9_5, List.setIfInBounds_toArray, List.set_cons_zero, List.set_cons_succ]
          refine tk 6 (oi := o5_9_6) (v := ?_) rfl (by kernel_rfl) (fun _ _ _ h => h) (by rfl) ?_ hH0 ?_
          rotate_left
          · (intro w hSw; (try dsimp only at hSw); unfold o5_9_6; go_simp <;> (with_reducible rfl))
          simp only [Act.put, o5_9_6, List.setIfInBounds_toArray, List.set_cons_zero, List.set_cons_succ]
          refine tk 7 (oi := o5_9_7) (v := ?_) rfl (by kernel_rfl) (fun _ _ _ h => h) (by rfl) ?_ hH0 ?_
          rotate_left
          · (intro w hSw; (try dsimp only at hSw); unfold o5_9_7; go_simp <;> (with_reducible rfl))
          simp only [Act.put, o5_9_7, List.setIfInBounds_toArray, List.set_cons_zero, List.set_cons_succ]
          refine wpAnyH_ready (rs := [3]) (by kernel_rfl) (by simp) (AllReadyH.cons (o := o5_9_3) rfl (fun K' hK' => ?_) AllReadyH.nil)
          unfold o5_9_3
          go_simp
          go_at_call 36; (refine (hcp _ (hR.out.below (below_drew HB7.out)) (HL.out.below (below_drew HB7.out))).mono ?_); rintro e w8 ⟨rfl, hb_⟩; have HX := Aside0.mk (below_step (below_drew (Below.refl _ w7)) hb_); have hk_ := HSW.out _ HX.out; clear hb_
          refine hK'.out _ _ (by exact hk_) (fun hH1 => ?_)
          clear hK' K'
          try simp only [Act.put, List.setIfInBounds_toArray, List.set_cons_zero, List.set_cons_succ]
          refine tk 4 (oi := o5_9_4) (v := ?_) rfl (by kernel_rfl) (fun _ _ _ h => h) (by rfl) ?_ hH1 ?_
          rotate_left
          · (intro w hSw; (try dsimp only at hSw); unfold o5_9_4; go_simp <;> (with_reducible rfl))
          simp only [Act.put, o5_9_4, List.setIfInBounds_toArray, List.set_cons_zero, List.set_cons_succ]
          refine wpAnyH_ready (rs := [8]) (by kernel_rfl) (by simp) (AllReadyH.cons (o := o5_9_8) rfl (fun K' hK' => ?_) AllReadyH.nil)
          unfold o5_9_8
          go_simp
          go_at_call 26; (refine (hcg _ (hR.out.below (below_step HB7.out HX.out)) (HM.out.below (below_step HB7.out HX.out))).mono ?_); rintro e w9 ⟨rfl, hb_⟩; have HY := Aside0.mk (below_step HX.out hb_); have hk_ := HSW.out _ HY.out; clear hb_
          refine hK'.out _ _ (by exact hk_) (fun hH2 => ?_)
          clear hK' K'
          try simp only [Act.put, List.setIfInBounds_toArray, List.set_cons_zero, List.set_cons_succ]
          refine tk 9 (oi := o5_9_9) (v := ?_) rfl (by kernel_rfl) (fun _ _ _ h => h) (by rfl) ?_ hH2 ?_
          rotate_left
          · (intro w hSw; (try dsimp only at hSw); unfold o5_9_9; go_simp <;> (with_reducible rfl))
          simp only [Act.put, o5_9_9, List.setIfInBounds_toArray, List.set_cons_zero, List.set_cons_succ]
          refine tk 10 (oi := o5_9_10) (v := ?_) rfl (by kernel_rfl) (fun _ _ _ h => h) (by rfl) ?_ hH2 ?_
          rotate_left
          · (intro w hSw; (try dsimp only at hSw); unfold o5_9_10; go_simp <;> (with_reducible rfl))
          simp only [Act.put, o5_9_10, List.setIfInBounds_toArray, List.set_cons_zero, List.set_cons_succ]
          refine tk 11 (oi := o5_9_11) (v := ?_) rfl (by kernel_rfl) (fun _ _ _ h => h) (by rfl) ?_ hH2 ?_
          rotate_left
          · (intro w hSw; (try dsimp only at hSw); unfold o5_9_11; go_simp <;> (with_reducible rfl))
          simp only [Act.put, o5_9_11, List.setIfInBounds_toArray, List.set_cons_zero, List.set_cons_succ]
          refine wpAnyH_done (by kernel_rfl) ?_ _
          clear HSW
          go_wp2
          go_ret
          exact ⟨rfl, below_step HB7.out HY.out⟩
        · go_enter Tryz.func5, Tryz.ntmps5
          go_wp2_with (first | ((with_reducible refine gate_dst (N := 4) rfl ?_); refine box_event ?hg (N := 4) ?hd (cs := rosC r A c T d) (t := 25) ?hr ?_; (case hd => rfl); (case hg => rfl); (case hr => first | (go_simp; done) | (go_simp; rfl)); intro g hg w1 hbox_ hb_; have BK1 := Aside0.mk hbox_; have Hg := Aside0.mk hg; have HB1 := Aside0.mk hb_; obtain ⟨q0, q1, q2, q3, q4⟩ := rosC_cells hbox_; clear hbox_ hb_ hg) | (go_at_call 17; (refine (sane_calls w1 (HT.out.below HB1.out)).mono ?_); rintro e w2 ⟨rfl, hb_⟩; have HB2 := Aside0.mk (below_step HB1.out hb_); have BK2 := Aside0.mk (blk_below BK1.out hb_); clear q0 q1 q2 q3 q4; obtain ⟨q0, q1, q2, q3, q4⟩ := rosC_cells BK2.out; clear hb_) | (go_at_call 34; (refine (hval w2 (hR.out.below HB2.out)).mono ?_); rintro e w3 ⟨rfl, hb_⟩; have HB3 := Aside0.mk (below_step HB2.out hb_); have BK3 := Aside0.mk (blk_below BK2.out hb_); clear q0 q1 q2 q3 q4; obtain ⟨q0, q1, q2, q3, q4⟩ := rosC_cells BK3.out; clear hb_) | (go_at_call 18; (refine (hfew w3 (hR.out.below HB3.out) (HL.out.below HB3.out) (HM.out.below HB3.out)).mono ?_); rintro e w4 ⟨rfl, hb_⟩; replace hb_ := below_step (below_alloc (Below.refl w3.heap.size w3) (.cells #[.slice A1 l.length c1, .slice A2 m.length c2] 26)) hb_; have HB4 := Aside0.mk (below_step HB3.out hb_); have BK4 := Aside0.mk (blk_below BK3.out hb_); clear q0 q1 q2 q3 q4; obtain ⟨q0, q1, q2, q3, q4⟩ := rosC_cells BK4.out; clear hb_) | (go_at_call 35; (refine (hplan w4 (hR.out.below HB4.out)).mono ?_); rintro e w5 ⟨pv, rfl, hl_, hb_⟩; have HB5 := Aside0.mk (below_step HB4.out hb_); have BK5 := Aside0.mk (blk_below BK4.out hb_); have LP5 := Aside0.mk hl_; clear q0 q1 q2 q3 q4; obtain ⟨q0, q1, q2, q3, q4⟩ := rosC_cells BK5.out; clear hl_; clear hb_) | (go_at_call 21; (refine (hgap w5 (hR.out.below HB5.out)).mono ?_); rintro e w6 ⟨gv, rfl, hl_, hb_⟩; have HB6 := Aside0.mk (below_step HB5.out hb_); have BK6 := Aside0.mk (blk_below BK5.out hb_); have LP6 := Aside0.mk (LP5.out.below hb_); have LG6 := Aside0.mk hl_; clear q0 q1 q2 q3 q4; obtain ⟨q0, q1, q2, q3, q4⟩ := rosC_cells BK6.out; clear hl_; clear hb_) | (go_at_call 26; (refine (hcgo w6 _ (hR.out.below HB6.out) LG6.out).mono ?_); rintro e w7 ⟨rfl, hb_⟩; have HB7 := Aside0.mk (below_step HB6.out hb_); have BK7 := Aside0.mk (blk_below BK6.out hb_); have LP7 := Aside0.mk (LP6.out.below hb_); have LG7 := Aside0.mk (LG6.out.below hb_); clear q0 q1 q2 q3 q4; obtain ⟨q0, q1, q2, q3, q4⟩ := rosC_cells BK7.out; clear hb_))
          have HSW : Aside0 (∀ W, Below w7.heap.size w7 W → (fun w' => w'.cell? ⟨g, 0, none⟩ = some (.int .i64 r.gates) ∧ w'.cell? ⟨g, 1, none⟩ = some (.int .i64 r.frm) ∧ w'.cell? ⟨g, 2, none⟩ = some (.int .i64 r.til) ∧ w'.cell? ⟨g, 3, none⟩ = some (.slice A r.ahead.length c) ∧ w'.cell? ⟨g, 4, none⟩ = some (.slice T r.turns.length d)) W) := ⟨fun W h => rosC_cells (blk_below BK7.out h)⟩
          clear q0 q1 q2 q3 q4
          refine wp_region_held_drew (S := (fun w' => w'.cell? ⟨g, 0, none⟩ = some (.int .i64 r.gates) ∧ w'.cell? ⟨g, 1, none⟩ = some (.int .i64 r.frm) ∧ w'.cell? ⟨g, 2, none⟩ = some (.int .i64 r.til) ∧ w'.cell? ⟨g, 3, none⟩ = some (.slice A r.ahead.length c) ∧ w'.cell? ⟨g, 4, none⟩ = some (.slice T r.turns.length d))) (by kernel_rfl) ?_ (fun hH0 => ?_)
          · exact HSW.out _ (below_drew (Below.refl _ _))
          refine tk 0 (oi := o5_9_0) (v := ?_) rfl (by kernel_rfl) (fun _ _ _ h => h) (by rfl) ?_ hH0 ?_
          rotate_left
          · (intro w hSw; (try dsimp only at hSw); unfold o5_9_0; go_simp <;> (with_reducible rfl))
          simp only [Act.put, o5_9_0, List.setIfInBounds_toArray, List.set_cons_zero, List.set_cons_succ]
          refine tk 1 (oi := o5_9_1) (v := ?_) rfl (by kernel_rfl) (fun _ _ _ h => h) (by rfl) ?_ hH0 ?_
          rotate_left
          · (intro w hSw; (try dsimp only at hSw); unfold o5_9_1; go_simp <;> (with_reducible rfl))
          simp only [Act.put, o5_9_1, List.setIfInBounds_toArray, List.set_cons_zero, List.set_cons_succ]
          refine tk 2 (oi := o5_9_2) (v := ?_) rfl (by kernel_rfl) (fun _ _ _ h => h) (by rfl) ?_ hH0 ?_
          rotate_left
          · (intro w hSw; (try dsimp only at hSw); unfold o5_9_2; go_simp <;> (with_reducible rfl))
          simp only [Act.put, o5_9_2, List.setIfInBounds_toArray, List.set_cons_zero, List.set_cons_succ]
          refine tk 5 (oi := o5_9_5) (v := ?_) rfl (by kernel_rfl) (fun _ _ _ h => h) (by rfl) ?_ hH0 ?_
          rotate_left
          · (intro w hSw; (try dsimp only at hSw); unfold o5_9_5; go_simp <;> (with_reducible rfl))
          simp only [Act.put, o5_9_5, List.setIfInBounds_toArray, List.set_cons_zero, List.set_cons_succ]
          refine tk 6 (oi := o5_9_6) (v := ?_) rfl (by kernel_rfl) (fun _ _ _ h => h) (by rfl) ?_ hH0 ?_
          rotate_left
          · (intro w hSw; (try dsimp only at hSw); unfold o5_9_6; go_simp <;> (with_reducible rfl))
          simp only [Act.put, o5_9_6, List.setIfInBounds_toArray, List.set_cons_zero, List.set_cons_succ]
          refine tk 7 (oi := o5_9_7) (v := ?_) rfl (by kernel_rfl) (fun _ _ _ h => h) (by rfl) ?_ hH0 ?_
          rotate_left
          · (intro w hSw; (try dsimp only at hSw); unfold o5_9_7; go_simp <;> (with_reducible rfl))
          simp only [Act.put, o5_9_7, List.setIfInBounds_toArray, List.set_cons_zero, List.set_cons_succ]
          refine wpAnyH_ready (rs := [3]) (by kernel_rfl) (by simp) (AllReadyH.cons (o := o5_9_3) rfl (fun K' hK' => ?_) AllReadyH.nil)
          unfold o5_9_3
          go_simp
          go_at_call 36; (refine (hcp _ (hR.out.below (below_drew HB7.out)) (HL.out.below (below_drew HB7.out))).mono ?_); rintro e w8 ⟨rfl, hb_⟩; have HX := Aside0.mk (below_step (below_drew (Below.refl _ w7)) hb_); have hk_ := HSW.out _ HX.out; clear hb_
          refine hK'.out _ _ (by exact hk_) (fun hH1 => ?_)
          clear hK' K'
          try simp only [Act.put, List.setIfInBounds_toArray, List.set_cons_zero, List.set_cons_succ]
          refine tk 4 (oi := o5_9_4) (v := ?_) rfl (by kernel_rfl) (fun _ _ _ h => h) (by rfl) ?_ hH1 ?_
          rotate_left
          · (intro w hSw; (try dsimp only at hSw); unfold o5_9_4; go_simp <;> (with_reducible rfl))
          simp only [Act.put, o5_9_4, List.setIfInBounds_toArray, List.set_cons_zero, List.set_cons_succ]
          refine wpAnyH_ready (rs := [8]) (by kernel_rfl) (by simp) (AllReadyH.cons (o := o5_9_8) rfl (fun K' hK' => ?_) AllReadyH.nil)
          unfold o5_9_8
          go_simp
          go_at_call 26; (refine (hcg _ (hR.out.below (below_step HB7.out HX.out)) (HM.out.below (below_step HB7.out HX.out))).mono ?_); rintro e w9 ⟨rfl, hb_⟩; have HY := Aside0.mk (below_step HX.out hb_); have hk_ := HSW.out _ HY.out; clear hb_
          refine hK'.out _ _ (by exact hk_) (fun hH2 => ?_)
          clear hK' K'
          try simp only [Act.put, List.setIfInBounds_toArray, List.set_cons_zero, List.set_cons_succ]
          refine tk 9 (oi := o5_9_9) (v := ?_) rfl (by kernel_rfl) (fun _ _ _ h => h) (by rfl) ?_ hH2 ?_
          rotate_left
          · (intro w hSw; (try dsimp only at hSw); unfold o5_9_9; go_simp <;> (with_reducible rfl))
          simp only [Act.put, o5_9_9, List.setIfInBounds_toArray, List.set_cons_zero, List.set_cons_succ]
          refine tk 10 (oi := o5_9_10) (v := ?_) rfl (by kernel_rfl) (fun _ _ _ h => h) (by rfl) ?_ hH2 ?_
          rotate_left
          · (intro w hSw; (try dsimp only at hSw); unfold o5_9_10; go_simp <;> (with_reducible rfl))
          simp only [Act.put, o5_9_10, List.setIfInBounds_toArray, List.set_cons_zero, List.set_cons_succ]
          refine tk 11 (oi := o5_9_11) (v := ?_) rfl (by kernel_rfl) (fun _ _ _ h => h) (by rfl) ?_ hH2 ?_
          rotate_left
          · (intro w hSw; (try dsimp only at hSw); unfold o5_9_11; go_simp <;> (with_reducible rfl))
          simp only [Act.put, o5_9_11, List.setIfInBounds_toArray, List.set_cons_zero, List.set_cons_succ]
          refine wpAnyH_done (by kernel_rfl) ?_ _
          clear HSW
          go_wp2
          go_ret
          exact ⟨rfl, below_step HB7.out HY.out⟩
      · rw [hp] at HE1
        simp only [hp] at hplan
        have hgb : gapB r gate = false := HE1
        simp only [hgb] at hgap
        have hne : planR r gate ≠ [] := of_decide_eq_true hp
        have hb0 : (checkGapE r gate m == 0) = false := by rw [beq_eq_false_iff_ne]; exact fun h => by have := HE.out.gst h; rw [hgb] at this; simp at this
        have hcpo := fun W x h (h2 : IntsAt W x (intsN (planR r gate))) => checkPlan_calls (.agg (rosC r A c T d)) x r gate (intsN (planR r gate)) W h h2
        simp only [HE.out.plan hne] at hcpo
        clear HE1 hgb hne HE hp
        generalize checkPlanE r gate l = a at *
        generalize checkGapE r gate m = b at *
        cases ha0 : (a == 0)
        · go_enter Tryz.func5, Tryz.ntmps5
          go_wp2_with (first | ((with_reducible refine gate_dst (N := 4) rfl ?_); refine box_event ?hg (N := 4) ?hd (cs := rosC r A c T d) (t := 25) ?hr ?_; (case hd => rfl); (case hg => rfl); (case hr => first | (go_simp; done) | (go_simp; rfl)); intro g hg w1 hbox_ hb_; have BK1 := Aside0.mk hbox_; have Hg := Aside0.mk hg; have HB1 := Aside0.mk hb_; obtain ⟨q0, q1, q2, q3, q4⟩ := rosC_cells hbox_; clear hbox_ hb_ hg) | (go_at_call 17; (refine (sane_calls w1 (HT.out.below HB1.out)).mono ?_); rintro e w2 ⟨rfl, hb_⟩; have HB2 := Aside0.mk (below_step HB1.out hb_); have BK2 := Aside0.mk (blk_below BK1.out hb_); clear q0 q1 q2 q3 q4; obtain ⟨q0, q1, q2, q3, q4⟩ := rosC_cells BK2.out; clear hb_) | (go_at_call 34; (refine (hval w2 (hR.out.below HB2.out)).mono ?_); rintro e w3 ⟨rfl, hb_⟩; have HB3 := Aside0.mk (below_step HB2.out hb_); have BK3 := Aside0.mk (blk_below BK2.out hb_); clear q0 q1 q2 q3 q4; obtain ⟨q0, q1, q2, q3, q4⟩ := rosC_cells BK3.out; clear hb_) | (go_at_call 18; (refine (hfew w3 (hR.out.below HB3.out) (HL.out.below HB3.out) (HM.out.below HB3.out)).mono ?_); rintro e w4 ⟨rfl, hb_⟩; replace hb_ := below_step (below_alloc (Below.refl w3.heap.size w3) (.cells #[.slice A1 l.length c1, .slice A2 m.length c2] 26)) hb_; have HB4 := Aside0.mk (below_step HB3.out hb_); have BK4 := Aside0.mk (blk_below BK3.out hb_); clear q0 q1 q2 q3 q4; obtain ⟨q0, q1, q2, q3, q4⟩ := rosC_cells BK4.out; clear hb_) | (go_at_call 35; (refine (hplan w4 (hR.out.below HB4.out)).mono ?_); rintro e w5 ⟨pv, rfl, hl_, hb_⟩; have HB5 := Aside0.mk (below_step HB4.out hb_); have BK5 := Aside0.mk (blk_below BK4.out hb_); have LP5 := Aside0.mk hl_; clear q0 q1 q2 q3 q4; obtain ⟨q0, q1, q2, q3, q4⟩ := rosC_cells BK5.out; clear hl_; clear hb_) | (go_at_call 21; (refine (hgap w5 (hR.out.below HB5.out)).mono ?_); rintro e w6 ⟨gv, rfl, hl_, hb_⟩; have HB6 := Aside0.mk (below_step HB5.out hb_); have BK6 := Aside0.mk (blk_below BK5.out hb_); have LP6 := Aside0.mk (LP5.out.below hb_); have LG6 := Aside0.mk hl_; clear q0 q1 q2 q3 q4; obtain ⟨q0, q1, q2, q3, q4⟩ := rosC_cells BK6.out; clear hl_; clear hb_) | (go_at_call 36; (refine (hcpo w6 _ (hR.out.below HB6.out) LP6.out).mono ?_); rintro e w7 ⟨rfl, hb_⟩; have HB7 := Aside0.mk (below_step HB6.out hb_); have BK7 := Aside0.mk (blk_below BK6.out hb_); have LP7 := Aside0.mk (LP6.out.below hb_); have LG7 := Aside0.mk (LG6.out.below hb_); clear q0 q1 q2 q3 q4; obtain ⟨q0, q1, q2, q3, q4⟩ := rosC_cells BK7.out; clear hb_))
          have HSW : Aside0 (∀ W, Below w7.heap.size w7 W → (fun w' => w'.cell? ⟨g, 0, none⟩ = some (.int .i64 r.gates) ∧ w'.cell? ⟨g, 1, none⟩ = some (.int .i64 r.frm) ∧ w'.cell? ⟨g, 2, none⟩ = some (.int .i64 r.til) ∧ w'.cell? ⟨g, 3, none⟩ = some (.slice A r.ahead.length c) ∧ w'.cell? ⟨g, 4, none⟩ = some (.slice T r.turns.length d)) W) := ⟨fun W h => rosC_cells (blk_below BK7.out h)⟩
          clear q0 q1 q2 q3 q4
          refine wp_region_held_drew (S := (fun w' => w'.cell? ⟨g, 0, none⟩ = some (.int .i64 r.gates) ∧ w'.cell? ⟨g, 1, none⟩ = some (.int .i64 r.frm) ∧ w'.cell? ⟨g, 2, none⟩ = some (.int .i64 r.til) ∧ w'.cell? ⟨g, 3, none⟩ = some (.slice A r.ahead.length c) ∧ w'.cell? ⟨g, 4, none⟩ = some (.slice T r.turns.length d))) (by kernel_rfl) ?_ (fun hH0 => ?_)
          · exact HSW.out _ (below_drew (Below.refl _ _))
          refine tk 0 (oi := o5_9_0) (v := ?_) rfl (by kernel_rfl) (fun _ _ _ h => h) (by rfl) ?_ hH0 ?_
          rotate_left
          · (intro w hSw; (try dsimp only at hSw); unfold o5_9_0; go_simp <;> (with_reducible rfl))
          simp only [Act.put, o5_9_0, List.setIfInBounds_toArray, List.set_cons_zero, List.set_cons_succ]
          refine tk 1 (oi := o5_9_1) (v := ?_) rfl (by kernel_rfl) (fun _ _ _ h => h) (by rfl) ?_ hH0 ?_
          rotate_left
          · (intro w hSw; (try dsimp only at hSw); unfold o5_9_1; go_simp <;> (with_reducible rfl))
          simp only [Act.put, o5_9_1, List.setIfInBounds_toArray, List.set_cons_zero, List.set_cons_succ]
          refine tk 2 (oi := o5_9_2) (v := ?_) rfl (by kernel_rfl) (fun _ _ _ h => h) (by rfl) ?_ hH0 ?_
          rotate_left
          · (intro w hSw; (try dsimp only at hSw); unfold o5_9_2; go_simp <;> (with_reducible rfl))
          simp only [Act.put, o5_9_2, List.setIfInBounds_toArray, List.set_cons_zero, List.set_cons_succ]
          refine tk 5 (oi := o5_9_5) (v := ?_) rfl (by kernel_rfl) (fun _ _ _ h => h) (by rfl) ?_ hH0 ?_
          rotate_left
          · (intro w hSw; (try dsimp only at hSw); unfold o5_9_5; go_simp <;> (with_reducible rfl))
          simp only [Act.put, o5_9_5, List.setIfInBounds_toArray, List.set_cons_zero, List.set_cons_succ]
          refine tk 6 (oi := o5_9_6) (v := ?_) rfl (by kernel_rfl) (fun _ _ _ h => h) (by rfl) ?_ hH0 ?_
          rotate_left
          · (intro w hSw; (try dsimp only at hSw); unfold o5_9_6; go_simp <;> (with_reducible rfl))
          simp only [Act.put, o5_9_6, List.setIfInBounds_toArray, List.set_cons_zero, List.set_cons_succ]
          refine tk 7 (oi := o5_9_7) (v := ?_) rfl (by kernel_rfl) (fun _ _ _ h => h) (by rfl) ?_ hH0 ?_
          rotate_left
          · (intro w hSw; (try dsimp only at hSw); unfold o5_9_7; go_simp <;> (with_reducible rfl))
          simp only [Act.put, o5_9_7, List.setIfInBounds_toArray, List.set_cons_zero, List.set_cons_succ]
          refine wpAnyH_ready (rs := [3]) (by kernel_rfl) (by simp) (AllReadyH.cons (o := o5_9_3) rfl (fun K' hK' => ?_) AllReadyH.nil)
          unfold o5_9_3
          go_simp
          go_at_call 36; (refine (hcp _ (hR.out.below (below_drew HB7.out)) (HL.out.below (below_drew HB7.out))).mono ?_); rintro e w8 ⟨rfl, hb_⟩; have HX := Aside0.mk (below_step (below_drew (Below.refl _ w7)) hb_); have hk_ := HSW.out _ HX.out; clear hb_
          refine hK'.out _ _ (by exact hk_) (fun hH1 => ?_)
          clear hK' K'
          try simp only [Act.put, List.setIfInBounds_toArray, List.set_cons_zero, List.set_cons_succ]
          refine tk 4 (oi := o5_9_4) (v := ?_) rfl (by kernel_rfl) (fun _ _ _ h => h) (by rfl) ?_ hH1 ?_
          rotate_left
          · (intro w hSw; (try dsimp only at hSw); unfold o5_9_4; go_simp <;> (with_reducible rfl))
          simp only [Act.put, o5_9_4, List.setIfInBounds_toArray, List.set_cons_zero, List.set_cons_succ]
          refine wpAnyH_ready (rs := [8]) (by kernel_rfl) (by simp) (AllReadyH.cons (o := o5_9_8) rfl (fun K' hK' => ?_) AllReadyH.nil)
          unfold o5_9_8
          go_simp
          go_at_call 26; (refine (hcg _ (hR.out.below (below_step HB7.out HX.out)) (HM.out.below (below_step HB7.out HX.out))).mono ?_); rintro e w9 ⟨rfl, hb_⟩; have HY := Aside0.mk (below_step HX.out hb_); have hk_ := HSW.out _ HY.out; clear hb_
          refine hK'.out _ _ (by exact hk_) (fun hH2 => ?_)
          clear hK' K'
          try simp only [Act.put, List.setIfInBounds_toArray, List.set_cons_zero, List.set_cons_succ]
          refine tk 9 (oi := o5_9_9) (v := ?_) rfl (by kernel_rfl) (fun _ _ _ h => h) (by rfl) ?_ hH2 ?_
          rotate_left
          · (intro w hSw; (try dsimp only at hSw); unfold o5_9_9; go_simp <;> (with_reducible rfl))
          simp only [Act.put, o5_9_9, List.setIfInBounds_toArray, List.set_cons_zero, List.set_cons_succ]
          refine tk 10 (oi := o5_9_10) (v := ?_) rfl (by kernel_rfl) (fun _ _ _ h => h) (by rfl) ?_ hH2 ?_
          rotate_left
          · (intro w hSw; (try dsimp only at hSw); unfold o5_9_10; go_simp <;> (with_reducible rfl))
          simp only [Act.put, o5_9_10, List.setIfInBounds_toArray, List.set_cons_zero, List.set_cons_succ]
          refine tk 11 (oi := o5_9_11) (v := ?_) rfl (by kernel_rfl) (fun _ _ _ h => h) (by rfl) ?_ hH2 ?_
          rotate_left
          · (intro w hSw; (try dsimp only at hSw); unfold o5_9_11; go_simp <;> (with_reducible rfl))
          simp only [Act.put, o5_9_11, List.setIfInBounds_toArray, List.set_cons_zero, List.set_cons_succ]
          refine wpAnyH_done (by kernel_rfl) ?_ _
          clear HSW
          go_wp2
          go_ret
          exact ⟨rfl, below_step HB7.out HY.out⟩
        · go_enter Tryz.func5, Tryz.ntmps5
          go_wp2_with (first | ((with_reducible refine gate_dst (N := 4) rfl ?_); refine box_event ?hg (N := 4) ?hd (cs := rosC r A c T d) (t := 25) ?hr ?_; (case hd => rfl); (case hg => rfl); (case hr => first | (go_simp; done) | (go_simp; rfl)); intro g hg w1 hbox_ hb_; have BK1 := Aside0.mk hbox_; have Hg := Aside0.mk hg; have HB1 := Aside0.mk hb_; obtain ⟨q0, q1, q2, q3, q4⟩ := rosC_cells hbox_; clear hbox_ hb_ hg) | (go_at_call 17; (refine (sane_calls w1 (HT.out.below HB1.out)).mono ?_); rintro e w2 ⟨rfl, hb_⟩; have HB2 := Aside0.mk (below_step HB1.out hb_); have BK2 := Aside0.mk (blk_below BK1.out hb_); clear q0 q1 q2 q3 q4; obtain ⟨q0, q1, q2, q3, q4⟩ := rosC_cells BK2.out; clear hb_) | (go_at_call 34; (refine (hval w2 (hR.out.below HB2.out)).mono ?_); rintro e w3 ⟨rfl, hb_⟩; have HB3 := Aside0.mk (below_step HB2.out hb_); have BK3 := Aside0.mk (blk_below BK2.out hb_); clear q0 q1 q2 q3 q4; obtain ⟨q0, q1, q2, q3, q4⟩ := rosC_cells BK3.out; clear hb_) | (go_at_call 18; (refine (hfew w3 (hR.out.below HB3.out) (HL.out.below HB3.out) (HM.out.below HB3.out)).mono ?_); rintro e w4 ⟨rfl, hb_⟩; replace hb_ := below_step (below_alloc (Below.refl w3.heap.size w3) (.cells #[.slice A1 l.length c1, .slice A2 m.length c2] 26)) hb_; have HB4 := Aside0.mk (below_step HB3.out hb_); have BK4 := Aside0.mk (blk_below BK3.out hb_); clear q0 q1 q2 q3 q4; obtain ⟨q0, q1, q2, q3, q4⟩ := rosC_cells BK4.out; clear hb_) | (go_at_call 35; (refine (hplan w4 (hR.out.below HB4.out)).mono ?_); rintro e w5 ⟨pv, rfl, hl_, hb_⟩; have HB5 := Aside0.mk (below_step HB4.out hb_); have BK5 := Aside0.mk (blk_below BK4.out hb_); have LP5 := Aside0.mk hl_; clear q0 q1 q2 q3 q4; obtain ⟨q0, q1, q2, q3, q4⟩ := rosC_cells BK5.out; clear hl_; clear hb_) | (go_at_call 21; (refine (hgap w5 (hR.out.below HB5.out)).mono ?_); rintro e w6 ⟨gv, rfl, hl_, hb_⟩; have HB6 := Aside0.mk (below_step HB5.out hb_); have BK6 := Aside0.mk (blk_below BK5.out hb_); have LP6 := Aside0.mk (LP5.out.below hb_); have LG6 := Aside0.mk hl_; clear q0 q1 q2 q3 q4; obtain ⟨q0, q1, q2, q3, q4⟩ := rosC_cells BK6.out; clear hl_; clear hb_) | (go_at_call 36; (refine (hcpo w6 _ (hR.out.below HB6.out) LP6.out).mono ?_); rintro e w7 ⟨rfl, hb_⟩; have HB7 := Aside0.mk (below_step HB6.out hb_); have BK7 := Aside0.mk (blk_below BK6.out hb_); have LP7 := Aside0.mk (LP6.out.below hb_); have LG7 := Aside0.mk (LG6.out.below hb_); clear q0 q1 q2 q3 q4; obtain ⟨q0, q1, q2, q3, q4⟩ := rosC_cells BK7.out; clear hb_))
          have HSW : Aside0 (∀ W, Below w7.heap.size w7 W → (fun w' => w'.cell? ⟨g, 0, none⟩ = some (.int .i64 r.gates) ∧ w'.cell? ⟨g, 1, none⟩ = some (.int .i64 r.frm) ∧ w'.cell? ⟨g, 2, none⟩ = some (.int .i64 r.til) ∧ w'.cell? ⟨g, 3, none⟩ = some (.slice A r.ahead.length c) ∧ w'.cell? ⟨g, 4, none⟩ = some (.slice T r.turns.length d)) W) := ⟨fun W h => rosC_cells (blk_below BK7.out h)⟩
          clear q0 q1 q2 q3 q4
          refine wp_region_held_drew (S := (fun w' => w'.cell? ⟨g, 0, none⟩ = some (.int .i64 r.gates) ∧ w'.cell? ⟨g, 1, none⟩ = some (.int .i64 r.frm) ∧ w'.cell? ⟨g, 2, none⟩ = some (.int .i64 r.til) ∧ w'.cell? ⟨g, 3, none⟩ = some (.slice A r.ahead.length c) ∧ w'.cell? ⟨g, 4, none⟩ = some (.slice T r.turns.length d))) (by kernel_rfl) ?_ (fun hH0 => ?_)
          · exact HSW.out _ (below_drew (Below.refl _ _))
          refine tk 0 (oi := o5_9_0) (v := ?_) rfl (by kernel_rfl) (fun _ _ _ h => h) (by rfl) ?_ hH0 ?_
          rotate_left
          · (intro w hSw; (try dsimp only at hSw); unfold o5_9_0; go_simp <;> (with_reducible rfl))
          simp only [Act.put, o5_9_0, List.setIfInBounds_toArray, List.set_cons_zero, List.set_cons_succ]
          refine tk 1 (oi := o5_9_1) (v := ?_) rfl (by kernel_rfl) (fun _ _ _ h => h) (by rfl) ?_ hH0 ?_
          rotate_left
          · (intro w hSw; (try dsimp only at hSw); unfold o5_9_1; go_simp <;> (with_reducible rfl))
          simp only [Act.put, o5_9_1, List.setIfInBounds_toArray, List.set_cons_zero, List.set_cons_succ]
          refine tk 2 (oi := o5_9_2) (v := ?_) rfl (by kernel_rfl) (fun _ _ _ h => h) (by rfl) ?_ hH0 ?_
          rotate_left
          · (intro w hSw; (try dsimp only at hSw); unfold o5_9_2; go_simp <;> (with_reducible rfl))
          simp only [Act.put, o5_9_2, List.setIfInBounds_toArray, List.set_cons_zero, List.set_cons_succ]
          refine tk 5 (oi := o5_9_5) (v := ?_) rfl (by kernel_rfl) (fun _ _ _ h => h) (by rfl) ?_ hH0 ?_
          rotate_left
          · (intro w hSw; (try dsimp only at hSw); unfold o5_9_5; go_simp <;> (with_reducible rfl))
          simp only [Act.put, o5_9_5, List.setIfInBounds_toArray, List.set_cons_zero, List.set_cons_succ]
          refine tk 6 (oi := o5_9_6) (v := ?_) rfl (by kernel_rfl) (fun _ _ _ h => h) (by rfl) ?_ hH0 ?_
          rotate_left
          · (intro w hSw; (try dsimp only at hSw); unfold o5_9_6; go_simp <;> (with_reducible rfl))
          simp only [Act.put, o5_9_6, List.setIfInBounds_toArray, List.set_cons_zero, List.set_cons_succ]
          refine tk 7 (oi := o5_9_7) (v := ?_) rfl (by kernel_rfl) (fun _ _ _ h => h) (by rfl) ?_ hH0 ?_
          rotate_left
          · (intro w hSw; (try dsimp only at hSw); unfold o5_9_7; go_simp <;> (with_reducible rfl))
          simp only [Act.put, o5_9_7, List.setIfInBounds_toArray, List.set_cons_zero, List.set_cons_succ]
          refine wpAnyH_ready (rs := [3]) (by kernel_rfl) (by simp) (AllReadyH.cons (o := o5_9_3) rfl (fun K' hK' => ?_) AllReadyH.nil)
          unfold o5_9_3
          go_simp
          go_at_call 36; (refine (hcp _ (hR.out.below (below_drew HB7.out)) (HL.out.below (below_drew HB7.out))).mono ?_); rintro e w8 ⟨rfl, hb_⟩; have HX := Aside0.mk (below_step (below_drew (Below.refl _ w7)) hb_); have hk_ := HSW.out _ HX.out; clear hb_
          refine hK'.out _ _ (by exact hk_) (fun hH1 => ?_)
          clear hK' K'
          try simp only [Act.put, List.setIfInBounds_toArray, List.set_cons_zero, List.set_cons_succ]
          refine tk 4 (oi := o5_9_4) (v := ?_) rfl (by kernel_rfl) (fun _ _ _ h => h) (by rfl) ?_ hH1 ?_
          rotate_left
          · (intro w hSw; (try dsimp only at hSw); unfold o5_9_4; go_simp <;> (with_reducible rfl))
          simp only [Act.put, o5_9_4, List.setIfInBounds_toArray, List.set_cons_zero, List.set_cons_succ]
          refine wpAnyH_ready (rs := [8]) (by kernel_rfl) (by simp) (AllReadyH.cons (o := o5_9_8) rfl (fun K' hK' => ?_) AllReadyH.nil)
          unfold o5_9_8
          go_simp
          go_at_call 26; (refine (hcg _ (hR.out.below (below_step HB7.out HX.out)) (HM.out.below (below_step HB7.out HX.out))).mono ?_); rintro e w9 ⟨rfl, hb_⟩; have HY := Aside0.mk (below_step HX.out hb_); have hk_ := HSW.out _ HY.out; clear hb_
          refine hK'.out _ _ (by exact hk_) (fun hH2 => ?_)
          clear hK' K'
          try simp only [Act.put, List.setIfInBounds_toArray, List.set_cons_zero, List.set_cons_succ]
          refine tk 9 (oi := o5_9_9) (v := ?_) rfl (by kernel_rfl) (fun _ _ _ h => h) (by rfl) ?_ hH2 ?_
          rotate_left
          · (intro w hSw; (try dsimp only at hSw); unfold o5_9_9; go_simp <;> (with_reducible rfl))
          simp only [Act.put, o5_9_9, List.setIfInBounds_toArray, List.set_cons_zero, List.set_cons_succ]
          refine tk 10 (oi := o5_9_10) (v := ?_) rfl (by kernel_rfl) (fun _ _ _ h => h) (by rfl) ?_ hH2 ?_
          rotate_left
          · (intro w hSw; (try dsimp only at hSw); unfold o5_9_10; go_simp <;> (with_reducible rfl))
          simp only [Act.put, o5_9_10, List.setIfInBounds_toArray, List.set_cons_zero, List.set_cons_succ]
          refine tk 11 (oi := o5_9_11) (v := ?_) rfl (by kernel_rfl) (fun _ _ _ h => h) (by rfl) ?_ hH2 ?_
          rotate_left
          · (intro w hSw; (try dsimp only at hSw); unfold o5_9_11; go_simp <;> (with_reducible rfl))
          simp only [Act.put, o5_9_11, List.setIfInBounds_toArray, List.set_cons_zero, List.set_cons_succ]
          refine wpAnyH_done (by kernel_rfl) ?_ _
          clear HSW
          go_wp2
          go_ret
          exact ⟨rfl, below_step HB7.out HY.out⟩
end Go.Proofs.YtflolfbkpjgjaaaGreatDoor
end
section
set_option linter.unusedVariables false
set_option linter.unusedSimpArgs false
namespace Go.Proofs.YtflolfbkpjgjaaaGreatDoor
open Go.ChangeShapes Go.WideShapes Go.ChangeAt Go.RowKit Go.Deep Go.Proofs.YtflolfbkpjgjaaaGreatDoorW.PrintWords
theorem cells3 : Tryz.prog.cellsOf 3 = 1 := by kernel_rfl
theorem cells22 : Tryz.prog.cellsOf 22 = 1 := by kernel_rfl
theorem cells23 : Tryz.prog.cellsOf 23 = 1 := by kernel_rfl
theorem cells25 : Tryz.prog.cellsOf 25 = 5 := by kernel_rfl
theorem cells26 : Tryz.prog.cellsOf 26 = 1 := by kernel_rfl
theorem cells45 : Tryz.prog.cellsOf 45 = 6 := by kernel_rfl
theorem maxLen_le : maxLen ≤ 9223372036854775807 := by decide
theorem kC_of {α : Type} {d : Kd α} {W : World} {ad : Addr} {xs : List α} (hb : xs.length ≤ 9223372036854775807)
    (h : ∀ (j : Nat) (p : α), xs[j]? = some p → ∃ c, c.length = d.sz ∧ d.K W p c ∧ ∀ i u, c[i]? = some u → W.cell? (ad.add (j * d.sz + i)) = some u) : Kd.C d W (some ad) xs.length xs :=
  ⟨rfl, hb, fun _ => ⟨ad, rfl, h⟩⟩
theorem ci_of_cells {W : World} {ad : Addr} {xs : List Int} (hb : xs.length ≤ 9223372036854775807) (h : ∀ i, i < xs.length → W.cell? (ad.add i) = some (.int .i64 (xs.getD i 0))) : CI W (some ad) xs.length xs := by
  refine kC_of hb (fun j p hj => ⟨[.int .i64 p], rfl, rfl, fun i u hu => ?_⟩)
  have hi : i = 0 := by
    have := (List.getElem?_eq_some_iff.1 hu).1
    simp at this
    exact this
  subst hi
  have hu' : Value.int .i64 p = u := by simpa using hu
  subst hu'
  rw [show (Kd.int .i64).sz = 1 from rfl, Nat.mul_one, Nat.add_zero]
  have hl := (List.getElem?_eq_some_iff.1 hj).1
  rw [h j hl, List.getD_eq_getElem?_getD, hj]
  rfl
theorem getD_take {xs : List Int} {i n : Nat} (h : i < n) : (xs.take n).getD i 0 = xs.getD i 0 := by
  rw [List.getD_eq_getElem?_getD, List.getD_eq_getElem?_getD, List.getElem?_take, if_pos h]
section
variable {H : Type} {enc : TypeId × Value → H} {W : World} {base : Nat}
theorem ints_of_trod {fuel : Nat} {cs : List Value} {x : DataW H × List MemPlace} (h : DataW.trod enc Tryz.prog W base (fun _ => true) true fuel 26 cs = some x) : ∃ v xs, cs = [v] ∧ IntsAt W v xs := by
  rcases open_ints Tryz.underlying26 Tryz.underlying3 cells3 h with ⟨rfl, _⟩ | ⟨a, len, cap, zs, rfl, _, hl, hm, hz, _, hc, _⟩
  · exact ⟨_, [], rfl, none, 0, rfl, Nat.le_refl _, Kd.C_nil _ W⟩
  · simp only [if_true] at hz
    have hlen : (zs.take len).length = len := by rw [List.length_take]; omega
    have hmx := maxLen_le
    refine ⟨_, zs.take len, rfl, some a, cap, by rw [hlen], by omega, ci_of_cells (by omega) (fun i hi => ?_)⟩
    rw [getD_take (by omega)]
    exact hc i (by omega)
theorem rows_of_trod {fuel : Nat} {cs : List Value} {x : DataW H × List MemPlace} (h : DataW.trod enc Tryz.prog W base (fun _ => true) true fuel 22 cs = some x) :
    ∃ A c xs, cs = [.slice A xs.length c] ∧ xs.length ≤ c ∧ CII W A xs.length xs := by
  rcases open_int_rows Tryz.underlying22 Tryz.underlying26 Tryz.underlying3 cells26 cells3 h with ⟨rfl, _⟩ | ⟨a, len, cap, A, L, C, Z, rfl, _, hl, hm, _, hr⟩
  · exact ⟨none, 0, [], rfl, Nat.le_refl _, Kd.C_nil _ W⟩
  · have hmx := maxLen_le
    have hlen : ((List.range len).map fun r => (Z r).take (L r)).length = len := by simp
    refine ⟨some a, cap, (List.range len).map fun r => (Z r).take (L r), by rw [hlen], by omega, kC_of (by omega) (fun j p hj => ?_)⟩
    have hj' : j < len := by have := (List.getElem?_eq_some_iff.1 hj).1; omega
    have hp : p = (Z j).take (L j) := by
      rw [List.getElem?_map, List.getElem?_range hj'] at hj
      simpa using hj.symm
    subst hp
    obtain ⟨h1, h2, h3, h4, _, h6, h7⟩ := hr j (by omega)
    have hpl : ((Z j).take (L j)).length = L j := by rw [List.length_take]; omega
    refine ⟨[.slice (A j) (L j) (C j)], rfl, ⟨A j, C j, by rw [hpl], by omega, ?_⟩, fun i u hu => ?_⟩
    · cases hA : A j with
      | none =>
        have hz : (Z j).take (L j) = [] := by
          have := h6 hA
          apply List.eq_nil_of_length_eq_zero
          omega
        rw [hz]
        exact Kd.C_nil _ W
      | some a' =>
        refine ci_of_cells (by omega) (fun i hi => ?_)
        rw [getD_take (by omega)]
        exact (h7 a' hA).2 i (by omega)
    · have hi : i = 0 := by
        have := (List.getElem?_eq_some_iff.1 hu).1
        simp at this
        exact this
      subst hi
      have hu' : Value.slice (A j) (L j) (C j) = u := by simpa using hu
      subst hu'
      rw [show (Kd.slice 3 (Kd.int .i64)).sz = 1 from rfl, Nat.mul_one, Nat.add_zero]
      exact h1
theorem int_of_trod {fuel : Nat} {cs : List Value} {x : DataW H × List MemPlace} {sp : Nat → Bool} (h : DataW.trod enc Tryz.prog W base sp true fuel 3 cs = some x) : ∃ n, cs = [.int .i64 n] ∧ (Lit.int .i64 n).wf = true := by
  obtain ⟨n, e, _, hw⟩ := DataW.trod_int Tryz.underlying3 h
  exact ⟨n, e, hw⟩
theorem six {α : Type} {l : List α} (h : l.length = 6) : ∃ a b c d e f, l = [a, b, c, d, e, f] := by
  match l, h with
  | [a, b, c, d, e, f], _ => exact ⟨a, b, c, d, e, f, rfl⟩
theorem five {α : Type} {l : List α} (h : l.length = 5) : ∃ a b c d e, l = [a, b, c, d, e] := by
  match l, h with
  | [a, b, c, d, e], _ => exact ⟨a, b, c, d, e, rfl⟩
set_option maxRecDepth 100000 in
theorem turn_of_trod {fuel : Nat} {cs : List Value} {x : DataW H × List MemPlace} {sp : Nat → Bool} (h : DataW.trod enc Tryz.prog W base sp true fuel 45 cs = some x) :
    ∃ t : Trn, cs = [.int .i64 t.gate, .int .i64 t.clock, .int .i64 t.frm, .int .i64 t.clock2, .int .i64 t.til, .int .i64 t.cost] := by
  obtain ⟨xs, n, _, _, hl, hxl, hf⟩ := DataW.trod_struct Tryz.underlying45 h
  rw [cells45] at hl
  obtain ⟨a0, a1, a2, a3, a4, a5, rfl⟩ := six hl
  obtain ⟨x0, x1, x2, x3, x4, x5, rfl⟩ := six (l := xs) hxl
  have c3 : Tryz.prog.cellsOf 3 = 1 := cells3
  have f0 : DataW.trod enc Tryz.prog W base sp true n 3 [a0] = some x0 := by
    have h := hf 0 _ rfl
    change DataW.trod enc Tryz.prog W base sp true n 3 (([a0, a1, a2, a3, a4, a5].drop 0).take (Tryz.prog.cellsOf 3)) = some x0 at h
    rw [c3] at h
    exact h
  have f1 : DataW.trod enc Tryz.prog W base sp true n 3 [a1] = some x1 := by
    have h := hf 1 _ rfl
    change DataW.trod enc Tryz.prog W base sp true n 3 (([a0, a1, a2, a3, a4, a5].drop 1).take (Tryz.prog.cellsOf 3)) = some x1 at h
    rw [c3] at h
    exact h
  have f2 : DataW.trod enc Tryz.prog W base sp true n 3 [a2] = some x2 := by
    have h := hf 2 _ rfl
    change DataW.trod enc Tryz.prog W base sp true n 3 (([a0, a1, a2, a3, a4, a5].drop 2).take (Tryz.prog.cellsOf 3)) = some x2 at h
    rw [c3] at h
    exact h
  have f3 : DataW.trod enc Tryz.prog W base sp true n 3 [a3] = some x3 := by
    have h := hf 3 _ rfl
    change DataW.trod enc Tryz.prog W base sp true n 3 (([a0, a1, a2, a3, a4, a5].drop 3).take (Tryz.prog.cellsOf 3)) = some x3 at h
    rw [c3] at h
    exact h
  have f4 : DataW.trod enc Tryz.prog W base sp true n 3 [a4] = some x4 := by
    have h := hf 4 _ rfl
    change DataW.trod enc Tryz.prog W base sp true n 3 (([a0, a1, a2, a3, a4, a5].drop 4).take (Tryz.prog.cellsOf 3)) = some x4 at h
    rw [c3] at h
    exact h
  have f5 : DataW.trod enc Tryz.prog W base sp true n 3 [a5] = some x5 := by
    have h := hf 5 _ rfl
    change DataW.trod enc Tryz.prog W base sp true n 3 (([a0, a1, a2, a3, a4, a5].drop 5).take (Tryz.prog.cellsOf 3)) = some x5 at h
    rw [c3] at h
    exact h
  obtain ⟨n0, e0, _⟩ := int_of_trod f0
  obtain ⟨n1, e1, _⟩ := int_of_trod f1
  obtain ⟨n2, e2, _⟩ := int_of_trod f2
  obtain ⟨n3, e3, _⟩ := int_of_trod f3
  obtain ⟨n4, e4, _⟩ := int_of_trod f4
  obtain ⟨n5, e5, _⟩ := int_of_trod f5
  simp only [List.cons.injEq, and_true] at e0 e1 e2 e3 e4 e5
  subst e0 e1 e2 e3 e4 e5
  exact ⟨⟨n0, n1, n2, n3, n4, n5⟩, rfl⟩
instance : Inhabited Trn := ⟨Trn.z⟩
theorem mapM_get {α β : Type} {f : α → Option β} : ∀ {l : List α} {r : List β}, l.mapM f = some r → ∀ (i : Nat) (a : α), l[i]? = some a → ∃ b, r[i]? = some b ∧ f a = some b := Lib.mapM_at
theorem cell_of_cells {a : Addr} {n : Nat} {cs : List Value} (h : W.cells? base a n = some cs) (i : Nat) (u : Value) (hu : cs[i]? = some u) (hi : i < n) : W.cell? (a.add i) = some u := by
  unfold World.cells? at h
  split at h
  · obtain ⟨b, hb, hc⟩ := mapM_get h i i (List.getElem?_range hi)
    rw [hu] at hb
    obtain rfl := Option.some.inj hb
    exact hc
  · simp at h
theorem turns_of_trod {fuel : Nat} {cs : List Value} {x : DataW H × List MemPlace} (h : DataW.trod enc Tryz.prog W base (fun _ => true) true fuel 23 cs = some x) :
    ∃ A c xs, cs = [.slice A xs.length c] ∧ xs.length ≤ c ∧ CT W A xs.length xs := by
  rcases open_slice Tryz.underlying23 h with ⟨rfl, _⟩ | ⟨a, len, cap, m, n, D, Pl, rfl, _, hl, hm, hmm, _, hx⟩
  · exact ⟨none, 0, [], rfl, Nat.le_refl _, Kd.C_nil _ W⟩
  · simp only [if_true] at hmm
    subst hmm
    have hmx := maxLen_le
    rw [cells45] at hx
    have hx' : ∀ i, i < m → ∃ t : Trn, ∀ k u, ([.int .i64 t.gate, .int .i64 t.clock, .int .i64 t.frm, .int .i64 t.clock2, .int .i64 t.til, .int .i64 t.cost] : List Value)[k]? = some u → W.cell? (a.add (i * 6 + k)) = some u := by
      intro i hi
      obtain ⟨cs', h1, h2⟩ := hx i hi
      obtain ⟨t, rfl⟩ := turn_of_trod h2
      refine ⟨t, fun k u hu => ?_⟩
      have hk : k < 6 := by have := (List.getElem?_eq_some_iff.1 hu).1; simpa using this
      have := cell_of_cells h1 k u hu hk
      rwa [show (a.add (i * 6)).add k = a.add (i * 6 + k) from Go.Deep.add_add a (i * 6) k] at this
    obtain ⟨T, hT⟩ := choose_lt hx'
    have hlen : ((List.range len).map T).length = len := by simp
    refine ⟨some a, m, (List.range len).map T, by rw [hlen], by omega, kC_of (by omega) (fun j p hj => ?_)⟩
    have hj' : j < len := by have := (List.getElem?_eq_some_iff.1 hj).1; omega
    have hp : p = T j := by
      rw [List.getElem?_map, List.getElem?_range hj'] at hj
      simpa using hj.symm
    subst hp
    exact ⟨_, rfl, kTrn_mk W (T j), fun i u hu => hT j (by omega) i u hu⟩
set_option maxRecDepth 100000 in
theorem open_ros {b0 : Nat} {v : Value} {d : DataW H} {p : List MemPlace} (hv : Value.okWide Tryz.prog W .any b0 25 v) (h : DataW.Trod enc Tryz.prog W base (fun _ => true) true 25 v d p) : ∃ r, RosAt W v r := by
  obtain ⟨cs, rfl, hsz⟩ := okWide_struct Tryz.underlying25 hv
  rw [cells25] at hsz
  obtain ⟨l⟩ := cs
  obtain ⟨fuel, hf0⟩ := h
  obtain ⟨xs, n, _, _, hl, hxl, hf⟩ := DataW.trod_struct Tryz.underlying25 hf0
  obtain ⟨a0, a1, a2, a3, a4, rfl⟩ := five (l := l) (by simpa using hsz)
  obtain ⟨x0, x1, x2, x3, x4, rfl⟩ := five (l := xs) hxl
  have c3 : Tryz.prog.cellsOf 3 = 1 := cells3
  have c22 : Tryz.prog.cellsOf 22 = 1 := cells22
  have c23 : Tryz.prog.cellsOf 23 = 1 := cells23
  have f0 : DataW.trod enc Tryz.prog W base (fun _ => true) true n 3 [a0] = some x0 := by
    have h := hf 0 _ rfl
    change DataW.trod enc Tryz.prog W base (fun _ => true) true n 3 ((([a0, a1, a2, a3, a4] : List Value).drop 0).take (Tryz.prog.cellsOf 3)) = some x0 at h
    rw [c3] at h
    exact h
  have f1 : DataW.trod enc Tryz.prog W base (fun _ => true) true n 3 [a1] = some x1 := by
    have h := hf 1 _ rfl
    change DataW.trod enc Tryz.prog W base (fun _ => true) true n 3 ((([a0, a1, a2, a3, a4] : List Value).drop 1).take (Tryz.prog.cellsOf 3)) = some x1 at h
    rw [c3] at h
    exact h
  have f2 : DataW.trod enc Tryz.prog W base (fun _ => true) true n 3 [a2] = some x2 := by
    have h := hf 2 _ rfl
    change DataW.trod enc Tryz.prog W base (fun _ => true) true n 3 ((([a0, a1, a2, a3, a4] : List Value).drop 2).take (Tryz.prog.cellsOf 3)) = some x2 at h
    rw [c3] at h
    exact h
  have f3 : DataW.trod enc Tryz.prog W base (fun _ => true) true n 22 [a3] = some x3 := by
    have h := hf 3 _ rfl
    change DataW.trod enc Tryz.prog W base (fun _ => true) true n 22 ((([a0, a1, a2, a3, a4] : List Value).drop 3).take (Tryz.prog.cellsOf 22)) = some x3 at h
    rw [c22] at h
    exact h
  have f4 : DataW.trod enc Tryz.prog W base (fun _ => true) true n 23 [a4] = some x4 := by
    have h := hf 4 _ rfl
    change DataW.trod enc Tryz.prog W base (fun _ => true) true n 23 ((([a0, a1, a2, a3, a4] : List Value).drop 4).take (Tryz.prog.cellsOf 23)) = some x4 at h
    rw [c23] at h
    exact h
  obtain ⟨n0, e0, _⟩ := int_of_trod f0
  obtain ⟨n1, e1, _⟩ := int_of_trod f1
  obtain ⟨n2, e2, _⟩ := int_of_trod f2
  obtain ⟨A, c, ah, e3, h31, h32⟩ := rows_of_trod f3
  obtain ⟨T, d', tu, e4, h41, h42⟩ := turns_of_trod f4
  simp only [List.cons.injEq, and_true] at e0 e1 e2 e3 e4
  subst e0 e1 e2 e3 e4
  exact ⟨⟨n0, n1, n2, ah, tu⟩, A, c, T, d', rfl, h31, h41, h32, h42⟩
set_option maxRecDepth 100000 in
theorem open_intsAt {b0 : Nat} {v : Value} {d : DataW H} {p : List MemPlace} (hv : Value.okWide Tryz.prog W .any b0 26 v) (h : DataW.Trod enc Tryz.prog W base (fun _ => true) true 26 v d p) : ∃ xs, IntsAt W v xs := by
  obtain ⟨a, len, cap, rfl⟩ := okWide_slice Tryz.underlying26 hv
  obtain ⟨fuel, hf⟩ := h
  obtain ⟨v', xs, e, h1⟩ := ints_of_trod hf
  simp only [Value.cells, List.cons.injEq, and_true] at e
  subst e
  exact ⟨xs, h1⟩
end
theorem laid_tab {W : World} (h : laidMetH Tryz.prog [("math/bits.deBruijn32tab", Rows.laid_math_bits_deBruijn32tab), ("math/bits.deBruijn64tab", Rows.laid_math_bits_deBruijn64tab), ("internal/strconv.uint64pow10", Rows.laid_internal_strconv_uint64pow10)] W) : TabP W := by
  rw [MakeChecks.laidMetH_plain _ _ _ (by kernel_rfl)] at h
  exact Lib.tabIs_of_head (rest := []) (g := 2) (t := 191) (e := 158) (n := 20) (by kernel_rfl) (by kernel_rfl) (by kernel_rfl) (by kernel_rfl) (by kernel_rfl) (by kernel_rfl) (h.tail.tail)
end Go.Proofs.YtflolfbkpjgjaaaGreatDoor
end
section
set_option linter.unusedVariables false
set_option linter.unusedSimpArgs false
namespace Go.Proofs.YtflolfbkpjgjaaaGreatDoor
open Go.RowKit Go.Proofs.YtflolfbkpjgjaaaGreatDoorW.PrintWords
theorem band {a b : Bool} (ha : a = true) (hb : b = true) : (a && b) = true := by rw [ha, hb]; rfl
def layC (cs : Array Value) : Obj → Obj
  | .cells _ t frozen => .cells cs t frozen
  | o => o
def tab32 : Array Value := #[.int .u8 0, .int .u8 1, .int .u8 28, .int .u8 2, .int .u8 29, .int .u8 14, .int .u8 24, .int .u8 3, .int .u8 30, .int .u8 22, .int .u8 20, .int .u8 15, .int .u8 25, .int .u8 17, .int .u8 4, .int .u8 8, .int .u8 31, .int .u8 27, .int .u8 13, .int .u8 23, .int .u8 21, .int .u8 19, .int .u8 16, .int .u8 7, .int .u8 26, .int .u8 12, .int .u8 18, .int .u8 6, .int .u8 11, .int .u8 5, .int .u8 10, .int .u8 9]
def tab64 : Array Value := #[.int .u8 0, .int .u8 1, .int .u8 56, .int .u8 2, .int .u8 57, .int .u8 49, .int .u8 28, .int .u8 3, .int .u8 61, .int .u8 58, .int .u8 42, .int .u8 50, .int .u8 38, .int .u8 29, .int .u8 17, .int .u8 4, .int .u8 62, .int .u8 47, .int .u8 59, .int .u8 36, .int .u8 45, .int .u8 43, .int .u8 51, .int .u8 22, .int .u8 53, .int .u8 39, .int .u8 33, .int .u8 30, .int .u8 24, .int .u8 18, .int .u8 12, .int .u8 5, .int .u8 63, .int .u8 55, .int .u8 48, .int .u8 27, .int .u8 60, .int .u8 41, .int .u8 37, .int .u8 16, .int .u8 46, .int .u8 35, .int .u8 44, .int .u8 21, .int .u8 52, .int .u8 32, .int .u8 23, .int .u8 11, .int .u8 54, .int .u8 26, .int .u8 40, .int .u8 15, .int .u8 34, .int .u8 20, .int .u8 31, .int .u8 10, .int .u8 25, .int .u8 14, .int .u8 19, .int .u8 9, .int .u8 13, .int .u8 8, .int .u8 7, .int .u8 6]
def tab10 : Array Value := #[.int .u64 1, .int .u64 10, .int .u64 100, .int .u64 1000, .int .u64 10000, .int .u64 100000, .int .u64 1000000, .int .u64 10000000, .int .u64 100000000, .int .u64 1000000000, .int .u64 10000000000, .int .u64 100000000000, .int .u64 1000000000000, .int .u64 10000000000000, .int .u64 100000000000000, .int .u64 1000000000000000, .int .u64 10000000000000000, .int .u64 100000000000000000, .int .u64 1000000000000000000, .int .u64 10000000000000000000]
end Go.Proofs.YtflolfbkpjgjaaaGreatDoor
end
section
set_option linter.unusedVariables false
set_option linter.unusedSimpArgs false
namespace Go.Proofs.YtflolfbkpjgjaaaGreatDoor
open Go.RowKit Go.Proofs.YtflolfbkpjgjaaaGreatDoorW.PrintWords
namespace watchEither
open Go.ChangeShapes Go.WideShapes Go.ChangeAt
theorem own : ownKnob Tryz.prog.godebug = none := by kernel_rfl
theorem laidOut : laidOutB Tryz.prog = true := by kernel_rfl
set_option maxRecDepth 100000 in
theorem contract (H : Type) (enc : TypeId × Value → H) (W : World) (base : Nat) (args : Array Value) (ds gs : List (DataW H)) (before : List MemPlace)
    (hval : ∀ (j : Nat) t v, Tryz.f5.params[j]? = some t → args[j]? = some v → Value.okWide Tryz.prog W .any base t v)
    (hW : DataW.Whole enc Tryz.prog Tryz.f5.params.toList Rows.watchEitherSpec.vars false W args.toList ds gs before) (hL : laidMetH Tryz.prog Rows.watchEitherRow.laid W) :
    Calls Tryz.prog 5 args W fun e W' => ∃ v, e = .returned v ∧ Rows.watchEitherSpec.post enc Tryz.prog Tryz.f5 false true false false W args v W' := by
  have hW' := hW
  obtain ⟨p, q, hA0, hV, rfl, hfz, hnd⟩ := hW
  have hA : DataW.TrodAll enc Tryz.prog W 0 (fun _ => true) true Tryz.f5.params.toList args.toList ds p := hA0
  rw [Tryz.params5] at hA hval
  obtain ⟨v0, vs0, d0, ds0, p0, q0, hargs, rfl, rfl, h0, r0_⟩ := trodAll_cons hA
  obtain ⟨v1, vs1, d1, ds1, p1, q1, rfl, rfl, rfl, h1, r1_⟩ := trodAll_cons r0_
  obtain ⟨v2, vs2, d2, ds2, p2, q2, rfl, rfl, rfl, h2, r2_⟩ := trodAll_cons r1_
  obtain ⟨v3, vs3, d3, ds3, p3, q3, rfl, rfl, rfl, h3, r3_⟩ := trodAll_cons r2_
  obtain ⟨rfl, rfl, rfl⟩ := trodAll_nil r3_
  obtain rfl : args = #[v0, v1, v2, v3] := by cases args; simp_all
  obtain ⟨rfl, rfl⟩ := trodVars_none hV
  have k0 := h0
  have lt0 : ∀ x ∈ p0, x.block < W.heap.size := by obtain ⟨m, hm⟩ := k0; exact DataW.trod_lt m _ _ _ hm
  obtain ⟨r0, hr0⟩ := open_ros (hval 0 25 v0 rfl rfl) h0
  obtain ⟨a1, rfl, rfl, rfl, w1⟩ := open_int Tryz.underlying3 (hval 1 3 v1 rfl rfl) h1
  have k2 := h2
  have lt2 : ∀ x ∈ p2, x.block < W.heap.size := by obtain ⟨m, hm⟩ := k2; exact DataW.trod_lt m _ _ _ hm
  obtain ⟨l2, hr2⟩ := open_intsAt (hval 2 26 v2 rfl rfl) h2
  have k3 := h3
  have lt3 : ∀ x ∈ p3, x.block < W.heap.size := by obtain ⟨m, hm⟩ := k3; exact DataW.trod_lt m _ _ _ hm
  obtain ⟨l3, hr3⟩ := open_intsAt (hval 3 26 v3 rfl rfl) h3
  clear hA0
  have hT : TabP W := laid_tab hL
  refine (either_calls v0 v2 v3 r0 a1 l2 l3 W hT hr0 hr2 hr3).mono fun e W' ⟨he, bel⟩ => ?_
  subst he
  exact ⟨_, rfl, _, _, _, [], _, [], hW', trodAll_mk1 (shut_bool Tryz.underlying4 _), (trodAll_cons_mk (Below.trod laidOut (by kernel_rfl) (of_decide_eq_true (by kernel_rfl)) k0 bel lt0) (trodAll_cons_mk (shut_int Tryz.underlying3 w1) (trodAll_cons_mk (Below.trod laidOut (by kernel_rfl) (of_decide_eq_true (by kernel_rfl)) k2 bel lt2) (trodAll_cons_mk (Below.trod laidOut (by kernel_rfl) (of_decide_eq_true (by kernel_rfl)) k3 bel lt3) trodAll_mk0)))), rfl, bel.frame _, fun h => by cases h⟩
noncomputable def laidWorld (os : Os) : World :=
  { World.holding Tryz.prog os ⟨#[], #[], []⟩ with heap := (((World.holding Tryz.prog os ⟨#[], #[], []⟩).heap.modify 6 (layC tab32)).modify 7 (layC tab64)).modify 2 (layC tab10) }
theorem laid_met (os : Os) : laidMet Tryz.prog Rows.watchEitherRow.laid ((laidWorld os).forCall (fun _ _ => 0) ⟨#[], #[.agg #[.int .i64 0, .int .i64 0, .int .i64 0, .slice none 0 0, .slice none 0 0], .int .i64 0, .slice none 0 0, .slice none 0 0], []⟩).memory :=
  laidMet_of_run3 8 (by kernel_rfl) (by kernel_rfl) (by kernel_rfl)
theorem reads (os : Os) {H : Type} (enc : TypeId × Value → H) : ∃ places, DataW.whole enc Tryz.prog ((laidWorld os).forCall (fun _ _ => 0) ⟨#[], #[.agg #[.int .i64 0, .int .i64 0, .int .i64 0, .slice none 0 0, .slice none 0 0], .int .i64 0, .slice none 0 0, .slice none 0 0], []⟩).memory Tryz.f5.params.toList Rows.watchEitherSpec.vars false #[Value.agg #[.int .i64 0, .int .i64 0, .int .i64 0, .slice none 0 0, .slice none 0 0], .int .i64 0, .slice none 0 0, .slice none 0 0].toList 8 = some ([.agg [.lit (.int .i64 0), .lit (.int .i64 0), .lit (.int .i64 0), .nil, .nil], .lit (.int .i64 0), .nil, .nil], [], places) :=
  ⟨[], by kernel_rfl⟩
set_option maxRecDepth 100000 in
theorem lifted (os : Os) (started : os.Started) (H : Type) (enc : TypeId × Value → H) (F : Stop.Interp) :
    ReturnsInHanded {} Tryz.checked os 5 .any ((OpenSpec.ofChange Rows.watchEitherSpec).preRow enc Tryz.prog Tryz.f5 Rows.watchEitherRow.domain false Rows.watchEitherRow.laid) (((OpenSpec.ofChange Rows.watchEitherSpec).at F).post enc Tryz.prog Tryz.f5 false true false false) := by
  obtain ⟨places, hx⟩ := reads os enc
  refine returnsInHanded_of_row (C := Tryz.checked) (s := OpenSpec.ofChange Rows.watchEitherSpec) own started (by kernel_rfl) Tryz.func5
    (witness_row_at (enc := enc) (C := Tryz.checked) false (laidWorld os) #[.agg #[.int .i64 0, .int .i64 0, .int .i64 0, .slice none 0 0, .slice none 0 0], .int .i64 0, .slice none 0 0, .slice none 0 0] rfl (by kernel_rfl) (by kernel_rfl) (by kernel_rfl)
      (OpenSpec.preRow_of_cond 8 hx (by kernel_rfl) (fun k hk => by cases hk) (by kernel_rfl) (laid_met os))) ?_
  intro W base args ds gs before hval hW _ _ _ hL _ _
  exact contract H enc W base args ds gs before hval hW hL
theorem named : Tryz.pinned.checked.prog.funcNamed Rows.watchEitherRow.func = some 5 := by kernel_rfl
set_option maxHeartbeats 8000000 in
theorem closed : joinedFacts Tryz.pinned.checked.prog 5 Tryz.f5 (OpenSpec.ofChange Rows.watchEitherSpec).bare Rows.watchEitherRow = true := by
  unfold joinedFacts
  repeat' (with_reducible refine band ?_ ?_)
  all_goals (as_aux_lemma => kernel_rfl)
theorem inst : Tryz.f5.isInstance Tryz.pinned.checked.prog Rows.watchEitherRow.origin Rows.watchEitherRow.targs := of_decide_eq_true (by kernel_rfl)
theorem said : Rows.WatchEitherSaid :=
  OpenClaim.holds_of_cond 5 Tryz.f5 rfl rfl rfl rfl rfl rfl rfl ⟨rfl, rfl, rfl, rfl, rfl⟩ rfl rfl rfl rfl rfl named Tryz.func5 closed
    inst (by unfold Func.isWrapper; first | (rw [if_pos (by decide +kernel)]; kernel_rfl) | (rw [if_neg (by decide +kernel)]; exact ⟨rfl, rfl⟩))
    (fun os started H enc _ F => by rw [OpenClaim.pre_eq_preRow]; exact lifted os started H enc F)
theorem plain (f : FuncId) (fn : Func) (hf : Tryz.pinned.checked.prog.funcNamed "waterhour/waterhourlaw07.WatchEither" = some f) (hfn : Tryz.pinned.checked.prog.funcs[f]? = some fn) :
    true = Tryz.pinned.checked.prog.looks [] ∧ ∀ (j : Nat) t, fn.params[j]? = some t → Tryz.pinned.checked.prog.wantsStandIn t = false := by
  obtain rfl : f = 5 := Option.some.inj ((show Tryz.prog.funcNamed "waterhour/waterhourlaw07.WatchEither" = some 5 by kernel_rfl).symm.trans hf) |>.symm
  obtain rfl : fn = Tryz.f5 := (Option.some.inj (Tryz.func5.symm.trans hfn)).symm
  refine ⟨by kernel_rfl, fun j t ht => ?_⟩
  rw [Tryz.params5] at ht
  have hm := Array.mem_of_getElem? ht
  have hm2 : t ∈ ([25, 3, 26, 26] : List Nat) := by simpa using hm
  have hall : ([25, 3, 26, 26] : List Nat).all (fun t => Tryz.prog.wantsStandIn t == false) = true := by kernel_rfl
  rw [List.all_eq_true] at hall
  exact beq_iff_eq.1 (hall t hm2)
end watchEither
theorem watchEither_card : Rows.WatchEitherCardSaid :=
  Claim7.holds_tied_plain_at .later [] _ _ _ _ watchEither.said (fun _ h => by cases h) (by kernel_rfl) (fun _ h => by cases h) watchEither_row_tie rfl ⟨rfl, rfl⟩ (by kernel_rfl) rfl watchEither.plain (by kernel_rfl)
end Go.Proofs.YtflolfbkpjgjaaaGreatDoor
end
