/- What the proofs lean on, part 2: contracts of the functions that all the laws reach, and the plain words for them. -/
import Derived.Deep.QuietTactic
import Derived.BigQuiet
import Derived.Deep.RegionHeld3
import Derived.Shelf.Abstract
import Derived.Outline
import Derived.Maps.OwnOps
import Derived.Maps.Views
import Derived.Carry
import Derived.Test.YtflolfbkpjgjaaaGreatDoorY1
set_option linter.unusedVariables false
set_option linter.unusedSimpArgs false
section
namespace Go.Proofs.YtflolfbkpjgjaaaGreatDoor
open Go.RowKit Go.Proofs.YtflolfbkpjgjaaaGreatDoorW.PrintWords
open Go.Proofs.YtflolfbkpjgjaaaGreatDoorW.PrintLast Go.Proofs.YtflolfbkpjgjaaaGreatDoorW.PrintMore
attribute [local go_sem] max2_int min2_int max_two min_two max_three min_three max_four min_four
def ref_Right.f (a0_0 : Int) (a0_1 : Int) (a0_2 : Int) (a0_3 : Int) (a0_4 : Int) (a0_5 : Int) : Option (Bool) := if a0_0 ≥ 0 then (if a0_0 < 8 then (if a0_1 ≥ 0 then (if a0_1 < 8 then (if a0_3 ≥ 0 then (if a0_3 < 8 then (if a0_2 ≥ 0 then (if a0_2 ≤ 16777216 then (if a0_4 ≥ 0 then (if a0_4 ≤ 16777216 then (if a0_5 ≥ 0 then (some (decide (a0_5 ≤ 10000))) else (some false)) else (some false)) else (some false)) else (some false)) else (some false)) else (some false)) else (some false)) else (some false)) else (some false)) else (some false)) else (some false)
set_option maxHeartbeats 8000000 in
set_option maxRecDepth 100000 in
theorem ref_Right.calls (a0_0 : Int) (a0_1 : Int) (a0_2 : Int) (a0_3 : Int) (a0_4 : Int) (a0_5 : Int) (r : Bool) (w : World) (h : ref_Right.f a0_0 a0_1 a0_2 a0_3 a0_4 a0_5 = some r) :
    Calls Tryz.prog 120 #[.agg #[.int .i64 a0_0, .int .i64 a0_1, .int .i64 a0_2, .int .i64 a0_3, .int .i64 a0_4, .int .i64 a0_5]] w fun e w' => e = .returned (.bool r) ∧ Below w.heap.size w w' := by
  have hu45 := Tryz.underlying45
  have HB := Aside0.mk (Below.refl w.heap.size w)
  have H : (if a0_0 ≥ 0 then (if a0_0 < 8 then (if a0_1 ≥ 0 then (if a0_1 < 8 then (if a0_3 ≥ 0 then (if a0_3 < 8 then (if a0_2 ≥ 0 then (if a0_2 ≤ 16777216 then (if a0_4 ≥ 0 then (if a0_4 ≤ 16777216 then (if a0_5 ≥ 0 then (some (decide (a0_5 ≤ 10000))) else (some false)) else (some false)) else (some false)) else (some false)) else (some false)) else (some false)) else (some false)) else (some false)) else (some false)) else (some false)) else (some false)) = some r := h
  clear h
  by_cases c2 : a0_0 ≥ 0
  · rw [if_pos c2] at H
    have c2b0 : decide (0 ≤ a0_0) = true := decide_eq_true c2
    clear c2
    by_cases c3 : a0_0 < 8
    · rw [if_pos c3] at H
      have c3b0 : decide (a0_0 < 8) = true := decide_eq_true c3
      clear c3
      by_cases c4 : a0_1 ≥ 0
      · rw [if_pos c4] at H
        have c4b0 : decide (0 ≤ a0_1) = true := decide_eq_true c4
        clear c4
        by_cases c5 : a0_1 < 8
        · rw [if_pos c5] at H
          have c5b0 : decide (a0_1 < 8) = true := decide_eq_true c5
          clear c5
          by_cases c6 : a0_3 ≥ 0
          · rw [if_pos c6] at H
            have c6b0 : decide (0 ≤ a0_3) = true := decide_eq_true c6
            clear c6
            by_cases c7 : a0_3 < 8
            · rw [if_pos c7] at H
              have c7b0 : decide (a0_3 < 8) = true := decide_eq_true c7
              clear c7
              by_cases c8 : a0_2 ≥ 0
              · rw [if_pos c8] at H
                have c8b0 : decide (0 ≤ a0_2) = true := decide_eq_true c8
                clear c8
                by_cases c9 : a0_2 ≤ 16777216
                · rw [if_pos c9] at H
                  have c9b0 : decide (a0_2 ≤ 16777216) = true := decide_eq_true c9
                  clear c9
                  by_cases c10 : a0_4 ≥ 0
                  · rw [if_pos c10] at H
                    have c10b0 : decide (0 ≤ a0_4) = true := decide_eq_true c10
                    clear c10
                    by_cases c11 : a0_4 ≤ 16777216
                    · rw [if_pos c11] at H
                      have c11b0 : decide (a0_4 ≤ 16777216) = true := decide_eq_true c11
                      clear c11
                      by_cases c12 : a0_5 ≥ 0
                      · rw [if_pos c12] at H
                        have c12b0 : decide (0 ≤ a0_5) = true := decide_eq_true c12
                        clear c12
                        obtain rfl := Option.some.inj H
                        go_enter Tryz.func120, Tryz.ntmps120
                        go_wp2_with (first | ((with_reducible refine gate_dst (N := 1) rfl ?_); refine box_event ?hg (N := 1) ?hd (cs := #[.int .i64 a0_0, .int .i64 a0_1, .int .i64 a0_2, .int .i64 a0_3, .int .i64 a0_4, .int .i64 a0_5]) (t := 45) ?hr ?_; (case hd => rfl); (case hg => rfl); (case hr => first | (go_simp; done) | (go_simp; rfl)); intro gb277 hg w13 hbox hb; have n0_ := Aside0.mk (below_step (by repeat (first | (with_reducible first | exact HB.out | apply below_alloc | apply pw_below_drewN | apply below_drew1) | exact HB.out)) hb); have n1_ := Aside0.mk (hbox); have n2_ := Aside0.mk ((by rw [hg]; exact (below_size (by repeat (first | (with_reducible first | exact HB.out | apply below_alloc | apply pw_below_drewN | apply below_drew1) | exact HB.out))) : w.heap.size ≤ gb277)); have n3_ := Aside0.mk ((by rw [hg]; exact (below_size (by repeat (first | (with_reducible first | exact HB.out | apply below_alloc | apply pw_below_drewN | apply below_drew1) | exact HB.out))) : w.heap.size ≤ gb277)); clear HB; have HB := n0_; have BK277 := n1_; have GW277 := n2_; have GE277 := n3_; clear n0_ n1_ n2_ n3_; clear hb hbox hg; have hcz14_0 : w13.cell? ⟨gb277, 0, none⟩ = some (.int .i64 a0_0) := (blk_cell BK277.out 0).trans rfl; have hcz14_1 : w13.cell? ⟨gb277, 1, none⟩ = some (.int .i64 a0_1) := (blk_cell BK277.out 1).trans rfl; have hcz14_2 : w13.cell? ⟨gb277, 2, none⟩ = some (.int .i64 a0_2) := (blk_cell BK277.out 2).trans rfl; have hcz14_3 : w13.cell? ⟨gb277, 3, none⟩ = some (.int .i64 a0_3) := (blk_cell BK277.out 3).trans rfl; have hcz14_4 : w13.cell? ⟨gb277, 4, none⟩ = some (.int .i64 a0_4) := (blk_cell BK277.out 4).trans rfl; have hcz14_5 : w13.cell? ⟨gb277, 5, none⟩ = some (.int .i64 a0_5) := (blk_cell BK277.out 5).trans rfl; have hfz14_0 := blk_frozen BK277.out 0; have hfz14_1 := blk_frozen BK277.out 1; have hfz14_2 := blk_frozen BK277.out 2; have hfz14_3 := blk_frozen BK277.out 3; have hfz14_4 := blk_frozen BK277.out 4; have hfz14_5 := blk_frozen BK277.out 5))
                        go_ret
                        exact ⟨by first | rfl | (simp [errW_none, errW_some] <;> rfl) | (simp [*, errW_none, errW_some] <;> rfl), by repeat (first | (with_reducible first | exact HB.out | apply below_alloc | apply pw_below_drewN | apply below_drew1 | refine below_set ?_ GE277.out) | exact HB.out)⟩
                      · rw [if_neg c12] at H
                        have c12b0 : decide (0 ≤ a0_5) = false := decide_eq_false c12
                        clear c12
                        obtain rfl := Option.some.inj H
                        go_enter Tryz.func120, Tryz.ntmps120
                        go_wp2_with (first | ((with_reducible refine gate_dst (N := 1) rfl ?_); refine box_event ?hg (N := 1) ?hd (cs := #[.int .i64 a0_0, .int .i64 a0_1, .int .i64 a0_2, .int .i64 a0_3, .int .i64 a0_4, .int .i64 a0_5]) (t := 45) ?hr ?_; (case hd => rfl); (case hg => rfl); (case hr => first | (go_simp; done) | (go_simp; rfl)); intro gb277 hg w15 hbox hb; have n0_ := Aside0.mk (below_step (by repeat (first | (with_reducible first | exact HB.out | apply below_alloc | apply pw_below_drewN | apply below_drew1) | exact HB.out)) hb); have n1_ := Aside0.mk (hbox); have n2_ := Aside0.mk ((by rw [hg]; exact (below_size (by repeat (first | (with_reducible first | exact HB.out | apply below_alloc | apply pw_below_drewN | apply below_drew1) | exact HB.out))) : w.heap.size ≤ gb277)); have n3_ := Aside0.mk ((by rw [hg]; exact (below_size (by repeat (first | (with_reducible first | exact HB.out | apply below_alloc | apply pw_below_drewN | apply below_drew1) | exact HB.out))) : w.heap.size ≤ gb277)); clear HB; have HB := n0_; have BK277 := n1_; have GW277 := n2_; have GE277 := n3_; clear n0_ n1_ n2_ n3_; clear hb hbox hg; have hcz16_0 : w15.cell? ⟨gb277, 0, none⟩ = some (.int .i64 a0_0) := (blk_cell BK277.out 0).trans rfl; have hcz16_1 : w15.cell? ⟨gb277, 1, none⟩ = some (.int .i64 a0_1) := (blk_cell BK277.out 1).trans rfl; have hcz16_2 : w15.cell? ⟨gb277, 2, none⟩ = some (.int .i64 a0_2) := (blk_cell BK277.out 2).trans rfl; have hcz16_3 : w15.cell? ⟨gb277, 3, none⟩ = some (.int .i64 a0_3) := (blk_cell BK277.out 3).trans rfl; have hcz16_4 : w15.cell? ⟨gb277, 4, none⟩ = some (.int .i64 a0_4) := (blk_cell BK277.out 4).trans rfl; have hcz16_5 : w15.cell? ⟨gb277, 5, none⟩ = some (.int .i64 a0_5) := (blk_cell BK277.out 5).trans rfl; have hfz16_0 := blk_frozen BK277.out 0; have hfz16_1 := blk_frozen BK277.out 1; have hfz16_2 := blk_frozen BK277.out 2; have hfz16_3 := blk_frozen BK277.out 3; have hfz16_4 := blk_frozen BK277.out 4; have hfz16_5 := blk_frozen BK277.out 5))
                        go_ret
                        exact ⟨by first | rfl | (simp [errW_none, errW_some] <;> rfl) | (simp [*, errW_none, errW_some] <;> rfl), by repeat (first | (with_reducible first | exact HB.out | apply below_alloc | apply pw_below_drewN | apply below_drew1 | refine below_set ?_ GE277.out) | exact HB.out)⟩
                    · rw [if_neg c11] at H
                      have c11b0 : decide (a0_4 ≤ 16777216) = false := decide_eq_false c11
                      clear c11
                      obtain rfl := Option.some.inj H
                      go_enter Tryz.func120, Tryz.ntmps120
                      go_wp2_with (first | ((with_reducible refine gate_dst (N := 1) rfl ?_); refine box_event ?hg (N := 1) ?hd (cs := #[.int .i64 a0_0, .int .i64 a0_1, .int .i64 a0_2, .int .i64 a0_3, .int .i64 a0_4, .int .i64 a0_5]) (t := 45) ?hr ?_; (case hd => rfl); (case hg => rfl); (case hr => first | (go_simp; done) | (go_simp; rfl)); intro gb277 hg w17 hbox hb; have n0_ := Aside0.mk (below_step (by repeat (first | (with_reducible first | exact HB.out | apply below_alloc | apply pw_below_drewN | apply below_drew1) | exact HB.out)) hb); have n1_ := Aside0.mk (hbox); have n2_ := Aside0.mk ((by rw [hg]; exact (below_size (by repeat (first | (with_reducible first | exact HB.out | apply below_alloc | apply pw_below_drewN | apply below_drew1) | exact HB.out))) : w.heap.size ≤ gb277)); have n3_ := Aside0.mk ((by rw [hg]; exact (below_size (by repeat (first | (with_reducible first | exact HB.out | apply below_alloc | apply pw_below_drewN | apply below_drew1) | exact HB.out))) : w.heap.size ≤ gb277)); clear HB; have HB := n0_; have BK277 := n1_; have GW277 := n2_; have GE277 := n3_; clear n0_ n1_ n2_ n3_; clear hb hbox hg; have hcz18_0 : w17.cell? ⟨gb277, 0, none⟩ = some (.int .i64 a0_0) := (blk_cell BK277.out 0).trans rfl; have hcz18_1 : w17.cell? ⟨gb277, 1, none⟩ = some (.int .i64 a0_1) := (blk_cell BK277.out 1).trans rfl; have hcz18_2 : w17.cell? ⟨gb277, 2, none⟩ = some (.int .i64 a0_2) := (blk_cell BK277.out 2).trans rfl; have hcz18_3 : w17.cell? ⟨gb277, 3, none⟩ = some (.int .i64 a0_3) := (blk_cell BK277.out 3).trans rfl; have hcz18_4 : w17.cell? ⟨gb277, 4, none⟩ = some (.int .i64 a0_4) := (blk_cell BK277.out 4).trans rfl; have hcz18_5 : w17.cell? ⟨gb277, 5, none⟩ = some (.int .i64 a0_5) := (blk_cell BK277.out 5).trans rfl; have hfz18_0 := blk_frozen BK277.out 0; have hfz18_1 := blk_frozen BK277.out 1; have hfz18_2 := blk_frozen BK277.out 2; have hfz18_3 := blk_frozen BK277.out 3; have hfz18_4 := blk_frozen BK277.out 4; have hfz18_5 := blk_frozen BK277.out 5))
                      go_ret
                      exact ⟨by first | rfl | (simp [errW_none, errW_some] <;> rfl) | (simp [*, errW_none, errW_some] <;> rfl), by repeat (first | (with_reducible first | exact HB.out | apply below_alloc | apply pw_below_drewN | apply below_drew1 | refine below_set ?_ GE277.out) | exact HB.out)⟩
                  · rw [if_neg c10] at H
                    have c10b0 : decide (0 ≤ a0_4) = false := decide_eq_false c10
                    clear c10
                    obtain rfl := Option.some.inj H
                    go_enter Tryz.func120, Tryz.ntmps120
                    go_wp2_with (first | ((with_reducible refine gate_dst (N := 1) rfl ?_); refine box_event ?hg (N := 1) ?hd (cs := #[.int .i64 a0_0, .int .i64 a0_1, .int .i64 a0_2, .int .i64 a0_3, .int .i64 a0_4, .int .i64 a0_5]) (t := 45) ?hr ?_; (case hd => rfl); (case hg => rfl); (case hr => first | (go_simp; done) | (go_simp; rfl)); intro gb277 hg w19 hbox hb; have n0_ := Aside0.mk (below_step (by repeat (first | (with_reducible first | exact HB.out | apply below_alloc | apply pw_below_drewN | apply below_drew1) | exact HB.out)) hb); have n1_ := Aside0.mk (hbox); have n2_ := Aside0.mk ((by rw [hg]; exact (below_size (by repeat (first | (with_reducible first | exact HB.out | apply below_alloc | apply pw_below_drewN | apply below_drew1) | exact HB.out))) : w.heap.size ≤ gb277)); have n3_ := Aside0.mk ((by rw [hg]; exact (below_size (by repeat (first | (with_reducible first | exact HB.out | apply below_alloc | apply pw_below_drewN | apply below_drew1) | exact HB.out))) : w.heap.size ≤ gb277)); clear HB; have HB := n0_; have BK277 := n1_; have GW277 := n2_; have GE277 := n3_; clear n0_ n1_ n2_ n3_; clear hb hbox hg; have hcz20_0 : w19.cell? ⟨gb277, 0, none⟩ = some (.int .i64 a0_0) := (blk_cell BK277.out 0).trans rfl; have hcz20_1 : w19.cell? ⟨gb277, 1, none⟩ = some (.int .i64 a0_1) := (blk_cell BK277.out 1).trans rfl; have hcz20_2 : w19.cell? ⟨gb277, 2, none⟩ = some (.int .i64 a0_2) := (blk_cell BK277.out 2).trans rfl; have hcz20_3 : w19.cell? ⟨gb277, 3, none⟩ = some (.int .i64 a0_3) := (blk_cell BK277.out 3).trans rfl; have hcz20_4 : w19.cell? ⟨gb277, 4, none⟩ = some (.int .i64 a0_4) := (blk_cell BK277.out 4).trans rfl; have hcz20_5 : w19.cell? ⟨gb277, 5, none⟩ = some (.int .i64 a0_5) := (blk_cell BK277.out 5).trans rfl; have hfz20_0 := blk_frozen BK277.out 0; have hfz20_1 := blk_frozen BK277.out 1; have hfz20_2 := blk_frozen BK277.out 2; have hfz20_3 := blk_frozen BK277.out 3; have hfz20_4 := blk_frozen BK277.out 4; have hfz20_5 := blk_frozen BK277.out 5))
                    go_ret
                    exact ⟨by first | rfl | (simp [errW_none, errW_some] <;> rfl) | (simp [*, errW_none, errW_some] <;> rfl), by repeat (first | (with_reducible first | exact HB.out | apply below_alloc | apply pw_below_drewN | apply below_drew1 | refine below_set ?_ GE277.out) | exact HB.out)⟩
                · rw [if_neg c9] at H
                  have c9b0 : decide (a0_2 ≤ 16777216) = false := decide_eq_false c9
                  clear c9
                  obtain rfl := Option.some.inj H
                  go_enter Tryz.func120, Tryz.ntmps120
                  go_wp2_with (first | ((with_reducible refine gate_dst (N := 1) rfl ?_); refine box_event ?hg (N := 1) ?hd (cs := #[.int .i64 a0_0, .int .i64 a0_1, .int .i64 a0_2, .int .i64 a0_3, .int .i64 a0_4, .int .i64 a0_5]) (t := 45) ?hr ?_; (case hd => rfl); (case hg => rfl); (case hr => first | (go_simp; done) | (go_simp; rfl)); intro gb277 hg w21 hbox hb; have n0_ := Aside0.mk (below_step (by repeat (first | (with_reducible first | exact HB.out | apply below_alloc | apply pw_below_drewN | apply below_drew1) | exact HB.out)) hb); have n1_ := Aside0.mk (hbox); have n2_ := Aside0.mk ((by rw [hg]; exact (below_size (by repeat (first | (with_reducible first | exact HB.out | apply below_alloc | apply pw_below_drewN | apply below_drew1) | exact HB.out))) : w.heap.size ≤ gb277)); have n3_ := Aside0.mk ((by rw [hg]; exact (below_size (by repeat (first | (with_reducible first | exact HB.out | apply below_alloc | apply pw_below_drewN | apply below_drew1) | exact HB.out))) : w.heap.size ≤ gb277)); clear HB; have HB := n0_; have BK277 := n1_; have GW277 := n2_; have GE277 := n3_; clear n0_ n1_ n2_ n3_; clear hb hbox hg; have hcz22_0 : w21.cell? ⟨gb277, 0, none⟩ = some (.int .i64 a0_0) := (blk_cell BK277.out 0).trans rfl; have hcz22_1 : w21.cell? ⟨gb277, 1, none⟩ = some (.int .i64 a0_1) := (blk_cell BK277.out 1).trans rfl; have hcz22_2 : w21.cell? ⟨gb277, 2, none⟩ = some (.int .i64 a0_2) := (blk_cell BK277.out 2).trans rfl; have hcz22_3 : w21.cell? ⟨gb277, 3, none⟩ = some (.int .i64 a0_3) := (blk_cell BK277.out 3).trans rfl; have hcz22_4 : w21.cell? ⟨gb277, 4, none⟩ = some (.int .i64 a0_4) := (blk_cell BK277.out 4).trans rfl; have hcz22_5 : w21.cell? ⟨gb277, 5, none⟩ = some (.int .i64 a0_5) := (blk_cell BK277.out 5).trans rfl; have hfz22_0 := blk_frozen BK277.out 0; have hfz22_1 := blk_frozen BK277.out 1; have hfz22_2 := blk_frozen BK277.out 2; have hfz22_3 := blk_frozen BK277.out 3; have hfz22_4 := blk_frozen BK277.out 4; have hfz22_5 := blk_frozen BK277.out 5))
                  go_ret
                  exact ⟨by first | rfl | (simp [errW_none, errW_some] <;> rfl) | (simp [*, errW_none, errW_some] <;> rfl), by repeat (first | (with_reducible first | exact HB.out | apply below_alloc | apply pw_below_drewN | apply below_drew1 | refine below_set ?_ GE277.out) | exact HB.out)⟩
              · rw [if_neg c8] at H
                have c8b0 : decide (0 ≤ a0_2) = false := decide_eq_false c8
                clear c8
                obtain rfl := Option.some.inj H
                go_enter Tryz.func120, Tryz.ntmps120
                go_wp2_with (first | ((with_reducible refine gate_dst (N := 1) rfl ?_); refine box_event ?hg (N := 1) ?hd (cs := #[.int .i64 a0_0, .int .i64 a0_1, .int .i64 a0_2, .int .i64 a0_3, .int .i64 a0_4, .int .i64 a0_5]) (t := 45) ?hr ?_; (case hd => rfl); (case hg => rfl); (case hr => first | (go_simp; done) | (go_simp; rfl)); intro gb277 hg w23 hbox hb; have n0_ := Aside0.mk (below_step (by repeat (first | (with_reducible first | exact HB.out | apply below_alloc | apply pw_below_drewN | apply below_drew1) | exact HB.out)) hb); have n1_ := Aside0.mk (hbox); have n2_ := Aside0.mk ((by rw [hg]; exact (below_size (by repeat (first | (with_reducible first | exact HB.out | apply below_alloc | apply pw_below_drewN | apply below_drew1) | exact HB.out))) : w.heap.size ≤ gb277)); have n3_ := Aside0.mk ((by rw [hg]; exact (below_size (by repeat (first | (with_reducible first | exact HB.out | apply below_alloc | apply pw_below_drewN | apply below_drew1) | exact HB.out))) : w.heap.size ≤ gb277)); clear HB; have HB := n0_; have BK277 := n1_; have GW277 := n2_; have GE277 := n3_; clear n0_ n1_ n2_ n3_; clear hb hbox hg; have hcz24_0 : w23.cell? ⟨gb277, 0, none⟩ = some (.int .i64 a0_0) := (blk_cell BK277.out 0).trans rfl; have hcz24_1 : w23.cell? ⟨gb277, 1, none⟩ = some (.int .i64 a0_1) := (blk_cell BK277.out 1).trans rfl; have hcz24_2 : w23.cell? ⟨gb277, 2, none⟩ = some (.int .i64 a0_2) := (blk_cell BK277.out 2).trans rfl; have hcz24_3 : w23.cell? ⟨gb277, 3, none⟩ = some (.int .i64 a0_3) := (blk_cell BK277.out 3).trans rfl; have hcz24_4 : w23.cell? ⟨gb277, 4, none⟩ = some (.int .i64 a0_4) := (blk_cell BK277.out 4).trans rfl; have hcz24_5 : w23.cell? ⟨gb277, 5, none⟩ = some (.int .i64 a0_5) := (blk_cell BK277.out 5).trans rfl; have hfz24_0 := blk_frozen BK277.out 0; have hfz24_1 := blk_frozen BK277.out 1; have hfz24_2 := blk_frozen BK277.out 2; have hfz24_3 := blk_frozen BK277.out 3; have hfz24_4 := blk_frozen BK277.out 4; have hfz24_5 := blk_frozen BK277.out 5))
                go_ret
                exact ⟨by first | rfl | (simp [errW_none, errW_some] <;> rfl) | (simp [*, errW_none, errW_some] <;> rfl), by repeat (first | (with_reducible first | exact HB.out | apply below_alloc | apply pw_below_drewN | apply below_drew1 | refine below_set ?_ GE277.out) | exact HB.out)⟩
            · rw [if_neg c7] at H
              have c7b0 : decide (a0_3 < 8) = false := decide_eq_false c7
              clear c7
              obtain rfl := Option.some.inj H
              go_enter Tryz.func120, Tryz.ntmps120
              go_wp2_with (first | ((with_reducible refine gate_dst (N := 1) rfl ?_); refine box_event ?hg (N := 1) ?hd (cs := #[.int .i64 a0_0, .int .i64 a0_1, .int .i64 a0_2, .int .i64 a0_3, .int .i64 a0_4, .int .i64 a0_5]) (t := 45) ?hr ?_; (case hd => rfl); (case hg => rfl); (case hr => first | (go_simp; done) | (go_simp; rfl)); intro gb277 hg w25 hbox hb; have n0_ := Aside0.mk (below_step (by repeat (first | (with_reducible first | exact HB.out | apply below_alloc | apply pw_below_drewN | apply below_drew1) | exact HB.out)) hb); have n1_ := Aside0.mk (hbox); have n2_ := Aside0.mk ((by rw [hg]; exact (below_size (by repeat (first | (with_reducible first | exact HB.out | apply below_alloc | apply pw_below_drewN | apply below_drew1) | exact HB.out))) : w.heap.size ≤ gb277)); have n3_ := Aside0.mk ((by rw [hg]; exact (below_size (by repeat (first | (with_reducible first | exact HB.out | apply below_alloc | apply pw_below_drewN | apply below_drew1) | exact HB.out))) : w.heap.size ≤ gb277)); clear HB; have HB := n0_; have BK277 := n1_; have GW277 := n2_; have GE277 := n3_; clear n0_ n1_ n2_ n3_; clear hb hbox hg; have hcz26_0 : w25.cell? ⟨gb277, 0, none⟩ = some (.int .i64 a0_0) := (blk_cell BK277.out 0).trans rfl; have hcz26_1 : w25.cell? ⟨gb277, 1, none⟩ = some (.int .i64 a0_1) := (blk_cell BK277.out 1).trans rfl; have hcz26_2 : w25.cell? ⟨gb277, 2, none⟩ = some (.int .i64 a0_2) := (blk_cell BK277.out 2).trans rfl; have hcz26_3 : w25.cell? ⟨gb277, 3, none⟩ = some (.int .i64 a0_3) := (blk_cell BK277.out 3).trans rfl; have hcz26_4 : w25.cell? ⟨gb277, 4, none⟩ = some (.int .i64 a0_4) := (blk_cell BK277.out 4).trans rfl; have hcz26_5 : w25.cell? ⟨gb277, 5, none⟩ = some (.int .i64 a0_5) := (blk_cell BK277.out 5).trans rfl; have hfz26_0 := blk_frozen BK277.out 0; have hfz26_1 := blk_frozen BK277.out 1; have hfz26_2 := blk_frozen BK277.out 2; have hfz26_3 := blk_frozen BK277.out 3; have hfz26_4 := blk_frozen BK277.out 4; have hfz26_5 := blk_frozen BK277.out 5))
              go_ret
              exact ⟨by first | rfl | (simp [errW_none, errW_some] <;> rfl) | (simp [*, errW_none, errW_some] <;> rfl), by repeat (first | (with_reducible first | exact HB.out | apply below_alloc | apply pw_below_drewN | apply below_drew1 | refine below_set ?_ GE277.out) | exact HB.out)⟩
          · rw [if_neg c6] at H
            have c6b0 : decide (0 ≤ a0_3) = false := decide_eq_false c6
            clear c6
            obtain rfl := Option.some.inj H
            go_enter Tryz.func120, Tryz.ntmps120
            go_wp2_with (first | ((with_reducible refine gate_dst (N := 1) rfl ?_); refine box_event ?hg (N := 1) ?hd (cs := #[.int .i64 a0_0, .int .i64 a0_1, .int .i64 a0_2, .int .i64 a0_3, .int .i64 a0_4, .int .i64 a0_5]) (t := 45) ?hr ?_; (case hd => rfl); (case hg => rfl); (case hr => first | (go_simp; done) | (go_simp; rfl)); intro gb277 hg w27 hbox hb; have n0_ := Aside0.mk (below_step (by repeat (first | (with_reducible first | exact HB.out | apply below_alloc | apply pw_below_drewN | apply below_drew1) | exact HB.out)) hb); have n1_ := Aside0.mk (hbox); have n2_ := Aside0.mk ((by rw [hg]; exact (below_size (by repeat (first | (with_reducible first | exact HB.out | apply below_alloc | apply pw_below_drewN | apply below_drew1) | exact HB.out))) : w.heap.size ≤ gb277)); have n3_ := Aside0.mk ((by rw [hg]; exact (below_size (by repeat (first | (with_reducible first | exact HB.out | apply below_alloc | apply pw_below_drewN | apply below_drew1) | exact HB.out))) : w.heap.size ≤ gb277)); clear HB; have HB := n0_; have BK277 := n1_; have GW277 := n2_; have GE277 := n3_; clear n0_ n1_ n2_ n3_; clear hb hbox hg; have hcz28_0 : w27.cell? ⟨gb277, 0, none⟩ = some (.int .i64 a0_0) := (blk_cell BK277.out 0).trans rfl; have hcz28_1 : w27.cell? ⟨gb277, 1, none⟩ = some (.int .i64 a0_1) := (blk_cell BK277.out 1).trans rfl; have hcz28_2 : w27.cell? ⟨gb277, 2, none⟩ = some (.int .i64 a0_2) := (blk_cell BK277.out 2).trans rfl; have hcz28_3 : w27.cell? ⟨gb277, 3, none⟩ = some (.int .i64 a0_3) := (blk_cell BK277.out 3).trans rfl; have hcz28_4 : w27.cell? ⟨gb277, 4, none⟩ = some (.int .i64 a0_4) := (blk_cell BK277.out 4).trans rfl; have hcz28_5 : w27.cell? ⟨gb277, 5, none⟩ = some (.int .i64 a0_5) := (blk_cell BK277.out 5).trans rfl; have hfz28_0 := blk_frozen BK277.out 0; have hfz28_1 := blk_frozen BK277.out 1; have hfz28_2 := blk_frozen BK277.out 2; have hfz28_3 := blk_frozen BK277.out 3; have hfz28_4 := blk_frozen BK277.out 4; have hfz28_5 := blk_frozen BK277.out 5))
            go_ret
            exact ⟨by first | rfl | (simp [errW_none, errW_some] <;> rfl) | (simp [*, errW_none, errW_some] <;> rfl), by repeat (first | (with_reducible first | exact HB.out | apply below_alloc | apply pw_below_drewN | apply below_drew1 | refine below_set ?_ GE277.out) | exact HB.out)⟩
        · rw [if_neg c5] at H
          have c5b0 : decide (a0_1 < 8) = false := decide_eq_false c5
          clear c5
          obtain rfl := Option.some.inj H
          go_enter Tryz.func120, Tryz.ntmps120
          go_wp2_with (first | ((with_reducible refine gate_dst (N := 1) rfl ?_); refine box_event ?hg (N := 1) ?hd (cs := #[.int .i64 a0_0, .int .i64 a0_1, .int .i64 a0_2, .int .i64 a0_3, .int .i64 a0_4, .int .i64 a0_5]) (t := 45) ?hr ?_; (case hd => rfl); (case hg => rfl); (case hr => first | (go_simp; done) | (go_simp; rfl)); intro gb277 hg w29 hbox hb; have n0_ := Aside0.mk (below_step (by repeat (first | (with_reducible first | exact HB.out | apply below_alloc | apply pw_below_drewN | apply below_drew1) | exact HB.out)) hb); have n1_ := Aside0.mk (hbox); have n2_ := Aside0.mk ((by rw [hg]; exact (below_size (by repeat (first | (with_reducible first | exact HB.out | apply below_alloc | apply pw_below_drewN | apply below_drew1) | exact HB.out))) : w.heap.size ≤ gb277)); have n3_ := Aside0.mk ((by rw [hg]; exact (below_size (by repeat (first | (with_reducible first | exact HB.out | apply below_alloc | apply pw_below_drewN | apply below_drew1) | exact HB.out))) : w.heap.size ≤ gb277)); clear HB; have HB := n0_; have BK277 := n1_; have GW277 := n2_; have GE277 := n3_; clear n0_ n1_ n2_ n3_; clear hb hbox hg; have hcz30_0 : w29.cell? ⟨gb277, 0, none⟩ = some (.int .i64 a0_0) := (blk_cell BK277.out 0).trans rfl; have hcz30_1 : w29.cell? ⟨gb277, 1, none⟩ = some (.int .i64 a0_1) := (blk_cell BK277.out 1).trans rfl; have hcz30_2 : w29.cell? ⟨gb277, 2, none⟩ = some (.int .i64 a0_2) := (blk_cell BK277.out 2).trans rfl; have hcz30_3 : w29.cell? ⟨gb277, 3, none⟩ = some (.int .i64 a0_3) := (blk_cell BK277.out 3).trans rfl; have hcz30_4 : w29.cell? ⟨gb277, 4, none⟩ = some (.int .i64 a0_4) := (blk_cell BK277.out 4).trans rfl; have hcz30_5 : w29.cell? ⟨gb277, 5, none⟩ = some (.int .i64 a0_5) := (blk_cell BK277.out 5).trans rfl; have hfz30_0 := blk_frozen BK277.out 0; have hfz30_1 := blk_frozen BK277.out 1; have hfz30_2 := blk_frozen BK277.out 2; have hfz30_3 := blk_frozen BK277.out 3; have hfz30_4 := blk_frozen BK277.out 4; have hfz30_5 := blk_frozen BK277.out 5))
          go_ret
          exact ⟨by first | rfl | (simp [errW_none, errW_some] <;> rfl) | (simp [*, errW_none, errW_some] <;> rfl), by repeat (first | (with_reducible first | exact HB.out | apply below_alloc | apply pw_below_drewN | apply below_drew1 | refine below_set ?_ GE277.out) | exact HB.out)⟩
      · rw [if_neg c4] at H
        have c4b0 : decide (0 ≤ a0_1) = false := decide_eq_false c4
        clear c4
        obtain rfl := Option.some.inj H
        go_enter Tryz.func120, Tryz.ntmps120
        go_wp2_with (first | ((with_reducible refine gate_dst (N := 1) rfl ?_); refine box_event ?hg (N := 1) ?hd (cs := #[.int .i64 a0_0, .int .i64 a0_1, .int .i64 a0_2, .int .i64 a0_3, .int .i64 a0_4, .int .i64 a0_5]) (t := 45) ?hr ?_; (case hd => rfl); (case hg => rfl); (case hr => first | (go_simp; done) | (go_simp; rfl)); intro gb277 hg w31 hbox hb; have n0_ := Aside0.mk (below_step (by repeat (first | (with_reducible first | exact HB.out | apply below_alloc | apply pw_below_drewN | apply below_drew1) | exact HB.out)) hb); have n1_ := Aside0.mk (hbox); have n2_ := Aside0.mk ((by rw [hg]; exact (below_size (by repeat (first | (with_reducible first | exact HB.out | apply below_alloc | apply pw_below_drewN | apply below_drew1) | exact HB.out))) : w.heap.size ≤ gb277)); have n3_ := Aside0.mk ((by rw [hg]; exact (below_size (by repeat (first | (with_reducible first | exact HB.out | apply below_alloc | apply pw_below_drewN | apply below_drew1) | exact HB.out))) : w.heap.size ≤ gb277)); clear HB; have HB := n0_; have BK277 := n1_; have GW277 := n2_; have GE277 := n3_; clear n0_ n1_ n2_ n3_; clear hb hbox hg; have hcz32_0 : w31.cell? ⟨gb277, 0, none⟩ = some (.int .i64 a0_0) := (blk_cell BK277.out 0).trans rfl; have hcz32_1 : w31.cell? ⟨gb277, 1, none⟩ = some (.int .i64 a0_1) := (blk_cell BK277.out 1).trans rfl; have hcz32_2 : w31.cell? ⟨gb277, 2, none⟩ = some (.int .i64 a0_2) := (blk_cell BK277.out 2).trans rfl; have hcz32_3 : w31.cell? ⟨gb277, 3, none⟩ = some (.int .i64 a0_3) := (blk_cell BK277.out 3).trans rfl; have hcz32_4 : w31.cell? ⟨gb277, 4, none⟩ = some (.int .i64 a0_4) := (blk_cell BK277.out 4).trans rfl; have hcz32_5 : w31.cell? ⟨gb277, 5, none⟩ = some (.int .i64 a0_5) := (blk_cell BK277.out 5).trans rfl; have hfz32_0 := blk_frozen BK277.out 0; have hfz32_1 := blk_frozen BK277.out 1; have hfz32_2 := blk_frozen BK277.out 2; have hfz32_3 := blk_frozen BK277.out 3; have hfz32_4 := blk_frozen BK277.out 4; have hfz32_5 := blk_frozen BK277.out 5))
        go_ret
        exact ⟨by first | rfl | (simp [errW_none, errW_some] <;> rfl) | (simp [*, errW_none, errW_some] <;> rfl), by repeat (first | (with_reducible first | exact HB.out | apply below_alloc | apply pw_below_drewN | apply below_drew1 | refine below_set ?_ GE277.out) | exact HB.out)⟩
    · rw [if_neg c3] at H
      have c3b0 : decide (a0_0 < 8) = false := decide_eq_false c3
      clear c3
      obtain rfl := Option.some.inj H
      go_enter Tryz.func120, Tryz.ntmps120
      go_wp2_with (first | ((with_reducible refine gate_dst (N := 1) rfl ?_); refine box_event ?hg (N := 1) ?hd (cs := #[.int .i64 a0_0, .int .i64 a0_1, .int .i64 a0_2, .int .i64 a0_3, .int .i64 a0_4, .int .i64 a0_5]) (t := 45) ?hr ?_; (case hd => rfl); (case hg => rfl); (case hr => first | (go_simp; done) | (go_simp; rfl)); intro gb277 hg w33 hbox hb; have n0_ := Aside0.mk (below_step (by repeat (first | (with_reducible first | exact HB.out | apply below_alloc | apply pw_below_drewN | apply below_drew1) | exact HB.out)) hb); have n1_ := Aside0.mk (hbox); have n2_ := Aside0.mk ((by rw [hg]; exact (below_size (by repeat (first | (with_reducible first | exact HB.out | apply below_alloc | apply pw_below_drewN | apply below_drew1) | exact HB.out))) : w.heap.size ≤ gb277)); have n3_ := Aside0.mk ((by rw [hg]; exact (below_size (by repeat (first | (with_reducible first | exact HB.out | apply below_alloc | apply pw_below_drewN | apply below_drew1) | exact HB.out))) : w.heap.size ≤ gb277)); clear HB; have HB := n0_; have BK277 := n1_; have GW277 := n2_; have GE277 := n3_; clear n0_ n1_ n2_ n3_; clear hb hbox hg; have hcz34_0 : w33.cell? ⟨gb277, 0, none⟩ = some (.int .i64 a0_0) := (blk_cell BK277.out 0).trans rfl; have hcz34_1 : w33.cell? ⟨gb277, 1, none⟩ = some (.int .i64 a0_1) := (blk_cell BK277.out 1).trans rfl; have hcz34_2 : w33.cell? ⟨gb277, 2, none⟩ = some (.int .i64 a0_2) := (blk_cell BK277.out 2).trans rfl; have hcz34_3 : w33.cell? ⟨gb277, 3, none⟩ = some (.int .i64 a0_3) := (blk_cell BK277.out 3).trans rfl; have hcz34_4 : w33.cell? ⟨gb277, 4, none⟩ = some (.int .i64 a0_4) := (blk_cell BK277.out 4).trans rfl; have hcz34_5 : w33.cell? ⟨gb277, 5, none⟩ = some (.int .i64 a0_5) := (blk_cell BK277.out 5).trans rfl; have hfz34_0 := blk_frozen BK277.out 0; have hfz34_1 := blk_frozen BK277.out 1; have hfz34_2 := blk_frozen BK277.out 2; have hfz34_3 := blk_frozen BK277.out 3; have hfz34_4 := blk_frozen BK277.out 4; have hfz34_5 := blk_frozen BK277.out 5))
      go_ret
      exact ⟨by first | rfl | (simp [errW_none, errW_some] <;> rfl) | (simp [*, errW_none, errW_some] <;> rfl), by repeat (first | (with_reducible first | exact HB.out | apply below_alloc | apply pw_below_drewN | apply below_drew1 | refine below_set ?_ GE277.out) | exact HB.out)⟩
  · rw [if_neg c2] at H
    have c2b0 : decide (0 ≤ a0_0) = false := decide_eq_false c2
    clear c2
    obtain rfl := Option.some.inj H
    go_enter Tryz.func120, Tryz.ntmps120
    go_wp2_with (first | ((with_reducible refine gate_dst (N := 1) rfl ?_); refine box_event ?hg (N := 1) ?hd (cs := #[.int .i64 a0_0, .int .i64 a0_1, .int .i64 a0_2, .int .i64 a0_3, .int .i64 a0_4, .int .i64 a0_5]) (t := 45) ?hr ?_; (case hd => rfl); (case hg => rfl); (case hr => first | (go_simp; done) | (go_simp; rfl)); intro gb277 hg w35 hbox hb; have n0_ := Aside0.mk (below_step (by repeat (first | (with_reducible first | exact HB.out | apply below_alloc | apply pw_below_drewN | apply below_drew1) | exact HB.out)) hb); have n1_ := Aside0.mk (hbox); have n2_ := Aside0.mk ((by rw [hg]; exact (below_size (by repeat (first | (with_reducible first | exact HB.out | apply below_alloc | apply pw_below_drewN | apply below_drew1) | exact HB.out))) : w.heap.size ≤ gb277)); have n3_ := Aside0.mk ((by rw [hg]; exact (below_size (by repeat (first | (with_reducible first | exact HB.out | apply below_alloc | apply pw_below_drewN | apply below_drew1) | exact HB.out))) : w.heap.size ≤ gb277)); clear HB; have HB := n0_; have BK277 := n1_; have GW277 := n2_; have GE277 := n3_; clear n0_ n1_ n2_ n3_; clear hb hbox hg; have hcz36_0 : w35.cell? ⟨gb277, 0, none⟩ = some (.int .i64 a0_0) := (blk_cell BK277.out 0).trans rfl; have hcz36_1 : w35.cell? ⟨gb277, 1, none⟩ = some (.int .i64 a0_1) := (blk_cell BK277.out 1).trans rfl; have hcz36_2 : w35.cell? ⟨gb277, 2, none⟩ = some (.int .i64 a0_2) := (blk_cell BK277.out 2).trans rfl; have hcz36_3 : w35.cell? ⟨gb277, 3, none⟩ = some (.int .i64 a0_3) := (blk_cell BK277.out 3).trans rfl; have hcz36_4 : w35.cell? ⟨gb277, 4, none⟩ = some (.int .i64 a0_4) := (blk_cell BK277.out 4).trans rfl; have hcz36_5 : w35.cell? ⟨gb277, 5, none⟩ = some (.int .i64 a0_5) := (blk_cell BK277.out 5).trans rfl; have hfz36_0 := blk_frozen BK277.out 0; have hfz36_1 := blk_frozen BK277.out 1; have hfz36_2 := blk_frozen BK277.out 2; have hfz36_3 := blk_frozen BK277.out 3; have hfz36_4 := blk_frozen BK277.out 4; have hfz36_5 := blk_frozen BK277.out 5))
    go_ret
    exact ⟨by first | rfl | (simp [errW_none, errW_some] <;> rfl) | (simp [*, errW_none, errW_some] <;> rfl), by repeat (first | (with_reducible first | exact HB.out | apply below_alloc | apply pw_below_drewN | apply below_drew1 | refine below_set ?_ GE277.out) | exact HB.out)⟩
mutual
def ref_closed.l0 : Nat → List (List Int) → Int → Int → Option (Bool)
  | 0, _, _, _ => none
  | k + 1, x0, x3, x4 => if x4 < x3 then (ref_closed.l1 k x0 x3 x4 0) else (some true)
def ref_closed.l1 : Nat → List (List Int) → Int → Int → Int → Option (Bool)
  | 0, _, _, _, _ => none
  | k + 1, x0, x3, x4, x5 => if x5 < x3 then (ref_closed.l2 k x0 x3 x4 x5 0) else (ref_closed.l0 k x0 x3 (wrap64 (x4 + 1)))
def ref_closed.l2 : Nat → List (List Int) → Int → Int → Int → Int → Option (Bool)
  | 0, _, _, _, _, _ => none
  | k + 1, x0, x3, x4, x5, x6 => if x6 < x3 then (if 0 ≤ x4 then (if x4 < (x0.length : Int) then (if 0 ≤ x6 then (if x6 < ((rd_L1 x0 x4).length : Int) then (if 0 ≤ x5 then (if x5 < ((rd_L1 x0 x4).length : Int) then (if x5 < (x0.length : Int) then (if x6 < ((rd_L1 x0 x5).length : Int) then (if (rd (rd_L1 x0 x4) x6) > (wrap64 ((rd (rd_L1 x0 x4) x5) + (rd (rd_L1 x0 x5) x6))) then (some false) else (ref_closed.l2 k x0 x3 x4 x5 (wrap64 (x6 + 1)))) else (none)) else (none)) else (none)) else (none)) else (none)) else (none)) else (none)) else (none)) else (ref_closed.l1 k x0 x3 x4 (wrap64 (x5 + 1)))
end
def ref_closed.f (k : Nat) (l0 : List (List Int)) : Option (Bool) := ref_closed.l0 k l0 (l0.length : Int) 0
theorem ref_closed.mono_l : ∀ k, (∀ y0 y1 y2, LeO (ref_closed.l0 k y0 y1 y2) (ref_closed.l0 (k + 1) y0 y1 y2)) ∧ (∀ y0 y1 y2 y3, LeO (ref_closed.l1 k y0 y1 y2 y3) (ref_closed.l1 (k + 1) y0 y1 y2 y3)) ∧ (∀ y0 y1 y2 y3 y4, LeO (ref_closed.l2 k y0 y1 y2 y3 y4) (ref_closed.l2 (k + 1) y0 y1 y2 y3 y4))
  | 0 => ⟨fun _ _ _ r h => by simp [ref_closed.l0] at h, fun _ _ _ _ r h => by simp [ref_closed.l1] at h, fun _ _ _ _ _ r h => by simp [ref_closed.l2] at h⟩
  | k + 1 => by
    obtain ⟨ih0, ih1, ih2⟩ := ref_closed.mono_l k
    refine ⟨?_, ?_, ?_⟩
    · intro y0 y1 y2
      unfold ref_closed.l0
      repeat' first
      | (with_reducible exact ih0 _ _ _)
      | (with_reducible exact ih1 _ _ _ _)
      | (with_reducible exact ih2 _ _ _ _ _)
      | (with_reducible exact LeO.refl _)
      | (with_reducible exact LeO.none _)
      | (with_reducible refine LeO.ite ?_ ?_)
      | (with_reducible refine LeO.bind ?_ (fun _ => ?_))
      | exact ih0 _ _ _
      | exact ih1 _ _ _ _
      | exact ih2 _ _ _ _ _
      | exact LeO.none _
      | refine LeO.ite ?_ ?_
      | refine LeO.bind ?_ (fun _ => ?_)
    · intro y0 y1 y2 y3
      unfold ref_closed.l1
      repeat' first
      | (with_reducible exact ih0 _ _ _)
      | (with_reducible exact ih1 _ _ _ _)
      | (with_reducible exact ih2 _ _ _ _ _)
      | (with_reducible exact LeO.refl _)
      | (with_reducible exact LeO.none _)
      | (with_reducible refine LeO.ite ?_ ?_)
      | (with_reducible refine LeO.bind ?_ (fun _ => ?_))
      | exact ih0 _ _ _
      | exact ih1 _ _ _ _
      | exact ih2 _ _ _ _ _
      | exact LeO.none _
      | refine LeO.ite ?_ ?_
      | refine LeO.bind ?_ (fun _ => ?_)
    · intro y0 y1 y2 y3 y4
      unfold ref_closed.l2
      repeat' first
      | (with_reducible exact ih0 _ _ _)
      | (with_reducible exact ih1 _ _ _ _)
      | (with_reducible exact ih2 _ _ _ _ _)
      | (with_reducible exact LeO.refl _)
      | (with_reducible exact LeO.none _)
      | (with_reducible refine LeO.ite ?_ ?_)
      | (with_reducible refine LeO.bind ?_ (fun _ => ?_))
      | exact ih0 _ _ _
      | exact ih1 _ _ _ _
      | exact ih2 _ _ _ _ _
      | exact LeO.none _
      | refine LeO.ite ?_ ?_
      | refine LeO.bind ?_ (fun _ => ?_)
theorem ref_closed.mono : ∀ a0 k, LeO (ref_closed.f k a0) (ref_closed.f (k + 1) a0) := by
  intro a0 k
  obtain ⟨ih0, ih1, ih2⟩ := ref_closed.mono_l k
  unfold ref_closed.f
  repeat' first
      | (with_reducible exact ih0 _ _ _)
      | (with_reducible exact ih1 _ _ _ _)
      | (with_reducible exact ih2 _ _ _ _ _)
      | (with_reducible exact LeO.refl _)
      | (with_reducible exact LeO.none _)
      | (with_reducible refine LeO.ite ?_ ?_)
      | (with_reducible refine LeO.bind ?_ (fun _ => ?_))
      | exact ih0 _ _ _
      | exact ih1 _ _ _ _
      | exact ih2 _ _ _ _ _
      | exact LeO.none _
      | refine LeO.ite ?_ ?_
      | refine LeO.bind ?_ (fun _ => ?_)
set_option maxHeartbeats 8000000 in
set_option maxRecDepth 100000 in
theorem ref_closed.calls (k : Nat) (A0 : Option Addr) (c0 : Nat) (l0 : List (List Int)) (r : Bool) (w : World) (hr0 : Kd.C (Kd.slice 3 (Kd.int .i64)) w A0 l0.length l0) (hc0 : l0.length ≤ c0) (h : ref_closed.f k l0 = some r) :
    Calls Tryz.prog 121 #[.slice A0 l0.length c0] w fun e w' => e = .returned (.bool r) ∧ Drawn0 w w' := by
  have HR0 := Aside0.mk hr0
  have HC0 := Aside0.mk hc0
  clear hr0 hc0
  have H : (ref_closed.l0 k l0 (l0.length : Int) 0) = some r := h
  clear h
  have H' := Aside0.mk H
  clear H
  go_enter Tryz.func121, Tryz.ntmps121
  go_wp2
  repeat (go_quiet (fail); try go_wp2)
  go_loopg [4] k (fun kq v4 w' => ∃ (x4_1 : Int), v4 = .int .i64 x4_1 ∧ Aside0 (ref_closed.l0 kq l0 (l0.length : Int) x4_1 = some r) ∧ Aside0 (kq ≤ k) ∧ Drawn0 w w')
  case atStart => exact ⟨(0), (by first | rfl | (simp; done) | (simp [*]; done)), H', ⟨Nat.le_refl _⟩, by repeat (first | exact Drawn0.refl _ | apply Drawn0.step)⟩
  case round =>
    clear H'
    try clear c1
    obtain ⟨x4_1, rfl, HA, HK1, ⟨m1, rfl⟩⟩ := hrel
    cases gk with
    | zero => exact absurd HA.out (by simp [ref_closed.l0])
    | succ k1 =>
      have H := HA.out
      clear HA
      simp only [ref_closed.l0] at H
      by_cases c2 : x4_1 < (l0.length : Int)
      · rw [if_pos c2] at H
        have c2b0 : decide (x4_1 < (l0.length : Int)) = true := decide_eq_true c2
        clear c2
        have H' := Aside0.mk H
        clear H
        go_wp2
        repeat (go_quiet (fail); try go_wp2)
        go_loopg [5] k1 (fun kq v5 w' => ∃ (x5_2 : Int), v5 = .int .i64 x5_2 ∧ Aside0 (ref_closed.l1 kq l0 (l0.length : Int) x4_1 x5_2 = some r) ∧ Aside0 (kq ≤ k1) ∧ Drawn0 w w')
        case atStart => exact ⟨(0), (by first | rfl | (simp; done) | (simp [*]; done)), H', ⟨Nat.le_refl _⟩, by repeat (first | exact Drawn0.refl _ | apply Drawn0.step)⟩
        case round =>
          clear H'
          try clear c1
          try clear c2
          try clear c2b0
          try clear p2
          obtain ⟨x5_2, rfl, HA, HK2, ⟨m2, rfl⟩⟩ := hrel
          cases gk with
          | zero => exact absurd HA.out (by simp [ref_closed.l1])
          | succ k2 =>
            have H := HA.out
            clear HA
            simp only [ref_closed.l1] at H
            by_cases c3 : x5_2 < (l0.length : Int)
            · rw [if_pos c3] at H
              have c3b0 : decide (x5_2 < (l0.length : Int)) = true := decide_eq_true c3
              clear c3
              have H' := Aside0.mk H
              clear H
              go_wp2
              repeat (go_quiet (fail); try go_wp2)
              go_loopg [6] k2 (fun kq v6 w' => ∃ (x6_3 : Int), v6 = .int .i64 x6_3 ∧ Aside0 (ref_closed.l2 kq l0 (l0.length : Int) x4_1 x5_2 x6_3 = some r) ∧ Aside0 (kq ≤ k2) ∧ Drawn0 w w')
              case atStart => exact ⟨(0), (by first | rfl | (simp; done) | (simp [*]; done)), H', ⟨Nat.le_refl _⟩, by repeat (first | exact Drawn0.refl _ | apply Drawn0.step)⟩
              case round =>
                clear H'
                try clear c1
                try clear c2
                try clear c2b0
                try clear p2
                try clear c3
                try clear c3b0
                try clear p2
                obtain ⟨x6_3, rfl, HA, HK3, ⟨m3, rfl⟩⟩ := hrel
                cases gk with
                | zero => exact absurd HA.out (by simp [ref_closed.l2])
                | succ k3 =>
                  have H := HA.out
                  clear HA
                  simp only [ref_closed.l2] at H
                  by_cases c4 : x6_3 < (l0.length : Int)
                  · rw [if_pos c4] at H
                    have c4b0 : decide (x6_3 < (l0.length : Int)) = true := decide_eq_true c4
                    clear c4
                    by_cases c5 : 0 ≤ x4_1
                    · rw [if_pos c5] at H
                      have c5b0 : decide (0 ≤ x4_1) = true := decide_eq_true c5
                      clear c5
                      by_cases c6 : x4_1 < (l0.length : Int)
                      · rw [if_pos c6] at H
                        have c6b0 : decide (x4_1 < (l0.length : Int)) = true := decide_eq_true c6
                        clear c6
                        by_cases c7 : 0 ≤ x6_3
                        · rw [if_pos c7] at H
                          have c7b0 : decide (0 ≤ x6_3) = true := decide_eq_true c7
                          clear c7
                          by_cases c8 : x6_3 < ((rd_L1 l0 x4_1).length : Int)
                          · rw [if_pos c8] at H
                            have c8b0 : decide (x6_3 < ((rd_L1 l0 x4_1).length : Int)) = true := decide_eq_true c8
                            clear c8
                            by_cases c9 : 0 ≤ x5_2
                            · rw [if_pos c9] at H
                              have c9b0 : decide (0 ≤ x5_2) = true := decide_eq_true c9
                              clear c9
                              by_cases c10 : x5_2 < ((rd_L1 l0 x4_1).length : Int)
                              · rw [if_pos c10] at H
                                have c10b0 : decide (x5_2 < ((rd_L1 l0 x4_1).length : Int)) = true := decide_eq_true c10
                                clear c10
                                by_cases c11 : x5_2 < (l0.length : Int)
                                · rw [if_pos c11] at H
                                  have c11b0 : decide (x5_2 < (l0.length : Int)) = true := decide_eq_true c11
                                  clear c11
                                  by_cases c12 : x6_3 < ((rd_L1 l0 x5_2).length : Int)
                                  · rw [if_pos c12] at H
                                    have c12b0 : decide (x6_3 < ((rd_L1 l0 x5_2).length : Int)) = true := decide_eq_true c12
                                    clear c12
                                    by_cases c13 : (rd (rd_L1 l0 x4_1) x6_3) > (wrap64 ((rd (rd_L1 l0 x4_1) x5_2) + (rd (rd_L1 l0 x5_2) x6_3)))
                                    · rw [if_pos c13] at H
                                      have c13b0 : decide ((wrap64 ((rd (rd_L1 l0 x4_1) x5_2) + (rd (rd_L1 l0 x5_2) x6_3))) < (rd (rd_L1 l0 x4_1) x6_3)) = true := decide_eq_true c13
                                      clear c13
                                      obtain rfl := Option.some.inj H
                                      have p278 : 0 ≤ (x4_1 : Int) := of_decide_eq_true (by first | (with_reducible assumption) | assumption)
                                      have q278 : x4_1 < (l0.length : Int) := of_decide_eq_true (by first | (with_reducible assumption) | assumption)
                                      obtain ⟨ad278, A278_0, c278_0, e278, hx278_0, hl278_0, hi278_0⟩ := at_L1 HR0.out x4_1 p278 q278
                                      cases e278
                                      have HR278_0 := Aside0.mk hi278_0
                                      have HC278_0 := Aside0.mk hl278_0
                                      clear hi278_0 hl278_0
                                      replace p278 := eq_true p278
                                      replace q278 := eq_true q278
                                      have p279 : 0 ≤ (x6_3 : Int) := of_decide_eq_true (by first | (with_reducible assumption) | assumption)
                                      have q279 : x6_3 < ((rd_L1 l0 x4_1).length : Int) := of_decide_eq_true (by first | (with_reducible assumption) | assumption)
                                      obtain ⟨ad279, e279, hx279_0⟩ := Kd.at_int HR278_0.out x6_3 p279 q279
                                      cases e279
                                      replace p279 := eq_true p279
                                      replace q279 := eq_true q279
                                      have p280 : 0 ≤ (x4_1 : Int) := of_decide_eq_true (by first | (with_reducible assumption) | assumption)
                                      have q280 : x4_1 < (l0.length : Int) := of_decide_eq_true (by first | (with_reducible assumption) | assumption)
                                      obtain ⟨ad280, A280_0, c280_0, e280, hx280_0, hl280_0, hi280_0⟩ := at_L1 HR0.out x4_1 p280 q280
                                      obtain rfl : ad278 = ad280 := (by injection e280)
                                      have HR280_0 := Aside0.mk hi280_0
                                      have HC280_0 := Aside0.mk hl280_0
                                      clear hi280_0 hl280_0
                                      replace p280 := eq_true p280
                                      replace q280 := eq_true q280
                                      have ea_ := Option.some.inj (hx278_0.symm.trans hx280_0)
                                      injection ea_ with ea_ en_ ec_
                                      subst ea_
                                      subst ec_
                                      clear en_
                                      have p281 : 0 ≤ (x5_2 : Int) := of_decide_eq_true (by first | (with_reducible assumption) | assumption)
                                      have q281 : x5_2 < ((rd_L1 l0 x4_1).length : Int) := of_decide_eq_true (by first | (with_reducible assumption) | assumption)
                                      obtain ⟨ad281, e281, hx281_0⟩ := Kd.at_int HR280_0.out x5_2 p281 q281
                                      cases e281
                                      replace p281 := eq_true p281
                                      replace q281 := eq_true q281
                                      have p282 : 0 ≤ (x5_2 : Int) := of_decide_eq_true (by first | (with_reducible assumption) | assumption)
                                      have q282 : x5_2 < (l0.length : Int) := of_decide_eq_true (by first | (with_reducible assumption) | assumption)
                                      obtain ⟨ad282, A282_0, c282_0, e282, hx282_0, hl282_0, hi282_0⟩ := at_L1 HR0.out x5_2 p282 q282
                                      obtain rfl : ad278 = ad282 := (by injection e282)
                                      have HR282_0 := Aside0.mk hi282_0
                                      have HC282_0 := Aside0.mk hl282_0
                                      clear hi282_0 hl282_0
                                      replace p282 := eq_true p282
                                      replace q282 := eq_true q282
                                      have p283 : 0 ≤ (x6_3 : Int) := of_decide_eq_true (by first | (with_reducible assumption) | assumption)
                                      have q283 : x6_3 < ((rd_L1 l0 x5_2).length : Int) := of_decide_eq_true (by first | (with_reducible assumption) | assumption)
                                      obtain ⟨ad283, e283, hx283_0⟩ := Kd.at_int HR282_0.out x6_3 p283 q283
                                      cases e283
                                      replace p283 := eq_true p283
                                      replace q283 := eq_true q283
                                      go_wp2
                                      repeat (go_quiet (fail); try go_wp2)
                                      go_ret
                                      exact ⟨by first | rfl | (simp; done) | (simp [*]; done), by repeat (first | exact Drawn0.refl _ | apply Drawn0.step)⟩
                                    · rw [if_neg c13] at H
                                      have c13b0 : decide ((wrap64 ((rd (rd_L1 l0 x4_1) x5_2) + (rd (rd_L1 l0 x5_2) x6_3))) < (rd (rd_L1 l0 x4_1) x6_3)) = false := decide_eq_false c13
                                      clear c13
                                      have H' := Aside0.mk H
                                      clear H
                                      have p278 : 0 ≤ (x4_1 : Int) := of_decide_eq_true (by first | (with_reducible assumption) | assumption)
                                      have q278 : x4_1 < (l0.length : Int) := of_decide_eq_true (by first | (with_reducible assumption) | assumption)
                                      obtain ⟨ad278, A278_0, c278_0, e278, hx278_0, hl278_0, hi278_0⟩ := at_L1 HR0.out x4_1 p278 q278
                                      cases e278
                                      have HR278_0 := Aside0.mk hi278_0
                                      have HC278_0 := Aside0.mk hl278_0
                                      clear hi278_0 hl278_0
                                      replace p278 := eq_true p278
                                      replace q278 := eq_true q278
                                      have p279 : 0 ≤ (x6_3 : Int) := of_decide_eq_true (by first | (with_reducible assumption) | assumption)
                                      have q279 : x6_3 < ((rd_L1 l0 x4_1).length : Int) := of_decide_eq_true (by first | (with_reducible assumption) | assumption)
                                      obtain ⟨ad279, e279, hx279_0⟩ := Kd.at_int HR278_0.out x6_3 p279 q279
                                      cases e279
                                      replace p279 := eq_true p279
                                      replace q279 := eq_true q279
                                      have p280 : 0 ≤ (x4_1 : Int) := of_decide_eq_true (by first | (with_reducible assumption) | assumption)
                                      have q280 : x4_1 < (l0.length : Int) := of_decide_eq_true (by first | (with_reducible assumption) | assumption)
                                      obtain ⟨ad280, A280_0, c280_0, e280, hx280_0, hl280_0, hi280_0⟩ := at_L1 HR0.out x4_1 p280 q280
                                      obtain rfl : ad278 = ad280 := (by injection e280)
                                      have HR280_0 := Aside0.mk hi280_0
                                      have HC280_0 := Aside0.mk hl280_0
                                      clear hi280_0 hl280_0
                                      replace p280 := eq_true p280
                                      replace q280 := eq_true q280
                                      have ea_ := Option.some.inj (hx278_0.symm.trans hx280_0)
                                      injection ea_ with ea_ en_ ec_
                                      subst ea_
                                      subst ec_
                                      clear en_
                                      have p281 : 0 ≤ (x5_2 : Int) := of_decide_eq_true (by first | (with_reducible assumption) | assumption)
                                      have q281 : x5_2 < ((rd_L1 l0 x4_1).length : Int) := of_decide_eq_true (by first | (with_reducible assumption) | assumption)
                                      obtain ⟨ad281, e281, hx281_0⟩ := Kd.at_int HR280_0.out x5_2 p281 q281
                                      cases e281
                                      replace p281 := eq_true p281
                                      replace q281 := eq_true q281
                                      have p282 : 0 ≤ (x5_2 : Int) := of_decide_eq_true (by first | (with_reducible assumption) | assumption)
                                      have q282 : x5_2 < (l0.length : Int) := of_decide_eq_true (by first | (with_reducible assumption) | assumption)
                                      obtain ⟨ad282, A282_0, c282_0, e282, hx282_0, hl282_0, hi282_0⟩ := at_L1 HR0.out x5_2 p282 q282
                                      obtain rfl : ad278 = ad282 := (by injection e282)
                                      have HR282_0 := Aside0.mk hi282_0
                                      have HC282_0 := Aside0.mk hl282_0
                                      clear hi282_0 hl282_0
                                      replace p282 := eq_true p282
                                      replace q282 := eq_true q282
                                      have p283 : 0 ≤ (x6_3 : Int) := of_decide_eq_true (by first | (with_reducible assumption) | assumption)
                                      have q283 : x6_3 < ((rd_L1 l0 x5_2).length : Int) := of_decide_eq_true (by first | (with_reducible assumption) | assumption)
                                      obtain ⟨ad283, e283, hx283_0⟩ := Kd.at_int HR282_0.out x6_3 p283 q283
                                      cases e283
                                      replace p283 := eq_true p283
                                      replace q283 := eq_true q283
                                      go_wp2
                                      repeat (go_quiet (fail); try go_wp2)
                                      go_roundg k3
                                      case measure => have := HK1.out; have := HK2.out; have := HK3.out; omega
                                      case rel => exact ⟨(wrap64 (x6_3 + 1)), (by first | rfl | (simp; done) | (simp [*]; done)), H', ⟨by have := HK1.out; have := HK2.out; have := HK3.out; omega⟩, by repeat (first | exact Drawn0.refl _ | apply Drawn0.step)⟩
                                  · rw [if_neg c12] at H
                                    exact absurd H (by simp)
                                · rw [if_neg c11] at H
                                  exact absurd H (by simp)
                              · rw [if_neg c10] at H
                                exact absurd H (by simp)
                            · rw [if_neg c9] at H
                              exact absurd H (by simp)
                          · rw [if_neg c8] at H
                            exact absurd H (by simp)
                        · rw [if_neg c7] at H
                          exact absurd H (by simp)
                      · rw [if_neg c6] at H
                        exact absurd H (by simp)
                    · rw [if_neg c5] at H
                      exact absurd H (by simp)
                  · rw [if_neg c4] at H
                    have c4b0 : decide (x6_3 < (l0.length : Int)) = false := decide_eq_false c4
                    clear c4
                    have H' := Aside0.mk H
                    clear H
                    go_wp2
                    repeat (go_quiet (fail); try go_wp2)
                    go_roundg k3
                    case measure => have := HK1.out; have := HK2.out; have := HK3.out; omega
                    case rel => exact ⟨(wrap64 (x5_2 + 1)), (by first | rfl | (simp; done) | (simp [*]; done)), H', ⟨by have := HK1.out; have := HK2.out; have := HK3.out; omega⟩, by repeat (first | exact Drawn0.refl _ | apply Drawn0.step)⟩
            · rw [if_neg c3] at H
              have c3b0 : decide (x5_2 < (l0.length : Int)) = false := decide_eq_false c3
              clear c3
              have H' := Aside0.mk H
              clear H
              go_wp2
              repeat (go_quiet (fail); try go_wp2)
              go_roundg k2
              case measure => have := HK1.out; have := HK2.out; omega
              case rel => exact ⟨(wrap64 (x4_1 + 1)), (by first | rfl | (simp; done) | (simp [*]; done)), H', ⟨by have := HK1.out; have := HK2.out; omega⟩, by repeat (first | exact Drawn0.refl _ | apply Drawn0.step)⟩
      · rw [if_neg c2] at H
        have c2b0 : decide (x4_1 < (l0.length : Int)) = false := decide_eq_false c2
        clear c2
        obtain rfl := Option.some.inj H
        go_wp2
        repeat (go_quiet (fail); try go_wp2)
        go_ret
        exact ⟨by first | rfl | (simp; done) | (simp [*]; done), by repeat (first | exact Drawn0.refl _ | apply Drawn0.step)⟩
end Go.Proofs.YtflolfbkpjgjaaaGreatDoor
end
section
namespace Go.Proofs.YtflolfbkpjgjaaaGreatDoor
open Go.RowKit Go.Proofs.YtflolfbkpjgjaaaGreatDoorW.PrintWords
set_option maxHeartbeats 400000 in
set_option maxRecDepth 100000 in
theorem follows_calls_same (v : Value) (r : Ros) (i j : Int) (w : World) (hv : RosAt w v r) (V : Valid r) (i0 : 0 ≤ i) (i1 : i < r.turns.length) (j0 : 0 ≤ j) (j1 : j < r.turns.length) (h : (i != j) = false) :
    Calls Tryz.prog 99 #[v, .int .i64 i, .int .i64 j] w fun e w' => e = .returned (.bool false) ∧ Below w.heap.size w w' := by
  have hR := hv
  obtain ⟨A, c, T, d, rfl, h1, h2, h3, h4⟩ := hv
  have vf := V.frm
  have vg := V.frmtil
  have vh := V.til
  have vc := V.clocks
  have HV := Lib.hid V
  clear V
  have HR := Lib.hid hR
  clear hR
  go_enter Tryz.func99, Tryz.ntmps99
  go_wp2_with fail
  go_quiet (fail)
  go_wp2
  go_ret
  exact ⟨rfl, by repeat (first | exact Below.refl _ _ | apply below_alloc | apply pw_below_drewN | apply below_drew | refine below_set ?_ (by omega))⟩
set_option maxHeartbeats 400000 in
set_option maxRecDepth 100000 in
theorem follows_calls_gate (v : Value) (r : Ros) (i j : Int) (w : World) (hv : RosAt w v r) (V : Valid r) (i0 : 0 ≤ i) (i1 : i < r.turns.length) (j0 : 0 ≤ j) (j1 : j < r.turns.length) (h : (i != j) = true) (hg : ((tn r i).gate == (tn r j).gate) = false) :
    Calls Tryz.prog 99 #[v, .int .i64 i, .int .i64 j] w fun e w' => e = .returned (.bool false) ∧ Below w.heap.size w w' := by
  have hR := hv
  obtain ⟨A, c, T, d, rfl, h1, h2, h3, h4⟩ := hv
  obtain ⟨ad, rfl, g0, g1, g2, g3, g4, g5⟩ := CT_at h4 i i0 i1
  have vt := V.turn i i0 i1
  change w.cell? _ = some (.int .i64 (tn r i).gate) at g0
  change w.cell? _ = some (.int .i64 (tn r i).clock) at g1
  change w.cell? _ = some (.int .i64 (tn r i).frm) at g2
  change w.cell? _ = some (.int .i64 (tn r i).clock2) at g3
  change w.cell? _ = some (.int .i64 (tn r i).til) at g4
  change w.cell? _ = some (.int .i64 (tn r i).cost) at g5
  have p0 := World.block_lt_of_cell? w _ g0
  obtain ⟨ad', ex, g0x, g1x, g2x, g3x, g4x, g5x⟩ := CT_at h4 j j0 j1
  cases ex
  have vtx := V.turn j j0 j1
  change w.cell? _ = some (.int .i64 (tn r j).gate) at g0x
  change w.cell? _ = some (.int .i64 (tn r j).clock) at g1x
  change w.cell? _ = some (.int .i64 (tn r j).frm) at g2x
  change w.cell? _ = some (.int .i64 (tn r j).clock2) at g3x
  change w.cell? _ = some (.int .i64 (tn r j).til) at g4x
  change w.cell? _ = some (.int .i64 (tn r j).cost) at g5x
  have p0x := World.block_lt_of_cell? w _ g0x
  have vf := V.frm
  have vg := V.frmtil
  have vh := V.til
  have vc := V.clocks
  have HV := Lib.hid V
  clear V
  have HR := Lib.hid hR
  clear hR
  go_enter Tryz.func99, Tryz.ntmps99
  go_wp2_with fail
  go_quiet (fail)
  go_wp2
  go_ret
  exact ⟨rfl, by repeat (first | exact Below.refl _ _ | apply below_alloc | apply pw_below_drewN | apply below_drew | refine below_set ?_ (by omega))⟩
set_option maxHeartbeats 400000 in
set_option maxRecDepth 100000 in
theorem follows_calls_ask (v : Value) (r : Ros) (i j : Int) (w : World) (hv : RosAt w v r) (V : Valid r) (i0 : 0 ≤ i) (i1 : i < r.turns.length) (j0 : 0 ≤ j) (j1 : j < r.turns.length) (h : (i != j) = true) (hg : ((tn r i).gate == (tn r j).gate) = true) :
    Calls Tryz.prog 99 #[v, .int .i64 i, .int .i64 j] w fun e w' => e = .returned (.bool (decide (meetLate r i j ≤ 0))) ∧ Below w.heap.size w w' := by
  have hR := hv
  obtain ⟨A, c, T, d, rfl, h1, h2, h3, h4⟩ := hv
  obtain ⟨ad, rfl, g0, g1, g2, g3, g4, g5⟩ := CT_at h4 i i0 i1
  have vt := V.turn i i0 i1
  change w.cell? _ = some (.int .i64 (tn r i).gate) at g0
  change w.cell? _ = some (.int .i64 (tn r i).clock) at g1
  change w.cell? _ = some (.int .i64 (tn r i).frm) at g2
  change w.cell? _ = some (.int .i64 (tn r i).clock2) at g3
  change w.cell? _ = some (.int .i64 (tn r i).til) at g4
  change w.cell? _ = some (.int .i64 (tn r i).cost) at g5
  have p0 := World.block_lt_of_cell? w _ g0
  have p1 := Nat.lt_add_right 1 p0
  obtain ⟨ad', ex, g0x, g1x, g2x, g3x, g4x, g5x⟩ := CT_at h4 j j0 j1
  cases ex
  have vtx := V.turn j j0 j1
  change w.cell? _ = some (.int .i64 (tn r j).gate) at g0x
  change w.cell? _ = some (.int .i64 (tn r j).clock) at g1x
  change w.cell? _ = some (.int .i64 (tn r j).frm) at g2x
  change w.cell? _ = some (.int .i64 (tn r j).clock2) at g3x
  change w.cell? _ = some (.int .i64 (tn r j).til) at g4x
  change w.cell? _ = some (.int .i64 (tn r j).cost) at g5x
  have p0x := World.block_lt_of_cell? w _ g0x
  have p1x := Nat.lt_add_right 1 p0x
  have vf := V.frm
  have vg := V.frmtil
  have vh := V.til
  have vc := V.clocks
  have HV := Lib.hid V
  clear V
  have HR := Lib.hid hR
  clear hR
  go_enter Tryz.func99, Tryz.ntmps99
  go_wp2_with fail
  go_region_held3 (fun w' => (w'.cell? ⟨w.heap.size, 0, none⟩ = some (.int .i64 r.gates) ∧ w'.cell? ⟨w.heap.size, 1, none⟩ = some (.int .i64 r.frm) ∧ w'.cell? ⟨w.heap.size, 2, none⟩ = some (.int .i64 r.til) ∧ w'.cell? ⟨w.heap.size, 3, none⟩ = some (.slice A r.ahead.length c) ∧ w'.cell? ⟨w.heap.size, 4, none⟩ = some (.slice (some ad) r.turns.length d)) ∧ w'.cell? (ad.add (i.toNat * 6)) = some (.int .i64 (tn r i).gate) ∧ w'.cell? (ad.add (j.toNat * 6)) = some (.int .i64 (tn r j).gate)) (go_keep) (first | (go_at_call 155; refine (meet_calls _ r i j _ (HR.out.below ?_) HV.out i0 i1 j0 j1).mono ?_; (repeat (first | exact Below.refl _ _ | apply below_alloc | apply pw_below_drewN | apply below_drew)); rintro e w1 ⟨rfl, hb1⟩; obtain ⟨hc1, hf1⟩ := bcell hb1; have hz1 : w.heap.size < w1.heap.size := (by have := hb1.size; simp at this; omega); have q0 := Nat.lt_trans p0 hz1; have q0x := Nat.lt_trans p0x hz1) | (go_at_call 97; refine (never_calls _ _ _).mono ?_; rintro e w2 ⟨rfl, hb2⟩; obtain ⟨hc2, hf2⟩ := bcell hb2))
  go_wp2
  go_ret
  exact ⟨rfl, by repeat (first | exact Below.refl _ _ | apply below_alloc | apply pw_below_drewN | apply below_drew | refine below_step ?_ hb2 | refine below_step ?_ hb1)⟩
theorem follows_calls (v : Value) (r : Ros) (i j : Int) (w : World) (hv : RosAt w v r) (V : Valid r) (i0 : 0 ≤ i) (i1 : i < r.turns.length) (j0 : 0 ≤ j) (j1 : j < r.turns.length) :
    Calls Tryz.prog 99 #[v, .int .i64 i, .int .i64 j] w fun e w' => e = .returned (.bool (folB r i j)) ∧ Below w.heap.size w w' := by
  unfold folB
  by_cases h : i = j
  · rw [decide_eq_false (by omega), Bool.false_and, Bool.false_and]
    exact follows_calls_same v r i j w hv V i0 i1 j0 j1 (by rw [bne_eq_false_iff_eq]; exact h)
  · rw [decide_eq_true h, Bool.true_and]
    by_cases hg : (tn r i).gate = (tn r j).gate
    · rw [decide_eq_true hg, Bool.true_and]
      exact follows_calls_ask v r i j w hv V i0 i1 j0 j1 (by rw [bne_iff_ne]; exact h) (beq_iff_eq.2 hg)
    · rw [decide_eq_false hg, Bool.false_and]
      exact follows_calls_gate v r i j w hv V i0 i1 j0 j1 (by rw [bne_iff_ne]; exact h) (beq_eq_false_iff_ne.2 hg)
end Go.Proofs.YtflolfbkpjgjaaaGreatDoor
end
section
namespace Go.Proofs.YtflolfbkpjgjaaaGreatDoor
open Go.RowKit Go.Proofs.YtflolfbkpjgjaaaGreatDoorW.PrintWords
def PredIn (g : Nat) (lb : Array Value) (p : Int → Bool) (D : Int → Prop) (w : World) : Prop :=
  ∀ (W : World) (x : Int), D x → Below w.heap.size w W → Calls Tryz.prog g (#[.int .i64 x] ++ lb) W fun e w' => e = .returned (.bool (p x)) ∧ Below W.heap.size W w'
theorem PredIn.below {g : Nat} {lb : Array Value} {p : Int → Bool} {D : Int → Prop} {w w1 : World} (h : PredIn g lb p D w) (hb : Below w.heap.size w w1) : PredIn g lb p D w1 :=
  fun W x hx hW => h W x hx (below_step hb hW)
def CanEnter (g : Nat) : Prop := ∀ args w, (callFunc g args).run Tryz.prog w = .ok (.enter g args) w
def idxF (p : Int → Bool) (xs : List Int) : Int := if xs.any p then (xs.findIdx p : Int) else -1
theorem idxF_hit (p : Int → Bool) (xs : List Int) (k : Nat) (hk : k < xs.length) (h : p (xs.getD k 0) = true) (ha : ∀ j, j < k → p (xs.getD j 0) = false) : idxF p xs = k := by
  have e : ∀ j (hj : j < xs.length), xs.getD j 0 = xs[j] := fun j hj => by simp [List.getD_eq_getElem?_getD, List.getElem?_eq_getElem hj]
  have h1 : xs.any p = true := List.any_eq_true.2 ⟨xs[k], List.getElem_mem hk, by rw [← e k hk]; exact h⟩
  have h2 : xs.findIdx p = k := (List.findIdx_eq hk).2 ⟨by rw [← e k hk]; exact h, fun j hj => by rw [← e j (by omega)]; exact ha j hj⟩
  unfold idxF
  rw [h1, if_pos rfl, h2]
theorem idxF_miss (p : Int → Bool) (xs : List Int) (ha : ∀ j, j < xs.length → p (xs.getD j 0) = false) : idxF p xs = -1 := by
  have h1 : xs.any p = false := by
    rw [List.any_eq_false]
    intro x hx
    obtain ⟨j, hj, rfl⟩ := List.getElem_of_mem hx
    have := ha j hj
    simp [List.getD_eq_getElem?_getD, List.getElem?_eq_getElem hj] at this
    simp [this]
  unfold idxF
  rw [h1]; rfl
theorem idxF_ge (p : Int → Bool) (xs : List Int) : decide (0 ≤ idxF p xs) = xs.any p := by
  unfold idxF
  split
  · rename_i h; rw [h]; exact decide_eq_true (by omega)
  · rename_i h; rw [Bool.not_eq_true] at h; rw [h]; rfl
theorem mem_getD (xs : List Int) (k : Nat) (hk : k < xs.length) : xs.getD k 0 ∈ xs := by
  simp [List.getD_eq_getElem?_getD, List.getElem?_eq_getElem hk]
set_option maxHeartbeats 1000000 in
theorem indexFunc_calls (A : Option Addr) (c : Nat) (xs : List Int) (g : Nat) (lb : Array Value) (p : Int → Bool) (w : World) (eg : CanEnter g) (hA : CI w A xs.length xs) (hp : PredIn g lb p (fun x => x ∈ xs) w) (hbig : xs.length ≤ 9223372036854775807) :
    Calls Tryz.prog 123 #[.slice A xs.length c, .func (.func g) #[] lb] w fun e w' => e = .returned (.int .i64 (idxF p xs)) ∧ Below w.heap.size w w' := by
  have eg' : ∀ args w, (callFunc g args).run Tryz.prog w = .ok (.enter g args) w := eg
  have HA := Aside0.mk hA
  have HP := Aside0.mk hp
  clear hA hp eg
  go_enter Tryz.func123, Tryz.ntmps123
  go_wp2
  go_loopg [5, 8] (xs.length) (fun gg _ s8 wr => ∃ kk : Nat, kk ≤ xs.length ∧ xs.length - kk ≤ gg ∧ s8 = .int .i64 kk ∧ Aside0 (Below w.heap.size w wr) ∧ Aside0 (∀ j, j < kk → p (xs.getD j 0) = false))
  case atStart => exact ⟨0, Nat.zero_le _, by omega, rfl, ⟨Below.refl _ w⟩, ⟨fun j hj => absurd hj (Nat.not_lt_zero _)⟩⟩
  case round =>
    obtain ⟨kk, hkk, hg, rfl, BW, AF⟩ := hrel
    by_cases hlt : kk < xs.length
    · have hltz : (kk : Int) < (xs.length : Int) := by omega
      obtain ⟨ad, hAd, g4⟩ := CI_at (Kd.C_below HA.out BW.out) kk (by omega) (by omega)
      cases hAd
      rw [show ((kk : Nat) : Int).toNat = kk from rfl] at g4
      have hcall := HP.out wr (xs.getD kk 0) (mem_getD xs kk hlt) BW.out
      have HX : Aside0 (p (xs.getD kk 0) = true → idxF p xs = kk) := ⟨fun h => idxF_hit p xs kk hlt h AF.out⟩
      have HN : Aside0 (p (xs.getD kk 0) = false → ∀ j, j < kk + 1 → p (xs.getD j 0) = false) := ⟨fun h j hj => by
        by_cases e : j = kk
        · rw [e]; exact h
        · exact AF.out j (by omega)⟩
      generalize xs.getD kk 0 = y at *
      cases hq : p y with
      | true =>
        rw [hq] at hcall
        have HQ := Aside0.mk (HX.out hq)
        go_wp2_with (go_at_fn g; refine hcall.mono ?_; rintro e w' ⟨rfl, hb'⟩)
        go_ret
        exact ⟨by rw [HQ.out]; rfl, below_step BW.out hb'⟩
      | false =>
        rw [hq] at hcall
        have HQ := Aside0.mk (HN.out hq)
        go_wp2_with (go_at_fn g; refine hcall.mono ?_; rintro e w' ⟨rfl, hb'⟩)
        go_roundg (xs.length - (kk + 1))
        case measure => omega
        case rel => exact ⟨kk + 1, by omega, by omega, by go_num, ⟨below_step BW.out hb'⟩, HQ⟩
    · have HM : Aside0 (idxF p xs = -1) := ⟨idxF_miss p xs (fun j hj => AF.out j (by omega))⟩
      go_wp2
      go_ret
      exact ⟨by rw [HM.out]; rfl, BW.out⟩
set_option maxHeartbeats 1000000 in
theorem containsFunc_calls (A : Option Addr) (c : Nat) (xs : List Int) (g : Nat) (lb : Array Value) (p : Int → Bool) (w : World) (eg : CanEnter g) (hA : CI w A xs.length xs) (hp : PredIn g lb p (fun x => x ∈ xs) w) (hbig : xs.length ≤ 9223372036854775807) :
    Calls Tryz.prog 43 #[.slice A xs.length c, .func (.func g) #[] lb] w fun e w' => e = .returned (.bool (xs.any p)) ∧ Below w.heap.size w w' := by
  rw [← idxF_ge]
  have HA := Aside0.mk hA
  have HP := Aside0.mk hp
  have HG := Aside0.mk eg
  clear hA hp eg
  go_enter Tryz.func43, Tryz.ntmps43
  go_wp2_with (go_at_call 123; refine (indexFunc_calls A c xs g lb p _ HG.out HA.out HP.out hbig).mono ?_; rintro e w' ⟨rfl, hb'⟩)
  go_ret
  exact ⟨rfl, hb'⟩
set_option maxHeartbeats 1000000 in
theorem index_calls (A : Option Addr) (c : Nat) (xs : List Int) (v : Int) (w : World) (hA : CI w A xs.length xs) (hbig : xs.length ≤ 9223372036854775807) :
    Calls Tryz.prog 124 #[.slice A xs.length c, .int .i64 v] w fun e w' => e = .returned (.int .i64 (idxF (fun x => v == x) xs)) ∧ w = w' := by
  have HA := Aside0.mk hA
  clear hA
  go_enter Tryz.func124, Tryz.ntmps124
  go_wp2
  go_loop [5, 8] (fun _ s8 => ∃ kk : Nat, kk ≤ xs.length ∧ s8 = .int .i64 kk ∧ Aside0 (∀ j, j < kk → (v == xs.getD j 0) = false)) (fun _ s8 => xs.length - (intOf s8).toNat)
  case atStart => exact ⟨0, Nat.zero_le _, rfl, ⟨fun j hj => absurd hj (Nat.not_lt_zero _)⟩⟩
  case round =>
    obtain ⟨kk, hkk, rfl, AF⟩ := hrel
    by_cases hlt : kk < xs.length
    · have hltz : (kk : Int) < (xs.length : Int) := by omega
      obtain ⟨ad, hAd, g4⟩ := CI_at HA.out kk (by omega) (by omega)
      cases hAd
      rw [show ((kk : Nat) : Int).toNat = kk from rfl] at g4
      have HX : Aside0 ((v == xs.getD kk 0) = true → idxF (fun x => v == x) xs = kk) := ⟨fun h => idxF_hit _ xs kk hlt h AF.out⟩
      have HN : Aside0 ((v == xs.getD kk 0) = false → ∀ j, j < kk + 1 → (v == xs.getD j 0) = false) := ⟨fun h j hj => by
        by_cases e : j = kk
        · rw [e]; exact h
        · exact AF.out j (by omega)⟩
      generalize xs.getD kk 0 = y at *
      cases hq : (v == y) with
      | true =>
        have HQ := Aside0.mk (HX.out hq)
        go_wp2
        go_ret
        exact ⟨by rw [HQ.out]; rfl, rfl⟩
      | false =>
        have HQ := Aside0.mk (HN.out hq)
        go_wp2
        go_round
        case rel => exact ⟨kk + 1, by omega, by go_num, HQ⟩
        case measure => simp [intOf]; omega
    · have HM : Aside0 (idxF (fun x => v == x) xs = -1) := ⟨idxF_miss _ xs (fun j hj => AF.out j (by omega))⟩
      go_wp2
      go_ret
      exact ⟨by rw [HM.out]; rfl, rfl⟩
set_option maxHeartbeats 1000000 in
theorem contains_calls (A : Option Addr) (c : Nat) (xs : List Int) (v : Int) (w : World) (hA : CI w A xs.length xs) (hbig : xs.length ≤ 9223372036854775807) :
    Calls Tryz.prog 45 #[.slice A xs.length c, .int .i64 v] w fun e w' => e = .returned (.bool (xs.any fun x => v == x)) ∧ w = w' := by
  rw [← idxF_ge]
  have HA := Aside0.mk hA
  clear hA
  go_enter Tryz.func45, Tryz.ntmps45
  go_wp2_with (go_at_call 124; refine (index_calls A c xs v _ HA.out hbig).mono ?_; rintro e w' ⟨rfl, rfl⟩)
  go_ret
  exact ⟨rfl, rfl⟩
end Go.Proofs.YtflolfbkpjgjaaaGreatDoor
end
section
namespace Go.Proofs.YtflolfbkpjgjaaaGreatDoor
open Go.RowKit Go.Proofs.YtflolfbkpjgjaaaGreatDoorW.PrintWords Go.Proofs.YtflolfbkpjgjaaaGreatDoorW.PrintMore
structure BoxAt (w : World) (g : Nat) (r : Ros) : Prop where
  ex : ∃ A c T d, w.heap[g]? = some (.cells (rosC r A c T d) 25 (0, 0)) ∧ RosAt w (.agg (rosC r A c T d)) r
theorem BoxAt.below {w w1 : World} {g : Nat} {r : Ros} (h : BoxAt w g r) (hb : Below w.heap.size w w1) : BoxAt w1 g r := by
  obtain ⟨A, c, T, d, h1, h2⟩ := h.ex
  exact ⟨A, c, T, d, blk_below h1 hb, h2.below hb⟩
def outB (r : Ros) (i : Int) : Bool := !inB i 0 ((r.turns.length : Int) - 1)
theorem outB_iff (r : Ros) (i : Int) : outB r i = false ↔ 0 ≤ i ∧ i < r.turns.length := by
  unfold outB
  rw [Bool.not_eq_false', inB_iff]
  omega
set_option maxHeartbeats 1000000 in
theorem turns1_calls (i : Int) (b : Nat) (r : Ros) (w : World) (hb : BoxAt w b r) (hm : r.turns.length ≤ 9223372036854775807) :
    Calls Tryz.prog 152 #[.int .i64 i, .pointer (some ⟨b, 0, none⟩)] w fun e w' => e = .returned (.bool (outB r i)) ∧ w = w' := by
  obtain ⟨A, c, T, d, h1, h2⟩ := hb.ex
  obtain ⟨q0, q1, q2, q3, q4⟩ := rosC_cells h1
  clear h1 h2 hb
  unfold outB
  go_enter Tryz.func152, Tryz.ntmps152
  go_wp2_with (go_at_call 103; refine (within_in _ _ _ _).mono ?_; rintro e w' ⟨rfl, rfl⟩)
  go_ret
  exact ⟨rfl, rfl⟩
theorem turns1_pred {b : Nat} {r : Ros} {D : Int → Prop} {w : World} (hb : BoxAt w b r) (hm : r.turns.length ≤ 9223372036854775807) : PredIn 152 #[.pointer (some ⟨b, 0, none⟩)] (outB r) D w :=
  fun W x _ hW => (turns1_calls x b r W (hb.below hW) hm).mono fun e w' ⟨he, hw⟩ => ⟨he, hw ▸ Below.refl _ _⟩
theorem enter152 : CanEnter 152 := Go.Proofs.enters_of Tryz.func152 (by kernel_rfl) rfl
def turnsE (r : Ros) (l : List Int) : Int := if checkE r != 0 then checkE r else if l.any (outB r) then 1 else 0
theorem rosAt_len {w : World} {v : Value} {r : Ros} (h : RosAt w v r) : r.turns.length ≤ 9223372036854775807 := by
  obtain ⟨A, c, T, d, rfl, h1, h2, h3, h4⟩ := h
  exact h4.2.1
set_option maxHeartbeats 2000000 in
set_option maxRecDepth 100000 in
theorem turns_calls_bad (v lv : Value) (r : Ros) (l : List Int) (w : World) (hv : RosAt w v r) (hl : IntsAt w lv l) (hc : (checkE r != 0) = true) :
    Calls Tryz.prog 89 #[v, lv] w fun e w' => e = .returned (.int .i64 (checkE r)) ∧ Below w.heap.size w w' := by
  have hm := rosAt_len hv
  have hR := Aside0.mk hv
  have hbig : l.length ≤ 9223372036854775807 := by obtain ⟨_, _, _, _, h⟩ := hl; exact h.2.1
  obtain ⟨A, c, T, d, rfl, h1, h2, h3, h4⟩ := hv
  obtain ⟨A1, c1, rfl, hc1, hl1⟩ := hl
  have hL := Aside0.mk hl1
  clear h3 h4 hl1
  have hmf : ∀ (fn : Fn) (first cap : Array Value) (w : World), (Instr.makeFunc fn first cap).run Tryz.prog w = .ok (.func fn first cap) w := fun _ _ _ _ => rfl
  go_enter Tryz.func89, Tryz.ntmps89
  go_wp2_with (first | ((with_reducible refine gate_dst (N := 2) rfl ?_); refine box_event ?hg (N := 2) ?hd (cs := rosC r A c T d) (t := 25) ?hr ?_; (case hd => rfl); (case hg => rfl); (case hr => first | (go_simp; done) | (go_simp; rfl)); intro g hg w3 hbox_ hb_; have BK := Aside0.mk hbox_; have Hg := Aside0.mk hg; have HB := Aside0.mk hb_; obtain ⟨q0, q1, q2, q3, q4⟩ := rosC_cells hbox_; clear hbox_ hb_ hg) | (go_at_call 48; refine (check_calls _ r _ (hR.out.below HB.out)).mono ?_; rintro e w4 ⟨rfl, hb_⟩; have HB4 := Aside0.mk (below_step HB.out hb_); have BK4 := Aside0.mk (blk_below BK.out hb_); clear q0 q1 q2 q3 q4; clear hb_))
  go_ret
  exact ⟨rfl, HB4.out⟩
set_option maxHeartbeats 2000000 in
set_option maxRecDepth 100000 in
theorem turns_calls_good (v lv : Value) (r : Ros) (l : List Int) (w : World) (hv : RosAt w v r) (hl : IntsAt w lv l) (hc : (checkE r != 0) = false) :
    Calls Tryz.prog 89 #[v, lv] w fun e w' => e = .returned (.int .i64 (if l.any (outB r) then 1 else 0)) ∧ Below w.heap.size w w' := by
  have hm := rosAt_len hv
  have hR := Aside0.mk hv
  have hbig : l.length ≤ 9223372036854775807 := by obtain ⟨_, _, _, _, h⟩ := hl; exact h.2.1
  obtain ⟨A, c, T, d, rfl, h1, h2, h3, h4⟩ := hv
  obtain ⟨A1, c1, rfl, hc1, hl1⟩ := hl
  have hL := Aside0.mk hl1
  clear h3 h4 hl1
  have hmf : ∀ (fn : Fn) (first cap : Array Value) (w : World), (Instr.makeFunc fn first cap).run Tryz.prog w = .ok (.func fn first cap) w := fun _ _ _ _ => rfl
  cases hq : l.any (outB r)
  all_goals
    go_enter Tryz.func89, Tryz.ntmps89
    go_wp2_with (first | ((with_reducible refine gate_dst (N := 2) rfl ?_); refine box_event ?hg (N := 2) ?hd (cs := rosC r A c T d) (t := 25) ?hr ?_; (case hd => rfl); (case hg => rfl); (case hr => first | (go_simp; done) | (go_simp; rfl)); intro g hg w3 hbox_ hb_; have BK := Aside0.mk hbox_; have Hg := Aside0.mk hg; have HB := Aside0.mk hb_; obtain ⟨q0, q1, q2, q3, q4⟩ := rosC_cells hbox_; clear hbox_ hb_ hg) | (go_at_call 48; refine (check_calls _ r _ (hR.out.below HB.out)).mono ?_; rintro e w4 ⟨rfl, hb_⟩; have HB4 := Aside0.mk (below_step HB.out hb_); have BK4 := Aside0.mk (blk_below BK.out hb_); clear q0 q1 q2 q3 q4; clear hb_) | (go_at_call 43; refine (containsFunc_calls A1 c1 l 152 #[.pointer (some ⟨g, 0, none⟩)] (outB r) _ enter152 (Kd.C_below hL.out HB4.out) (turns1_pred ⟨A, c, T, d, BK4.out, hR.out.below HB4.out⟩ hm) hbig).mono ?_; rintro e w5 ⟨rfl, hb_⟩; have HB5 := Aside0.mk (below_step HB4.out hb_); clear hb_))
    go_ret
    exact ⟨rfl, HB5.out⟩
theorem turns_calls (v lv : Value) (r : Ros) (l : List Int) (w : World) (hv : RosAt w v r) (hl : IntsAt w lv l) :
    Calls Tryz.prog 89 #[v, lv] w fun e w' => e = .returned (.int .i64 (turnsE r l)) ∧ Below w.heap.size w w' := by
  unfold turnsE
  cases hc : (checkE r != 0)
  · rw [if_neg (by simp)]; exact turns_calls_good v lv r l w hv hl hc
  · rw [if_pos rfl]; exact turns_calls_bad v lv r l w hv hl hc
def gatedE (r : Ros) (gate : Int) : Int := if checkE r != 0 then checkE r else if inB gate 0 (r.gates - 1) then 0 else 1
set_option maxHeartbeats 2000000 in
set_option maxRecDepth 100000 in
theorem gated_calls_bad (v : Value) (r : Ros) (gate : Int) (w : World) (hv : RosAt w v r) (hc : (checkE r != 0) = true) :
    Calls Tryz.prog 77 #[v, .int .i64 gate] w fun e w' => e = .returned (.int .i64 (checkE r)) ∧ Below w.heap.size w w' := by
  have hR := Aside0.mk hv
  obtain ⟨A, c, T, d, rfl, h1, h2, h3, h4⟩ := hv
  clear h3 h4
  go_enter Tryz.func77, Tryz.ntmps77
  go_wp2_with (first | ((with_reducible refine gate_dst (N := 2) rfl ?_); refine box_event ?hg (N := 2) ?hd (cs := rosC r A c T d) (t := 25) ?hr ?_; (case hd => rfl); (case hg => rfl); (case hr => first | (go_simp; done) | (go_simp; rfl)); intro g hg w3 hbox_ hb_; have BK := Aside0.mk hbox_; have Hg := Aside0.mk hg; have HB := Aside0.mk hb_; obtain ⟨q0, q1, q2, q3, q4⟩ := rosC_cells hbox_; clear hbox_ hb_ hg) | (go_at_call 48; refine (check_calls _ r _ (hR.out.below HB.out)).mono ?_; rintro e w4 ⟨rfl, hb_⟩; have HB4 := Aside0.mk (below_step HB.out hb_); have BK4 := Aside0.mk (blk_below BK.out hb_); clear q0 q1 q2 q3 q4; clear hb_))
  go_ret
  exact ⟨rfl, HB4.out⟩
set_option maxHeartbeats 2000000 in
set_option maxRecDepth 100000 in
theorem gated_calls_good (v : Value) (r : Ros) (gate : Int) (w : World) (hv : RosAt w v r) (hc : (checkE r != 0) = false) (hg : 1 ≤ r.gates ∧ r.gates ≤ 8) :
    Calls Tryz.prog 77 #[v, .int .i64 gate] w fun e w' => e = .returned (.int .i64 (if inB gate 0 (r.gates - 1) then 0 else 1)) ∧ Below w.heap.size w w' := by
  have hR := Aside0.mk hv
  obtain ⟨A, c, T, d, rfl, h1, h2, h3, h4⟩ := hv
  clear h3 h4
  obtain ⟨hg1, hg2⟩ := hg
  cases hq : inB gate 0 (r.gates - 1)
  all_goals
    go_enter Tryz.func77, Tryz.ntmps77
    go_wp2_with (first | ((with_reducible refine gate_dst (N := 2) rfl ?_); refine box_event ?hg (N := 2) ?hd (cs := rosC r A c T d) (t := 25) ?hr ?_; (case hd => rfl); (case hg => rfl); (case hr => first | (go_simp; done) | (go_simp; rfl)); intro g hg w3 hbox_ hb_; have BK := Aside0.mk hbox_; have Hg := Aside0.mk hg; have HB := Aside0.mk hb_; obtain ⟨q0, q1, q2, q3, q4⟩ := rosC_cells hbox_; clear hbox_ hb_ hg) | (go_at_call 48; refine (check_calls _ r _ (hR.out.below HB.out)).mono ?_; rintro e w4 ⟨rfl, hb_⟩; have HB4 := Aside0.mk (below_step HB.out hb_); have BK4 := Aside0.mk (blk_below BK.out hb_); clear q0 q1 q2 q3 q4; obtain ⟨q0, q1, q2, q3, q4⟩ := rosC_cells BK4.out; clear hb_) | (go_at_call 103; refine (within_in _ _ _ _).mono ?_; rintro e w' ⟨rfl, rfl⟩))
    go_ret
    exact ⟨rfl, HB4.out⟩
theorem checkE_ne (r : Ros) : (checkE r != 0) = false ↔ Valid r := by
  by_cases V : Valid r
  · rw [checkE_valid V]; exact ⟨fun _ => V, fun _ => rfl⟩
  · rw [checkE_not V]; exact ⟨fun h => by simp at h, fun h => absurd h V⟩
theorem gated_calls (v : Value) (r : Ros) (gate : Int) (w : World) (hv : RosAt w v r) :
    Calls Tryz.prog 77 #[v, .int .i64 gate] w fun e w' => e = .returned (.int .i64 (gatedE r gate)) ∧ Below w.heap.size w w' := by
  unfold gatedE
  cases hc : (checkE r != 0)
  · rw [if_neg (by simp)]; exact gated_calls_good v r gate w hv hc ((checkE_ne r).1 hc).gates
  · rw [if_pos rfl]; exact gated_calls_bad v r gate w hv hc
end Go.Proofs.YtflolfbkpjgjaaaGreatDoor
end
section
namespace Go.Proofs.YtflolfbkpjgjaaaGreatDoor
open Go.RowKit Go.Proofs.YtflolfbkpjgjaaaGreatDoorW.PrintWords Go.Proofs.YtflolfbkpjgjaaaGreatDoorW.PrintMore
def ownN (r : Ros) (gate : Int) (p : Int → Bool) (k : Nat) : List Int := ((List.range k).filter fun i : Nat => ((tn r (i : Int)).gate == gate) && p (i : Int)).map fun i : Nat => (i : Int)
def ownL (r : Ros) (gate : Int) (p : Int → Bool) : List Int := ownN r gate p r.turns.length
theorem ownN_yes {r : Ros} {gate : Int} {p : Int → Bool} {k : Nat} (h1 : ((tn r k).gate == gate) = true) (h2 : p k = true) : ownN r gate p (k + 1) = ownN r gate p k ++ [(k : Int)] := by
  unfold ownN
  rw [List.range_succ, List.filter_append, List.map_append]
  congr 1
  simp [h1, h2]
theorem ownN_no {r : Ros} {gate : Int} {p : Int → Bool} {k : Nat} (h : (((tn r k).gate == gate) && p k) = false) : ownN r gate p (k + 1) = ownN r gate p k := by
  unfold ownN
  rw [List.range_succ, List.filter_append, List.map_append]
  simp only [List.filter_cons, h, List.filter_nil]
  simp
theorem ownN_len (r : Ros) (gate : Int) (p : Int → Bool) (k : Nat) : (ownN r gate p k).length ≤ k := by
  unfold ownN
  rw [List.length_map]
  have := List.length_filter_le (fun i : Nat => ((tn r (i : Int)).gate == gate) && p (i : Int)) (List.range k)
  simpa using this
theorem mem_ownL {r : Ros} {gate : Int} {p : Int → Bool} {x : Int} : x ∈ ownL r gate p ↔ (0 ≤ x ∧ x < r.turns.length) ∧ (tn r x).gate = gate ∧ p x = true := by
  unfold ownL ownN
  rw [List.mem_map]
  constructor
  · rintro ⟨i, hi, rfl⟩
    rw [List.mem_filter, List.mem_range, Bool.and_eq_true, beq_iff_eq] at hi
    exact ⟨⟨Int.natCast_nonneg _, by have := hi.1; show (i : Int) < _; omega⟩, hi.2⟩
  · rintro ⟨⟨h1, h2⟩, h3, h4⟩
    obtain ⟨i, rfl⟩ := Int.eq_ofNat_of_zero_le h1
    exact ⟨i, by rw [List.mem_filter, List.mem_range, Bool.and_eq_true, beq_iff_eq]; exact ⟨by omega, h3, h4⟩, rfl⟩
theorem own_readsK {w : World} {base n : Nat} {v : Value} {xs : List Int} (h : w.ownsRow base 3 1 v n (nums .i64 xs)) : ∃ A c, v = .slice A n c ∧ CI w A n xs := by
  have hR : Reps ((Kd.int .i64).K w) 1 xs (nums .i64 xs) := by
    refine ⟨by simp [nums], fun j p hj => ?_⟩
    have hj' := (List.getElem?_eq_some_iff.1 hj).1
    show ((nums .i64 xs).drop (j * 1)).take 1 = [.int .i64 p]
    rw [Nat.mul_one, List.drop_eq_getElem_cons (by simpa [nums] using hj')]
    simp only [List.take_succ_cons, List.take_zero]
    congr 1
    obtain ⟨_, e⟩ := List.getElem?_eq_some_iff.1 hj
    simp [nums, e]
  have hn : xs.length = n := by have := h.1; simp [nums] at this; exact this
  exact own_reads_row h hR hn
theorem intsAt_own {w : World} {base : Nat} {v : Value} {xs : List Int} (h : w.ownsRow base 3 1 v xs.length (nums .i64 xs)) : IntsAt w v xs := by
  obtain ⟨A, c, e, hr⟩ := own_readsK h
  refine ⟨A, c, e, ?_, hr⟩
  rcases h.2 with ⟨e', hn⟩ | ⟨g, cap, cur, e', _, _, h2, _⟩
  · omega
  · rw [e] at e'
    injection e' with _ _ e3
    omega
set_option maxHeartbeats 2000000 in
set_option maxRecDepth 100000 in
theorem own_calls (v : Value) (r : Ros) (gate : Int) (g : Nat) (lb : Array Value) (p : Int → Bool) (w : World) (eg : CanEnter g) (hv : RosAt w v r) (hm : r.turns.length ≤ 24)
    (hp : PredIn g lb p (fun x => 0 ≤ x ∧ x < r.turns.length ∧ (tn r x).gate = gate) w) :
    Calls Tryz.prog 94 #[v, .int .i64 gate, .func (.func g) #[] lb] w fun e w' => ∃ lv, e = .returned lv ∧ w'.ownsRow w.heap.size 3 1 lv (ownL r gate p).length (nums .i64 (ownL r gate p)) ∧ Below w.heap.size w w' := by
  have eg' : ∀ args w, (callFunc g args).run Tryz.prog w = .ok (.enter g args) w := eg
  have HP := Aside0.mk hp
  obtain ⟨A, c, T, d, rfl, h1, h2, h3, h4⟩ := hv
  have H4 := Aside0.mk h4
  clear h3 h4 hp eg
  have hQ : ∀ lv w', w'.ownsRow w.heap.size 3 1 lv (ownL r gate p).length (nums .i64 (ownL r gate p)) → Below w.heap.size w w' → (∃ lv', Ending.returned lv = Ending.returned lv' ∧ w'.ownsRow w.heap.size 3 1 lv' (ownL r gate p).length (nums .i64 (ownL r gate p)) ∧ Below w.heap.size w w') := fun lv w' a b => ⟨lv, rfl, a, b⟩
  generalize hPost : (fun (e : Ending) (w' : World) => ∃ lv, e = .returned lv ∧ w'.ownsRow w.heap.size 3 1 lv (ownL r gate p).length (nums .i64 (ownL r gate p)) ∧ Below w.heap.size w w') = Post
  have hQ' : ∀ lv w', w'.ownsRow w.heap.size 3 1 lv (ownL r gate p).length (nums .i64 (ownL r gate p)) → Below w.heap.size w w' → Post (.returned lv) w' := fun lv w' a b => hPost ▸ ⟨lv, rfl, a, b⟩
  have HQ := Aside0.mk hQ'
  clear hQ hQ' hPost
  go_enter Tryz.func94, Tryz.ntmps94
  go_wp2_with ((with_reducible refine gate_dst (N := 3) rfl ?_); refine box_event ?hg (N := 3) ?hd (cs := rosC r A c T d) (t := 25) ?hr ?_; (case hd => rfl); (case hg => rfl); (case hr => first | (go_simp; done) | (go_simp; rfl)); intro gb hgb w3 hbox_ hb_; have BK := Aside0.mk hbox_; have Hgb := Aside0.mk hgb; have HB := Aside0.mk hb_; obtain ⟨q0, q1, q2, q3, q4⟩ := rosC_cells hbox_; clear hbox_ hb_ hgb)
  clear q0 q1 q2 q3 q4
  have hgb : Aside0 (w.heap.size ≤ gb) := ⟨by rw [Hgb.out]; exact Nat.le_refl _⟩
  go_loopw [7, 13] (fun u i wr => ∃ k : Nat, k ≤ r.turns.length ∧ i = .int .i64 k ∧ Aside0 (wr.ownsRow w.heap.size 3 1 u (ownN r gate p k).length (nums .i64 (ownN r gate p k))) ∧ Aside0 (Below w.heap.size w wr)) (fun _ i _ => r.turns.length - (intOf i).toNat)
  case atStart => exact ⟨0, Nat.zero_le _, rfl, ⟨own_nil _ _ _ _⟩, HB⟩
  case round =>
    clear BK HB
    obtain ⟨k, hk, rfl, HO, HB⟩ := hrel
    by_cases hlt : k < r.turns.length
    · obtain ⟨ad, hA, g0, g1, g2, g3, g4, g5⟩ := CT_at (Kd.C_below H4.out HB.out) k (by omega) (by omega)
      cases hA
      have p0 := World.block_lt_of_cell? wr _ g0
      have HT : Aside0 (r.turns.getD ((k : Int)).toNat Trn.z = tn r k) := ⟨rfl⟩
      rw [HT.out] at g0 g1 g2 g3 g4 g5
      rw [show ((k : Int)).toNat = k from rfl] at g0 g1 g2 g3 g4 g5 p0
      clear HT
      have HY : Aside0 (((tn r k).gate == gate) = true → p k = true → ownN r gate p (k + 1) = ownN r gate p k ++ [(k : Int)]) := ⟨ownN_yes⟩
      have HN : Aside0 ((((tn r k).gate == gate) && p k) = false → ownN r gate p (k + 1) = ownN r gate p k) := ⟨ownN_no⟩
      have HL := Aside0.mk (ownN_len r gate p k)
      have HD : Aside0 (((tn r k).gate == gate) = true → ∀ W, Below w.heap.size w W → Calls Tryz.prog g (#[.int .i64 k] ++ lb) W fun e w' => e = .returned (.bool (p k)) ∧ Below W.heap.size W w') := ⟨fun h W hW => HP.out W k ⟨by omega, by omega, beq_iff_eq.1 h⟩ hW⟩
      generalize hxs : ownN r gate p k = xs at *
      clear hxs
      generalize tn r k = tt at *
      cases e1 : (tt.gate == gate)
      · have HO' : Aside0 (wr.ownsRow w.heap.size 3 1 u7 (ownN r gate p (k + 1)).length (nums .i64 (ownN r gate p (k + 1)))) := ⟨by rw [HN.out (by rw [e1, Bool.false_and])]; exact HO.out⟩
        go_wp2
        go_roundw
        case rel => exact ⟨k + 1, by omega, by go_num, ⟨(HO'.out).alloc _⟩, ⟨below_alloc HB.out _⟩⟩
        case measure => simp [intOf]; omega
      · have hcall := HD.out e1
        cases e2 : p k
        · rw [e2] at hcall
          have HO' : Aside0 (wr.ownsRow w.heap.size 3 1 u7 (ownN r gate p (k + 1)).length (nums .i64 (ownN r gate p (k + 1)))) := ⟨by rw [HN.out (by rw [e1, e2]; rfl)]; exact HO.out⟩
          go_wp2_with (go_at_fn g; refine (hcall _ (below_alloc HB.out _)).mono ?_; rintro e w5 ⟨rfl, hb5⟩; have HO5 := Aside0.mk (pw_own_below ((HO'.out).alloc _) hb5); have HB5 := Aside0.mk (below_step (below_alloc HB.out _) hb5); clear hb5)
          go_roundw
          case rel => exact ⟨k + 1, by omega, by go_num, HO5, HB5⟩
          case measure => simp [intOf]; omega
        · rw [e2] at hcall
          have HE := Aside0.mk (HY.out e1 e2)
          go_wp2_with (first | (go_at_fn g; refine (hcall _ (below_alloc HB.out _)).mono ?_; rintro e w5 ⟨rfl, hb5⟩; have HO5 := Aside0.mk (pw_own_below ((HO.out).alloc _) hb5); have HB5 := Aside0.mk (below_step (below_alloc HB.out _) hb5); clear hb5) | (at_builtin; refine print_append_num w.heap.size rfl (.tmp 27) (.tmp 29) 26 3 .i64 8 rfl Tryz.underlying26 info3 (by omega) u7 xs (k : Int) rfl rfl HO5.out HB5.out HB5.out.size (by have := HL.out; omega) ?_; intro v1 w6 hown hbel hgr hat; have HO6 := Aside0.mk hown; have HB6 := Aside0.mk hbel; clear hown hbel hgr hat))
          go_roundw
          case rel => exact ⟨k + 1, by omega, by go_num, ⟨by rw [HE.out]; exact HO6.out⟩, HB6⟩
          case measure => simp [intOf]; omega
    · have hkn : k = r.turns.length := by omega
      rw [hkn] at HO
      go_wp2
      exact HQ.out _ _ HO.out HB.out
end Go.Proofs.YtflolfbkpjgjaaaGreatDoor
end
section
namespace Go.Proofs.YtflolfbkpjgjaaaGreatDoor
open Go.RowKit Go.Proofs.YtflolfbkpjgjaaaGreatDoorW.PrintWords Go.Proofs.YtflolfbkpjgjaaaGreatDoorW.PrintMore
set_option maxHeartbeats 1000000 in
set_option maxRecDepth 100000 in
theorem late1_calls (i : Int) (bb : Nat) (r : Ros) (w : World) (V : Valid r) (hb : BoxAt w bb r) (i0 : 0 ≤ i) (i1 : i < r.turns.length) :
    Calls Tryz.prog 143 #[.int .i64 i, .pointer (some ⟨bb, 0, none⟩)] w fun e w' => e = .returned (.bool (endB r i)) ∧ Below w.heap.size w w' := by
  obtain ⟨A, c, T, d, h1, h2⟩ := hb.ex
  obtain ⟨q0, q1, q2, q3, q4⟩ := rosC_cells h1
  have H2 := Aside0.mk h2
  have HV := Aside0.mk V
  clear h1 h2 hb V
  unfold endB
  go_enter Tryz.func143, Tryz.ntmps143
  go_wp2_with (first | (go_at_call 106; refine (end_calls _ r i _ H2.out HV.out i0 i1).mono ?_; rintro e w1 ⟨rfl, hb_⟩; have HB1 := Aside0.mk hb_; clear hb_) | (go_at_call 97; refine (never_calls _ _ _).mono ?_; rintro e w2 ⟨rfl, hb_⟩; have HB2 := Aside0.mk (below_step HB1.out hb_); clear hb_))
  go_ret
  exact ⟨rfl, HB2.out⟩
theorem enter143 : CanEnter 143 := Go.Proofs.enters_of Tryz.func143 (by kernel_rfl) rfl
theorem late1_pred {b : Nat} {r : Ros} {w : World} (V : Valid r) (hb : BoxAt w b r) : PredIn 143 #[.pointer (some ⟨b, 0, none⟩)] (endB r) (fun x => 0 ≤ x ∧ x < r.turns.length) w :=
  fun W x hx hW => late1_calls x b r W V (hb.below hW) hx.1 hx.2
theorem PredIn.mono {g : Nat} {lb : Array Value} {p : Int → Bool} {D D' : Int → Prop} {w : World} (h : PredIn g lb p D w) (hD : ∀ x, D' x → D x) : PredIn g lb p D' w := fun W x hx hW => h W x (hD x hx) hW
set_option maxHeartbeats 1000000 in
set_option maxRecDepth 100000 in
theorem late_calls (v lv : Value) (r : Ros) (l : List Int) (w : World) (V : Valid r) (hv : RosAt w v r) (hl : IntsAt w lv l) (hin : ∀ x ∈ l, 0 ≤ x ∧ x < r.turns.length) :
    Calls Tryz.prog 81 #[v, lv] w fun e w' => e = .returned (.bool (l.any (endB r))) ∧ Below w.heap.size w w' := by
  have hR := Aside0.mk hv
  have HV := Aside0.mk V
  have HI := Aside0.mk hin
  have hbig : l.length ≤ 9223372036854775807 := by obtain ⟨_, _, _, _, h⟩ := hl; exact h.2.1
  obtain ⟨A, c, T, d, rfl, h1, h2, h3, h4⟩ := hv
  obtain ⟨A1, c1, rfl, hc1, hl1⟩ := hl
  have hL := Aside0.mk hl1
  clear h3 h4 hl1 V hin
  have hmf : ∀ (fn : Fn) (first cap : Array Value) (w : World), (Instr.makeFunc fn first cap).run Tryz.prog w = .ok (.func fn first cap) w := fun _ _ _ _ => rfl
  go_enter Tryz.func81, Tryz.ntmps81
  go_wp2_with (first | ((with_reducible refine gate_dst (N := 2) rfl ?_); refine box_event ?hg (N := 2) ?hd (cs := rosC r A c T d) (t := 25) ?hr ?_; (case hd => rfl); (case hg => rfl); (case hr => first | (go_simp; done) | (go_simp; rfl)); intro g hg w3 hbox_ hb_; have BK := Aside0.mk hbox_; have Hg := Aside0.mk hg; have HB := Aside0.mk hb_; clear hbox_ hb_ hg) | (go_at_call 43; refine (containsFunc_calls A1 c1 l 143 #[.pointer (some ⟨g, 0, none⟩)] (endB r) _ enter143 (Kd.C_below hL.out HB.out) ((late1_pred HV.out ⟨A, c, T, d, BK.out, hR.out.below HB.out⟩).mono HI.out) hbig).mono ?_; rintro e w5 ⟨rfl, hb_⟩; have HB5 := Aside0.mk (below_step HB.out hb_); clear hb_))
  go_ret
  exact ⟨rfl, HB5.out⟩
def diffN (l : List Int) (k : Nat) : Bool := (List.range k).all fun i => !((l.take i).any fun x => l.getD i 0 == x)
def diffB (l : List Int) : Bool := diffN l l.length
theorem diffN_succ (l : List Int) (k : Nat) : diffN l (k + 1) = (diffN l k && !((l.take k).any fun x => l.getD k 0 == x)) := all_range_succ k _
theorem CI_take {w : World} {A : Option Addr} {n : Nat} {xs : List Int} (h : CI w A n xs) (k : Nat) (hk : k ≤ n) : CI w A (xs.take k).length (xs.take k) := by
  have hl : xs.length = n := h.1
  have e : (xs.take k).length = k := by rw [List.length_take]; omega
  refine ⟨rfl, by have := h.2.1; omega, fun h0 => ?_⟩
  obtain ⟨ad, ea, hc⟩ := h.2.2 (by omega)
  refine ⟨ad, ea, fun j p hj => ?_⟩
  rw [List.getElem?_take] at hj
  split at hj
  · exact hc j p hj
  · simp at hj
set_option maxHeartbeats 1000000 in
set_option maxRecDepth 100000 in
theorem different_calls (lv : Value) (l : List Int) (w : World) (hl : IntsAt w lv l) :
    Calls Tryz.prog 90 #[lv] w fun e w' => e = .returned (.bool (diffB l)) ∧ w = w' := by
  have hbig : l.length ≤ 9223372036854775807 := by obtain ⟨_, _, _, _, h⟩ := hl; exact h.2.1
  obtain ⟨A1, c1, rfl, hc1, hl1⟩ := hl
  have hL := Aside0.mk hl1
  clear hl1
  go_enter Tryz.func90, Tryz.ntmps90
  go_wp2
  go_loop [7] (fun i => ∃ k : Nat, k ≤ l.length ∧ i = .int .i64 k ∧ Aside0 (diffN l k = true)) (fun i => l.length - (intOf i).toNat)
  case atStart => exact ⟨0, Nat.zero_le _, rfl, ⟨rfl⟩⟩
  case round =>
    obtain ⟨k, hk, rfl, HO⟩ := hrel
    by_cases hlt : k < l.length
    · obtain ⟨ad, hAd, g4⟩ := CI_at hL.out k (by omega) (by omega)
      cases hAd
      rw [show ((k : Nat) : Int).toNat = k from rfl] at g4
      have hcon := fun W (h : CI W (some ad) l.length l) => contains_calls (some ad) c1 (l.take k) (l.getD k 0) W (CI_take h k hk) (by rw [List.length_take]; omega)
      have HX : Aside0 (((l.take k).any fun x => l.getD k 0 == x) = true → diffB l = false) := ⟨fun h => all_range_false hlt (by simp only [h]; rfl)⟩
      have HN : Aside0 (((l.take k).any fun x => l.getD k 0 == x) = false → diffN l (k + 1) = true) := ⟨fun h => by rw [diffN_succ, HO.out, h]; rfl⟩
      have hlen : (l.take k).length = k := by rw [List.length_take]; omega
      rw [hlen] at hcon
      clear hlen
      generalize ((l.take k).any fun x => l.getD k 0 == x) = bb at *
      generalize l.getD k 0 = y at *
      have i1 : (0 : Int) ≤ (k : Int) := by omega
      have i2 : (k : Int) ≤ (c1 : Int) := by omega
      cases bb
      · have HQ := Aside0.mk (HN.out rfl)
        go_wp2_with (go_at_call 45; refine (hcon _ hL.out).mono ?_; rintro e w' ⟨rfl, rfl⟩)
        go_round
        case rel => exact ⟨k + 1, by omega, by go_num, HQ⟩
        case measure => simp [intOf]; omega
      · have HQ := Aside0.mk (HX.out rfl)
        go_wp2_with (go_at_call 45; refine (hcon _ hL.out).mono ?_; rintro e w' ⟨rfl, rfl⟩)
        go_ret
        exact ⟨by rw [HQ.out]; rfl, rfl⟩
    · have HM : Aside0 (diffB l = true) := by
        have e : k = l.length := by omega
        rw [e] at HO
        exact HO
      go_wp2
      go_ret
      exact ⟨by rw [HM.out]; rfl, rfl⟩
def costN (r : Ros) (l : List Int) (k : Nat) : Int := ((l.take k).map fun i => (tn r i).cost).sum
def costL (r : Ros) (l : List Int) : Int := (l.map fun i => (tn r i).cost).sum
theorem costN_succ (r : Ros) (l : List Int) (k : Nat) (hk : k < l.length) : costN r l (k + 1) = costN r l k + (tn r (l.getD k 0)).cost := by
  unfold costN
  rw [List.take_succ_eq_append_getElem hk, List.map_append, List.sum_append]
  simp [List.getD_eq_getElem?_getD, List.getElem?_eq_getElem hk]
theorem costN_bd (r : Ros) (V : Valid r) (l : List Int) (hin : ∀ x ∈ l, 0 ≤ x ∧ x < r.turns.length) : ∀ k, k ≤ l.length → 0 ≤ costN r l k ∧ costN r l k ≤ k * 10000
  | 0, _ => by simp [costN]
  | k + 1, h => by
    have ih := costN_bd r V l hin k (by omega)
    have hm := hin _ (mem_getD l k (by omega))
    have := V.turn _ hm.1 hm.2
    rw [costN_succ r l k (by omega)]
    omega
set_option maxHeartbeats 1000000 in
set_option maxRecDepth 100000 in
theorem cost_calls (v lv : Value) (r : Ros) (l : List Int) (w : World) (V : Valid r) (hv : RosAt w v r) (hl : IntsAt w lv l) (hin : ∀ x ∈ l, 0 ≤ x ∧ x < r.turns.length) (hbig : l.length ≤ 1000000) :
    Calls Tryz.prog 86 #[v, lv] w fun e w' => e = .returned (.int .i64 (costL r l)) ∧ Below w.heap.size w w' := by
  have HV := Aside0.mk V
  have HI := Aside0.mk hin
  obtain ⟨A, c, T, d, rfl, h1, h2, h3, h4⟩ := hv
  obtain ⟨A1, c1, rfl, hc1, hl1⟩ := hl
  have hL := Aside0.mk hl1
  have H4 := Aside0.mk h4
  have HF : Aside0 (costN r l l.length = costL r l) := ⟨by unfold costN costL; rw [List.take_length]⟩
  have HZ : Aside0 (costN r l 0 = 0) := ⟨rfl⟩
  clear h3 h4 hl1 V hin
  go_enter Tryz.func86, Tryz.ntmps86
  go_wp2_with ((with_reducible refine gate_dst (N := 2) rfl ?_); refine box_event ?hg (N := 2) ?hd (cs := rosC r A c T d) (t := 25) ?hr ?_; (case hd => rfl); (case hg => rfl); (case hr => first | (go_simp; done) | (go_simp; rfl)); intro g hg w3 hbox_ hb_; have BK := Aside0.mk hbox_; have Hg := Aside0.mk hg; have HB := Aside0.mk hb_; clear hbox_ hb_ hg)
  go_loopw [5, 10] (fun s i wr => ∃ k : Nat, k ≤ l.length ∧ i = .int .i64 k ∧ s = .int .i64 (costN r l k) ∧ Aside0 (wr = w3)) (fun _ i _ => l.length - (intOf i).toNat)
  case atStart => exact ⟨0, Nat.zero_le _, rfl, by rw [HZ.out], ⟨rfl⟩⟩
  case round =>
    obtain ⟨k, hk, rfl, rfl, HW⟩ := hrel
    have hw := HW.out
    subst hw
    have hbd := costN_bd r HV.out l HI.out k hk
    obtain ⟨s0, s1⟩ := hbd
    by_cases hlt : k < l.length
    · obtain ⟨ad, hAd, g4⟩ := CI_at (Kd.C_below hL.out HB.out) k (by omega) (by omega)
      cases hAd
      rw [show ((k : Nat) : Int).toNat = k from rfl] at g4
      have hm := HI.out _ (mem_getD l k hlt)
      have HS := Aside0.mk (costN_succ r l k hlt)
      generalize l.getD k 0 = y at *
      generalize costN r l k = s at *
      obtain ⟨y0, y1⟩ := hm
      obtain ⟨ad', hAd', t0, t1, t2, t3, t4, t5⟩ := CT_at (Kd.C_below H4.out HB.out) y y0 y1
      cases hAd'
      have HT : Aside0 (r.turns.getD y.toNat Trn.z = tn r y) := ⟨rfl⟩
      rw [HT.out] at t0 t1 t2 t3 t4 t5
      clear HT
      have vt := HV.out.turn y y0 y1
      have vc0 := vt.2.2.2.2.2.1
      have vc1 := vt.2.2.2.2.2.2
      clear vt
      obtain ⟨q0, q1, q2, q3, q4⟩ := rosC_cells BK.out
      go_wp2
      go_roundw
      case rel => exact ⟨k + 1, by omega, by go_num, by rw [HS.out], ⟨by first | rfl | trivial⟩⟩
      case measure => simp [intOf]; omega
    · have hkn : k = l.length := by omega
      rw [hkn, HF.out]
      go_wp2
      go_ret
      exact ⟨rfl, HB.out⟩
end Go.Proofs.YtflolfbkpjgjaaaGreatDoor
end
section
set_option autoImplicit false
namespace Go.Proofs.YtflolfbkpjgjaaaGreatDoor
section
structure Gr where
  n : Nat
  own : Nat → Bool
  beg : Nat → Bool
  fin : Nat → Bool
  fol : Nat → Nat → Bool
  cost : Nat → Int
def Gr.all (g : Gr) : List Nat := (List.range g.n).filter g.own
def Chn (f : Nat → Nat → Bool) : List Nat → Prop
  | [] => True
  | [_] => True
  | a :: b :: l => f a b = true ∧ Chn f (b :: l)
theorem Chn.snoc {f : Nat → Nat → Bool} : ∀ {l : List Nat} {i j : Nat}, Chn f (l ++ [i]) → f i j = true → Chn f (l ++ [i] ++ [j])
  | [], i, j, _, h => ⟨h, trivial⟩
  | [a], i, j, hc, h => ⟨hc.1, h, trivial⟩
  | a :: b :: l, i, j, hc, h => ⟨hc.1, Chn.snoc (l := b :: l) hc.2 h⟩
theorem Chn.left {f : Nat → Nat → Bool} : ∀ {l m : List Nat}, Chn f (l ++ m) → Chn f l
  | [], _, _ => trivial
  | [a], _, _ => trivial
  | a :: b :: l, m, h => ⟨h.1, Chn.left (l := b :: l) (m := m) h.2⟩
theorem Chn.last2 {f : Nat → Nat → Bool} : ∀ {l : List Nat} {i j : Nat}, Chn f (l ++ [i] ++ [j]) → f i j = true
  | [], i, j, h => h.1
  | [a], i, j, h => h.2.1
  | a :: b :: l, i, j, h => Chn.last2 (l := b :: l) h.2
theorem Chn.right {f : Nat → Nat → Bool} : ∀ {l m : List Nat}, Chn f (l ++ m) → Chn f m
  | [], _, h => h
  | [a], [], _ => trivial
  | [a], b :: m, h => h.2
  | a :: b :: l, m, h => Chn.right (l := b :: l) h.2
structure Way (g : Gr) (l : List Nat) : Prop where
  ne : l ≠ []
  own : ∀ x ∈ l, x < g.n ∧ g.own x = true
  nd : l.Nodup
  beg : ∀ x, l.head? = some x → g.beg x = true
  chn : Chn g.fol l
structure Plan (g : Gr) (l : List Nat) : Prop where
  way : Way g l
  fin : ∀ x, l.getLast? = some x → g.fin x = true
theorem Way.one {g : Gr} {i : Nat} (h1 : i < g.n) (h2 : g.own i = true) (h3 : g.beg i = true) : Way g [i] :=
  ⟨by simp, by simpa using ⟨h1, h2⟩, by simp, by simpa using h3, trivial⟩
theorem Way.snoc {g : Gr} {l : List Nat} {i j : Nat} (h : Way g (l ++ [i])) (h1 : j < g.n) (h2 : g.own j = true) (h3 : g.fol i j = true) (h4 : j ∉ l ++ [i]) : Way g (l ++ [i] ++ [j]) := by
  refine ⟨by simp, ?_, ?_, ?_, h.chn.snoc h3⟩
  · intro x hx
    rcases List.mem_append.1 hx with hx | hx
    · exact h.own x hx
    · obtain rfl : x = j := by simpa using hx
      exact ⟨h1, h2⟩
  · rw [List.nodup_append]
    refine ⟨h.nd, by simp, ?_⟩
    intro a ha b hb e
    obtain rfl : b = j := by simpa using hb
    exact h4 (e ▸ ha)
  · intro x hx
    refine h.beg x ?_
    cases l with
    | nil => simpa using hx
    | cons a l => simpa using hx
theorem Way.front {g : Gr} {l m : List Nat} (h : Way g (l ++ m)) (hl : l ≠ []) : Way g l := by
  refine ⟨hl, fun x hx => h.own x (List.mem_append_left _ hx), (List.nodup_append.1 h.nd).1, fun x hx => h.beg x ?_, h.chn.left⟩
  cases l with
  | nil => exact absurd rfl hl
  | cons a l => simpa using hx
def wsum (wt : Nat → Nat) (l : List Nat) : Nat := (l.map wt).sum
theorem wsum_append (wt : Nat → Nat) (a b : List Nat) : wsum wt (a ++ b) = wsum wt a + wsum wt b := by simp [wsum]
theorem wsum_one (wt : Nat → Nat) (a : Nat) : wsum wt [a] = wt a := by simp [wsum]
theorem wsum_cons (wt : Nat → Nat) (a : Nat) (l : List Nat) : wsum wt (a :: l) = wt a + wsum wt l := by simp [wsum]
def lexv : Nat → List Nat → Nat
  | _, [] => 0
  | 0, _ => 0
  | f + 1, x :: l => x * 32 ^ f + lexv f l
theorem lexv_lt : ∀ (f : Nat) (l : List Nat), l.length ≤ f → (∀ x ∈ l, x < 32) → lexv f l < 32 ^ f
  | f, [], _, _ => by cases f <;> simp [lexv] <;> exact Nat.pos_of_ne_zero (by simp)
  | 0, x :: l, h, _ => by simp at h
  | f + 1, x :: l, h, hx => by
    have h1 := lexv_lt f l (by simpa using h) (fun y hy => hx y (List.mem_cons_of_mem _ hy))
    have h2 := hx x (List.mem_cons_self ..)
    have h3 : (x + 1) * 32 ^ f ≤ 32 * 32 ^ f := Nat.mul_le_mul_right _ (by omega)
    simp only [lexv, Nat.pow_succ]
    rw [Nat.add_mul] at h3
    omega
theorem lexv_snoc : ∀ (f : Nat) (l : List Nat) (j : Nat), l.length < f → lexv f (l ++ [j]) = lexv f l + j * 32 ^ (f - l.length - 1)
  | f + 1, [], j, _ => by simp [lexv]
  | f + 1, x :: l, j, h => by
    have h1 := lexv_snoc f l j (by simpa using h)
    simp only [List.cons_append, lexv, h1, List.length_cons]
    have : f + 1 - (l.length + 1) - 1 = f - l.length - 1 := by omega
    rw [this]
    omega
def cmpL : List Nat → List Nat → Int
  | [], [] => 0
  | [], _ :: _ => -1
  | _ :: _, [] => 1
  | x :: a, y :: b => if x < y then -1 else if y < x then 1 else cmpL a b
theorem cmpL_lex : ∀ (f : Nat) (a b : List Nat), a.length = b.length → a.length ≤ f → (∀ x ∈ a, x < 32) → (∀ x ∈ b, x < 32) →
    (cmpL a b < 0 ↔ lexv f a < lexv f b) ∧ (cmpL a b ≤ 0 ↔ lexv f a ≤ lexv f b)
  | f, [], [], _, _, _, _ => by cases f <;> simp [cmpL, lexv]
  | f, [], y :: b, h, _, _, _ => by simp at h
  | f, x :: a, [], h, _, _, _ => by simp at h
  | 0, x :: a, y :: b, _, h, _, _ => by simp at h
  | f + 1, x :: a, y :: b, h, hf, ha, hb => by
    have ha' : ∀ x ∈ a, x < 32 := fun z hz => ha z (List.mem_cons_of_mem _ hz)
    have hb' : ∀ x ∈ b, x < 32 := fun z hz => hb z (List.mem_cons_of_mem _ hz)
    have hla : a.length ≤ f := by simpa using hf
    have hlb : b.length ≤ f := by have : a.length = b.length := by simpa using h
                                  omega
    have ih := cmpL_lex f a b (by simpa using h) hla ha' hb'
    have la := lexv_lt f a hla ha'
    have lb := lexv_lt f b hlb hb'
    simp only [cmpL, lexv]
    by_cases h1 : x < y
    · rw [if_pos h1]
      have h3 : (x + 1) * 32 ^ f ≤ y * 32 ^ f := Nat.mul_le_mul_right _ (by omega)
      rw [Nat.add_mul] at h3
      constructor <;> constructor <;> intro _ <;> omega
    · rw [if_neg h1]
      by_cases h2 : y < x
      · rw [if_pos h2]
        have h3 : (y + 1) * 32 ^ f ≤ x * 32 ^ f := Nat.mul_le_mul_right _ (by omega)
        rw [Nat.add_mul] at h3
        constructor <;> constructor <;> intro _ <;> omega
      · rw [if_neg h2]
        obtain rfl : x = y := by omega
        refine ⟨ih.1.trans ?_, ih.2.trans ?_⟩ <;> constructor <;> intro _ <;> omega
def BB : Nat := 32 ^ 24
def key (wt : Nat → Nat) (l : List Nat) : Nat := wsum wt l * BB + lexv 24 l
structure Ord (g : Gr) (wt : Nat → Nat) (cmp : List Nat → List Nat → Int) : Prop where
  small : g.n ≤ 24
  pos : ∀ i, 0 < wt i
  bnd : ∀ i, i < g.n → wt i ≤ 2097152
  len : ∀ a b, (∀ x ∈ a, x < g.n) → a.Nodup → (∀ x ∈ b, x < g.n) → b.Nodup → wsum wt a = wsum wt b → a.length = b.length
  cmp : ∀ a b, (∀ x ∈ a, x < g.n) → a.Nodup → (∀ x ∈ b, x < g.n) → b.Nodup → (cmp a b < 0 ↔ key wt a < key wt b) ∧ (cmp a b ≤ 0 ↔ key wt a ≤ key wt b)
theorem nodup_len : ∀ (n : Nat) (l : List Nat), l.Nodup → (∀ x ∈ l, x < n) → l.length ≤ n
  | 0, [], _, _ => by simp
  | 0, x :: l, _, h => absurd (h x (List.mem_cons_self ..)) (by omega)
  | n + 1, l, hn, h => by
    have h1 := nodup_len n (l.erase n) (hn.erase n) (fun x hx => by
      have h2 := h x (List.mem_of_mem_erase hx)
      have h3 : x ≠ n := by
        rintro rfl
        exact (List.Nodup.not_mem_erase hn) hx
      omega)
    have h2 := List.length_erase (a := n) (l := l)
    split at h2 <;> omega
section
variable {g : Gr} {wt : Nat → Nat} {cmp : List Nat → List Nat → Int}
theorem Way.lt {l : List Nat} (h : Way g l) : ∀ x ∈ l, x < g.n := fun x hx => (h.own x hx).1
theorem Way.len (O : Ord g wt cmp) {l : List Nat} (h : Way g l) : l.length ≤ 24 := Nat.le_trans (nodup_len g.n l h.nd h.lt) O.small
theorem Way.lex (O : Ord g wt cmp) {l : List Nat} (h : Way g l) : lexv 24 l < BB :=
  lexv_lt 24 l (h.len O) (fun x hx => by have := h.lt x hx; have := O.small; omega)
theorem Ord.lt (O : Ord g wt cmp) {a b : List Nat} (ha : Way g a) (hb : Way g b) : cmp a b < 0 ↔ key wt a < key wt b := (O.cmp a b ha.lt ha.nd hb.lt hb.nd).1
theorem Ord.le (O : Ord g wt cmp) {a b : List Nat} (ha : Way g a) (hb : Way g b) : cmp a b ≤ 0 ↔ key wt a ≤ key wt b := (O.cmp a b ha.lt ha.nd hb.lt hb.nd).2
theorem key_snoc (O : Ord g wt cmp) {a b : List Nat} {j : Nat} (ha : Way g a) (hb : Way g b) (ha' : Way g (a ++ [j])) (hb' : Way g (b ++ [j])) (h : key wt a ≤ key wt b) : key wt (a ++ [j]) ≤ key wt (b ++ [j]) := by
  have la := ha'.len O
  have lb := hb'.len O
  simp only [List.length_append, List.length_singleton] at la lb
  have xa := ha.lex O
  have xb := hb.lex O
  have xa' := ha'.lex O
  have xb' := hb'.lex O
  unfold key at h ⊢
  rw [wsum_append, wsum_append, wsum_one]
  rcases Nat.lt_trichotomy (wsum wt a) (wsum wt b) with h1 | h1 | h1
  · have : (wsum wt a + wt j + 1) * BB ≤ (wsum wt b + wt j) * BB := Nat.mul_le_mul_right _ (by omega)
    rw [Nat.add_mul _ 1] at this
    omega
  · have hl := O.len a b ha.lt ha.nd hb.lt hb.nd h1
    rw [lexv_snoc 24 a j (by omega), lexv_snoc 24 b j (by omega), hl, h1]
    rw [h1] at h
    generalize j * 32 ^ (24 - b.length - 1) = c
    omega
  · have : (wsum wt b + 1) * BB ≤ wsum wt a * BB := Nat.mul_le_mul_right _ (by omega)
    rw [Nat.add_mul] at this
    omega
theorem key_front (O : Ord g wt cmp) {a m : List Nat} (h : Way g (a ++ m)) (ha : a ≠ []) (hm : m ≠ []) : key wt a < key wt (a ++ m) := by
  have xa := (h.front ha).lex O
  unfold key
  rw [wsum_append]
  have : 0 < wsum wt m := by
    cases m with
    | nil => exact absurd rfl hm
    | cons x m => rw [wsum_cons]; have := O.pos x; omega
  have h2 : (wsum wt a + 1) * BB ≤ (wsum wt a + wsum wt m) * BB := Nat.mul_le_mul_right _ (by omega)
  rw [Nat.add_mul] at h2
  omega
theorem lexv_inj : ∀ (f : Nat) (a b : List Nat), a.length = b.length → a.length ≤ f → (∀ x ∈ a, x < 32) → (∀ x ∈ b, x < 32) → lexv f a = lexv f b → a = b
  | f, [], [], _, _, _, _, _ => rfl
  | f, [], y :: b, h, _, _, _, _ => by simp at h
  | f, x :: a, [], h, _, _, _, _ => by simp at h
  | 0, x :: a, y :: b, _, h, _, _, _ => by simp at h
  | f + 1, x :: a, y :: b, h, hf, ha, hb, e => by
    have ha' : ∀ x ∈ a, x < 32 := fun z hz => ha z (List.mem_cons_of_mem _ hz)
    have hb' : ∀ x ∈ b, x < 32 := fun z hz => hb z (List.mem_cons_of_mem _ hz)
    have hl : a.length = b.length := by simpa using h
    have hla : a.length ≤ f := by simpa using hf
    have la := lexv_lt f a hla ha'
    have lb := lexv_lt f b (by omega) hb'
    simp only [lexv] at e
    have hxy : x = y := by
      rcases Nat.lt_trichotomy x y with h1 | h1 | h1
      · have h3 : (x + 1) * 32 ^ f ≤ y * 32 ^ f := Nat.mul_le_mul_right _ (by omega)
        rw [Nat.add_mul] at h3
        omega
      · exact h1
      · have h3 : (y + 1) * 32 ^ f ≤ x * 32 ^ f := Nat.mul_le_mul_right _ (by omega)
        rw [Nat.add_mul] at h3
        omega
    subst hxy
    rw [lexv_inj f a b hl hla ha' hb' (by omega)]
theorem key_inj (O : Ord g wt cmp) {a b : List Nat} (ha : Way g a) (hb : Way g b) (h : key wt a = key wt b) : a = b := by
  have xa := ha.lex O
  have xb := hb.lex O
  have la := ha.len O
  have hn := O.small
  unfold key at h
  have hw : wsum wt a = wsum wt b := by
    rcases Nat.lt_trichotomy (wsum wt a) (wsum wt b) with h1 | h1 | h1
    · have : (wsum wt a + 1) * BB ≤ wsum wt b * BB := Nat.mul_le_mul_right _ (by omega)
      rw [Nat.add_mul] at this
      omega
    · exact h1
    · have : (wsum wt b + 1) * BB ≤ wsum wt a * BB := Nat.mul_le_mul_right _ (by omega)
      rw [Nat.add_mul] at this
      omega
  have hl := O.len a b ha.lt ha.nd hb.lt hb.nd hw
  rw [hw] at h
  have hv : lexv 24 a = lexv 24 b := Nat.add_left_cancel h
  exact lexv_inj 24 a b hl la (fun x hx => by have := ha.lt x hx; omega) (fun x hx => by have := hb.lt x hx; omega) hv
end
def better (cmp : List Nat → List Nat → Int) (out : List (List Nat)) (i : Nat) (l : List Nat) : List (List Nat) × Bool :=
  if out.getD i [] ≠ [] ∧ cmp (out.getD i []) l ≤ 0 then (out, false) else (out.set i l, true)
def stepW (g : Gr) (cmp : List Nat → List Nat → Int) (i : Nat) (s : List (List Nat) × Bool) (j : Nat) : List (List Nat) × Bool :=
  if s.1.getD i [] ≠ [] ∧ g.fol i j = true ∧ (s.1.getD i []).contains j = false then
    let b := better cmp s.1 j (s.1.getD i [] ++ [j])
    (b.1, b.2 || s.2)
  else s
def rowW (g : Gr) (cmp : List Nat → List Nat → Int) (s : List (List Nat) × Bool) (i : Nat) : List (List Nat) × Bool := g.all.foldl (stepW g cmp i) s
def roundW (g : Gr) (cmp : List Nat → List Nat → Int) (out : List (List Nat)) : List (List Nat) × Bool := g.all.foldl (rowW g cmp) (out, false)
def initW (g : Gr) (cmp : List Nat → List Nat → Int) : List (List Nat) :=
  g.all.foldl (fun out i => if g.beg i then (better cmp out i [i]).1 else out) (List.replicate g.n [])
def runW (g : Gr) (cmp : List Nat → List Nat → Int) : Nat → List (List Nat) → Option (List (List Nat))
  | 0, _ => none
  | k + 1, out => if (roundW g cmp out).2 then runW g cmp k (roundW g cmp out).1 else some (roundW g cmp out).1
def waysW (g : Gr) (cmp : List Nat → List Nat → Int) (k : Nat) : Option (List (List Nat)) := runW g cmp k (initW g cmp)
def pickW (g : Gr) (cmp : List Nat → List Nat → Int) (out : List (List Nat)) (best : List Nat) (i : Nat) : List Nat :=
  if out.getD i [] ≠ [] ∧ g.fin i = true ∧ (best = [] ∨ cmp (out.getD i []) best < 0) then out.getD i [] else best
def planW (g : Gr) (cmp : List Nat → List Nat → Int) (out : List (List Nat)) : List Nat := (List.range g.n).foldl (pickW g cmp out) []
end
section
variable {g : Gr} {wt : Nat → Nat} {cmp : List Nat → List Nat → Int}
theorem mem_all {i : Nat} : i ∈ g.all ↔ i < g.n ∧ g.own i = true := by simp [Gr.all]
theorem getD_set {α : Type} (xs : List α) (i j : Nat) (d v : α) : (xs.set i v).getD j d = if i = j ∧ j < xs.length then v else xs.getD j d := by
  simp only [List.getD_eq_getElem?_getD, List.getElem?_set]
  by_cases h : i = j
  · subst h
    by_cases h2 : i < xs.length
    · simp [h2]
    · simp [h2]
  · simp [h]
structure InvW (g : Gr) (wt : Nat → Nat) (out : List (List Nat)) : Prop where
  len : out.length = g.n
  way : ∀ j, out.getD j [] ≠ [] → Way g (out.getD j []) ∧ (out.getD j []).getLast? = some j
  pre : ∀ j p k m, out.getD j [] = p ++ [k] ++ m → m ≠ [] → out.getD k [] ≠ [] ∧ key wt (out.getD k []) ≤ key wt (p ++ [k])
def TOPK : Nat := (24 * 2097152 + 1) * BB
def rankW (wt : Nat → Nat) (l : List Nat) : Nat := if l = [] then TOPK else key wt l
def measW (wt : Nat → Nat) (out : List (List Nat)) : Nat := (out.map (rankW wt)).sum
theorem sum_set_lt {α : Type} (f : α → Nat) : ∀ (xs : List α) (i : Nat) (v : α) (h : i < xs.length), f v < f xs[i] → ((xs.set i v).map f).sum < (xs.map f).sum
  | [], i, v, h, _ => by simp at h
  | x :: xs, 0, v, h, hl => by simp at hl ⊢; omega
  | x :: xs, i + 1, v, h, hl => by
    have := sum_set_lt f xs i v (by simpa using h) (by simpa using hl)
    simp only [List.set_cons_succ, List.map_cons, List.sum_cons]
    omega
theorem wsum_le (c : Nat) : ∀ l : List Nat, (∀ x ∈ l, wt x ≤ c) → wsum wt l ≤ l.length * c
  | [], _ => by simp [wsum]
  | x :: l, h => by
    have h1 := wsum_le c l (fun y hy => h y (List.mem_cons_of_mem _ hy))
    have h2 := h x (List.mem_cons_self ..)
    rw [wsum_cons, List.length_cons, Nat.add_mul]
    omega
theorem key_top (O : Ord g wt cmp) {l : List Nat} (h : Way g l) : key wt l < TOPK := by
  have h1 := h.lex O
  have h2 := wsum_le (wt := wt) 2097152 l (fun x hx => O.bnd x (h.lt x hx))
  have h3 := h.len O
  have h4 : l.length * 2097152 ≤ 24 * 2097152 := Nat.mul_le_mul_right _ h3
  unfold key TOPK
  have h5 : (wsum wt l + 1) * BB ≤ (24 * 2097152 + 1) * BB := Nat.mul_le_mul_right _ (by omega)
  rw [Nat.add_mul] at h5
  omega
theorem InvW.set (O : Ord g wt cmp) {out : List (List Nat)} (h : InvW g wt out) {j : Nat} {l : List Nat} (hj : j < g.n) (hw : Way g l) (hl : l.getLast? = some j)
    (hb : out.getD j [] = [] ∨ key wt l < key wt (out.getD j []))
    (hp : ∀ p k m, l = p ++ [k] ++ m → m ≠ [] → out.getD k [] ≠ [] ∧ key wt (out.getD k []) ≤ key wt (p ++ [k])) :
    InvW g wt (out.set j l) ∧ measW wt (out.set j l) < measW wt out := by
  have hlen := h.len
  have hgj : (out.set j l).getD j [] = l := by rw [getD_set, if_pos ⟨rfl, by omega⟩]
  have hgo : ∀ i, i ≠ j → (out.set j l).getD i [] = out.getD i [] := fun i hi => by rw [getD_set, if_neg (fun e => hi e.1.symm)]
  have mono : ∀ k q, out.getD k [] ≠ [] ∧ key wt (out.getD k []) ≤ q → (out.set j l).getD k [] ≠ [] ∧ key wt ((out.set j l).getD k []) ≤ q := by
    intro k q ⟨h1, h2⟩
    by_cases hk : k = j
    · subst hk
      rw [hgj]
      refine ⟨hw.ne, ?_⟩
      rcases hb with hb | hb
      · exact absurd hb h1
      · omega
    · rw [hgo k hk]; exact ⟨h1, h2⟩
  refine ⟨⟨by simpa using hlen, ?_, ?_⟩, ?_⟩
  · intro i hi
    by_cases hk : i = j
    · subst hk; rw [hgj]; exact ⟨hw, hl⟩
    · rw [hgo i hk] at hi ⊢; exact h.way i hi
  · intro i p k m he hm
    by_cases hk : i = j
    · subst hk; rw [hgj] at he; exact mono k _ (hp p k m he hm)
    · rw [hgo i hk] at he; exact mono k _ (h.pre i p k m he hm)
  · have hj' : j < out.length := by omega
    have he : out.getD j [] = out[j] := by simp [List.getD_eq_getElem?_getD, List.getElem?_eq_getElem hj']
    rw [he] at hb
    refine sum_set_lt (rankW wt) out j l hj' ?_
    have h1 : rankW wt l = key wt l := by unfold rankW; rw [if_neg hw.ne]
    rw [h1]
    unfold rankW
    split
    · exact key_top O hw
    · rcases hb with hb | hb
      · contradiction
      · exact hb
theorem key_of_cmp (O : Ord g wt cmp) {a b : List Nat} (ha : Way g a) (hb : Way g b) : (¬ cmp a b ≤ 0) ↔ key wt b < key wt a := by
  rw [O.le ha hb]; omega
theorem getLast?_snoc {α : Type} {l : List α} {x : α} (h : l.getLast? = some x) : ∃ p, l = p ++ [x] := by
  obtain ⟨p, rfl⟩ := List.getLast?_eq_some_iff.1 h
  exact ⟨p, rfl⟩
def Bet (wt : Nat → Nat) (out out' : List (List Nat)) : Prop := ∀ k, out.getD k [] ≠ [] → out'.getD k [] ≠ [] ∧ key wt (out'.getD k []) ≤ key wt (out.getD k [])
theorem Bet.refl (out : List (List Nat)) : Bet wt out out := fun k h => ⟨h, Nat.le_refl _⟩
theorem Bet.trans {a b c : List (List Nat)} (h : Bet wt a b) (k : Bet wt b c) : Bet wt a c := fun i hi => ⟨(k i (h i hi).1).1, Nat.le_trans (k i (h i hi).1).2 (h i hi).2⟩
theorem better_keeps (O : Ord g wt cmp) {out : List (List Nat)} (h : InvW g wt out) {j : Nat} {l : List Nat} (hj : j < g.n) (hw : Way g l) (hl : l.getLast? = some j)
    (hp : ∀ p k m, l = p ++ [k] ++ m → m ≠ [] → out.getD k [] ≠ [] ∧ key wt (out.getD k []) ≤ key wt (p ++ [k])) :
    InvW g wt (better cmp out j l).1 ∧ ((better cmp out j l).2 = false → (better cmp out j l).1 = out ∧ out.getD j [] ≠ [] ∧ key wt (out.getD j []) ≤ key wt l) ∧
    ((better cmp out j l).2 = true → measW wt (better cmp out j l).1 < measW wt out) ∧ Bet wt out (better cmp out j l).1 ∧ ((better cmp out j l).1.getD j [] ≠ [] ∧ key wt ((better cmp out j l).1.getD j []) ≤ key wt l) := by
  unfold better
  by_cases hc : out.getD j [] ≠ [] ∧ cmp (out.getD j []) l ≤ 0
  · rw [if_pos hc]
    have hk := (O.le (h.way j hc.1).1 hw).1 hc.2
    exact ⟨h, fun _ => ⟨rfl, hc.1, hk⟩, fun e => by simp at e, Bet.refl _, hc.1, hk⟩
  · rw [if_neg hc]
    have hb : out.getD j [] = [] ∨ key wt l < key wt (out.getD j []) := by
      by_cases h1 : out.getD j [] = []
      · exact .inl h1
      · refine .inr ((key_of_cmp O (h.way j h1).1 hw).1 fun e => hc ⟨h1, e⟩)
    have hs := h.set O hj hw hl hb hp
    have hgj : (out.set j l).getD j [] = l := by rw [getD_set, if_pos ⟨rfl, by have := h.len; omega⟩]
    refine ⟨hs.1, fun e => by simp at e, fun _ => hs.2, ?_, ?_⟩
    · intro k hk
      by_cases e : j = k
      · subst e
        show (out.set j l).getD j [] ≠ [] ∧ key wt ((out.set j l).getD j []) ≤ _
        rw [hgj]
        refine ⟨hw.ne, ?_⟩
        rcases hb with hb | hb
        · exact absurd hb hk
        · omega
      · show (out.set j l).getD k [] ≠ [] ∧ key wt ((out.set j l).getD k []) ≤ _
        rw [getD_set, if_neg (fun h => e h.1)]
        exact ⟨hk, Nat.le_refl _⟩
    · show (out.set j l).getD j [] ≠ [] ∧ key wt ((out.set j l).getD j []) ≤ _
      rw [hgj]
      exact ⟨hw.ne, Nat.le_refl _⟩
theorem stepW_keeps (O : Ord g wt cmp) {i j : Nat} (hi : i ∈ g.all) (hj : j ∈ g.all) {s : List (List Nat) × Bool} (h : InvW g wt s.1) :
    InvW g wt (stepW g cmp i s j).1 ∧ measW wt (stepW g cmp i s j).1 ≤ measW wt s.1 ∧ Bet wt s.1 (stepW g cmp i s j).1 ∧
    (s.2 = true → (stepW g cmp i s j).2 = true) ∧
    ((stepW g cmp i s j).2 = false → stepW g cmp i s j = s ∧ (s.1.getD i [] ≠ [] → g.fol i j = true → j ∉ s.1.getD i [] → s.1.getD j [] ≠ [] ∧ key wt (s.1.getD j []) ≤ key wt (s.1.getD i [] ++ [j]))) ∧
    (s.2 = false → (stepW g cmp i s j).2 = true → measW wt (stepW g cmp i s j).1 < measW wt s.1) := by
  obtain ⟨hj1, hj2⟩ := mem_all.1 hj
  unfold stepW
  by_cases hc : s.1.getD i [] ≠ [] ∧ g.fol i j = true ∧ (s.1.getD i []).contains j = false
  · rw [if_pos hc]
    obtain ⟨c1, c2, c3⟩ := hc
    obtain ⟨hw, hla⟩ := h.way i c1
    obtain ⟨q, hq⟩ := getLast?_snoc hla
    have hnin : j ∉ s.1.getD i [] := by simpa using c3
    have hw' : Way g (s.1.getD i [] ++ [j]) := by
      rw [hq] at hw hnin ⊢
      exact hw.snoc hj1 hj2 c2 hnin
    have hp : ∀ p k m, s.1.getD i [] ++ [j] = p ++ [k] ++ m → m ≠ [] → s.1.getD k [] ≠ [] ∧ key wt (s.1.getD k []) ≤ key wt (p ++ [k]) := by
      intro p k m he hm
      obtain ⟨m', x, rfl⟩ : ∃ m' x, m = m' ++ [x] := ⟨m.dropLast, m.getLast hm, (List.dropLast_concat_getLast hm).symm⟩
      rw [← List.append_assoc] at he
      have he' := (List.append_inj' he rfl).1
      by_cases hm' : m' = []
      · subst hm'
        rw [List.append_nil] at he'
        have : k = i := by
          have h1 : (s.1.getD i []).getLast? = some k := by rw [he']; simp
          rw [hla] at h1
          exact (Option.some.inj h1).symm
        subst this
        rw [← he']
        exact ⟨c1, Nat.le_refl _⟩
      · exact h.pre i p k m' he' hm'
    obtain ⟨b1, b2, b3, b4, b5⟩ := better_keeps O h hj1 hw' (by simp) hp
    have b2' : (better cmp s.1 j (s.1.getD i [] ++ [j])).2 = false → measW wt (better cmp s.1 j (s.1.getD i [] ++ [j])).1 = measW wt s.1 := fun e => by rw [(b2 e).1]
    dsimp only
    generalize hB : better cmp s.1 j (s.1.getD i [] ++ [j]) = B at *
    refine ⟨b1, ?_, b4, fun e => by simp [e], fun e => ?_, fun e e2 => ?_⟩
    · cases hb : B.2
      · exact Nat.le_of_eq (b2' hb)
      · exact Nat.le_of_lt (b3 hb)
    · obtain ⟨e1, e2⟩ := Bool.or_eq_false_iff.1 e
      obtain ⟨f1, f2, f3⟩ := b2 e1
      refine ⟨?_, fun _ _ _ => ⟨f2, f3⟩⟩
      obtain ⟨s1, s2⟩ := s
      simp only at e2 f1 ⊢
      rw [e1, e2, f1]
      rfl
    · rw [e, Bool.or_false] at e2
      exact b3 e2
  · rw [if_neg hc]
    refine ⟨h, Nat.le_refl _, Bet.refl _, id, fun e => ⟨rfl, fun c1 c2 c3 => absurd ⟨c1, c2, by simpa using c3⟩ hc⟩, fun e e2 => ?_⟩
    rw [e] at e2
    simp at e2
theorem fold_keeps {σ : Type} (Inv : σ → Prop) (meas : σ → Nat) (bet : σ → σ → Prop) (fix : σ → Nat → Prop) (hr : ∀ s, bet s s) (ht : ∀ a b c, bet a b → bet b c → bet a c) (f : σ × Bool → Nat → σ × Bool) : ∀ (xs : List Nat)
    (_ : ∀ x ∈ xs, ∀ s : σ × Bool, Inv s.1 → Inv (f s x).1 ∧ meas (f s x).1 ≤ meas s.1 ∧ bet s.1 (f s x).1 ∧ (s.2 = true → (f s x).2 = true) ∧ ((f s x).2 = false → f s x = s ∧ fix s.1 x) ∧ (s.2 = false → (f s x).2 = true → meas (f s x).1 < meas s.1))
    (s : σ × Bool), Inv s.1 →
    Inv (xs.foldl f s).1 ∧ meas (xs.foldl f s).1 ≤ meas s.1 ∧ bet s.1 (xs.foldl f s).1 ∧ (s.2 = true → (xs.foldl f s).2 = true) ∧ ((xs.foldl f s).2 = false → xs.foldl f s = s ∧ ∀ x ∈ xs, fix s.1 x) ∧ (s.2 = false → (xs.foldl f s).2 = true → meas (xs.foldl f s).1 < meas s.1)
  | [], _, s, hI => ⟨hI, Nat.le_refl _, hr _, id, fun _ => ⟨rfl, by simp⟩, fun a b => by simp [a] at b⟩
  | x :: xs, hs, s, hI => by
    obtain ⟨a1, a2, a3, a4, a5, a6⟩ := hs x (List.mem_cons_self ..) s hI
    obtain ⟨b1, b2, b3, b4, b5, b6⟩ := fold_keeps Inv meas bet fix hr ht f xs (fun y hy => hs y (List.mem_cons_of_mem _ hy)) (f s x) a1
    refine ⟨b1, Nat.le_trans b2 a2, ht _ _ _ a3 b3, fun e => b4 (a4 e), fun e => ?_, fun e e2 => ?_⟩
    · obtain ⟨c1, c2⟩ := b5 e
      have e' : (f s x).2 = false := by rw [← c1]; exact e
      obtain ⟨d1, d2⟩ := a5 e'
      refine ⟨by rw [List.foldl_cons, c1, d1], ?_⟩
      intro y hy
      rcases List.mem_cons.1 hy with rfl | hy
      · exact d2
      · have := c2 y hy
        rw [d1] at this
        exact this
    · by_cases e3 : (f s x).2 = true
      · exact Nat.lt_of_le_of_lt b2 (a6 e e3)
      · have e3' : (f s x).2 = false := by simpa using e3
        have := b6 e3' e2
        exact Nat.lt_of_lt_of_le this a2
def FixW (g : Gr) (wt : Nat → Nat) (out : List (List Nat)) (i j : Nat) : Prop := out.getD i [] ≠ [] → g.fol i j = true → j ∉ out.getD i [] → out.getD j [] ≠ [] ∧ key wt (out.getD j []) ≤ key wt (out.getD i [] ++ [j])
theorem rowW_keeps (O : Ord g wt cmp) {i : Nat} (hi : i ∈ g.all) (s : List (List Nat) × Bool) (h : InvW g wt s.1) :
    InvW g wt (rowW g cmp s i).1 ∧ measW wt (rowW g cmp s i).1 ≤ measW wt s.1 ∧ Bet wt s.1 (rowW g cmp s i).1 ∧ (s.2 = true → (rowW g cmp s i).2 = true) ∧
    ((rowW g cmp s i).2 = false → rowW g cmp s i = s ∧ ∀ j ∈ g.all, FixW g wt s.1 i j) ∧ (s.2 = false → (rowW g cmp s i).2 = true → measW wt (rowW g cmp s i).1 < measW wt s.1) :=
  fold_keeps (InvW g wt) (measW wt) (Bet wt) (fun out j => FixW g wt out i j) Bet.refl (fun _ _ _ => Bet.trans) (stepW g cmp i) g.all (fun j hj s hs => stepW_keeps O hi hj hs) s h
theorem roundW_keeps (O : Ord g wt cmp) (out : List (List Nat)) (h : InvW g wt out) :
    InvW g wt (roundW g cmp out).1 ∧ Bet wt out (roundW g cmp out).1 ∧
    ((roundW g cmp out).2 = false → (roundW g cmp out).1 = out ∧ ∀ i ∈ g.all, ∀ j ∈ g.all, FixW g wt out i j) ∧ ((roundW g cmp out).2 = true → measW wt (roundW g cmp out).1 < measW wt out) := by
  obtain ⟨a1, a2, a3, a4, a5, a6⟩ := fold_keeps (InvW g wt) (measW wt) (Bet wt) (fun out i => ∀ j ∈ g.all, FixW g wt out i j) Bet.refl (fun _ _ _ => Bet.trans) (rowW g cmp) g.all (fun i hi s hs => rowW_keeps O hi s hs) (out, false) h
  refine ⟨a1, a3, fun e => ?_, fun e => a6 rfl e⟩
  obtain ⟨c1, c2⟩ := a5 e
  exact ⟨by unfold roundW; rw [c1], c2⟩
theorem runW_ends (O : Ord g wt cmp) : ∀ (m : Nat) (out : List (List Nat)), measW wt out < m → InvW g wt out →
    ∃ k o, runW g cmp k out = some o ∧ InvW g wt o ∧ Bet wt out o ∧ ∀ i ∈ g.all, ∀ j ∈ g.all, FixW g wt o i j
  | 0, out, h, _ => by omega
  | m + 1, out, h, hI => by
    obtain ⟨a1, a2, a3, a4⟩ := roundW_keeps O out hI
    cases hc : (roundW g cmp out).2 with
    | false =>
      obtain ⟨c1, c2⟩ := a3 hc
      exact ⟨1, out, by simp [runW, hc, c1], hI, Bet.refl _, c2⟩
    | true =>
      obtain ⟨k, o, h1, h2, h3, h4⟩ := runW_ends O m (roundW g cmp out).1 (by have := a4 hc; omega) a1
      exact ⟨k + 1, o, by simp [runW, hc, h1], h2, a2.trans h3, h4⟩
end
section
variable {g : Gr} {wt : Nat → Nat} {cmp : List Nat → List Nat → Int}
theorem getD_replicate {α : Type} (n j : Nat) (d : α) : (List.replicate n d).getD j d = d := by
  simp only [List.getD_eq_getElem?_getD, List.getElem?_replicate]
  split <;> rfl
theorem InvW.start : InvW g wt (List.replicate g.n []) := by
  refine ⟨by simp, fun j h => ?_, fun j p k m h => ?_⟩
  · rw [getD_replicate] at h; exact absurd rfl h
  · rw [getD_replicate] at h
    simp at h
theorem initW_fold (O : Ord g wt cmp) : ∀ (xs : List Nat), (∀ x ∈ xs, x ∈ g.all) → ∀ out, InvW g wt out →
    InvW g wt (xs.foldl (fun out i => if g.beg i then (better cmp out i [i]).1 else out) out) ∧ Bet wt out (xs.foldl (fun out i => if g.beg i then (better cmp out i [i]).1 else out) out) ∧
    ∀ i ∈ xs, g.beg i = true → (xs.foldl (fun out i => if g.beg i then (better cmp out i [i]).1 else out) out).getD i [] ≠ [] ∧ key wt ((xs.foldl (fun out i => if g.beg i then (better cmp out i [i]).1 else out) out).getD i []) ≤ key wt [i]
  | [], _, out, h => ⟨h, Bet.refl _, by simp⟩
  | x :: xs, hx, out, h => by
    simp only [List.foldl_cons]
    have hxa := hx x (List.mem_cons_self ..)
    obtain ⟨x1, x2⟩ := mem_all.1 hxa
    by_cases hb : g.beg x = true
    · rw [if_pos hb]
      obtain ⟨b1, b2, b3, b4, b5⟩ := better_keeps (cmp := cmp) O h x1 (Way.one x1 x2 hb) (by simp) (fun p k m he hm => by
        have := congrArg List.length he
        simp at this
        have : m.length = 0 := by omega
        exact absurd (List.eq_nil_of_length_eq_zero this) hm)
      obtain ⟨c1, c2, c3⟩ := initW_fold O xs (fun y hy => hx y (List.mem_cons_of_mem _ hy)) _ b1
      refine ⟨c1, b4.trans c2, fun i hi hbi => ?_⟩
      rcases List.mem_cons.1 hi with rfl | hi
      · exact ⟨(c2 i b5.1).1, Nat.le_trans (c2 i b5.1).2 b5.2⟩
      · exact c3 i hi hbi
    · rw [if_neg hb]
      obtain ⟨c1, c2, c3⟩ := initW_fold O xs (fun y hy => hx y (List.mem_cons_of_mem _ hy)) _ h
      refine ⟨c1, c2, fun i hi hbi => ?_⟩
      rcases List.mem_cons.1 hi with rfl | hi
      · exact absurd hbi hb
      · exact c3 i hi hbi
theorem initW_keeps (O : Ord g wt cmp) : InvW g wt (initW g cmp) ∧ ∀ i ∈ g.all, g.beg i = true → (initW g cmp).getD i [] ≠ [] ∧ key wt ((initW g cmp).getD i []) ≤ key wt [i] := by
  obtain ⟨h1, _, h3⟩ := initW_fold (cmp := cmp) O g.all (fun _ h => h) _ InvW.start
  exact ⟨h1, h3⟩
theorem least_at (O : Ord g wt cmp) {out : List (List Nat)} (hI : InvW g wt out) (hF : ∀ i ∈ g.all, ∀ j ∈ g.all, FixW g wt out i j)
    (hB : ∀ i ∈ g.all, g.beg i = true → out.getD i [] ≠ [] ∧ key wt (out.getD i []) ≤ key wt [i]) :
    ∀ (m : Nat) (w : List Nat) (j : Nat), w.length ≤ m → Way g (w ++ [j]) → out.getD j [] ≠ [] ∧ key wt (out.getD j []) ≤ key wt (w ++ [j])
  | m, [], j, _, hw => by
    have h1 := hw.own j (by simp)
    exact hB j (mem_all.2 h1) (hw.beg j (by simp))
  | 0, x :: w, j, h, _ => by simp at h
  | m + 1, x :: w, j, h, hw => by
    obtain ⟨q, i, hq⟩ : ∃ q i, x :: w = q ++ [i] := ⟨(x :: w).dropLast, (x :: w).getLast (by simp), (List.dropLast_concat_getLast (by simp)).symm⟩
    rw [hq] at h hw ⊢
    have hwq : Way g (q ++ [i]) := hw.front (by simp)
    have hi : i ∈ g.all := mem_all.2 (hw.own i (by simp))
    have hj : j ∈ g.all := mem_all.2 (hw.own j (by simp))
    have hfol : g.fol i j = true := hw.chn.last2
    obtain ⟨a1, a2⟩ := least_at O hI hF hB m q i (by simp at h; omega) hwq
    obtain ⟨b1, b2⟩ := hI.way i a1
    by_cases hin : j ∈ out.getD i []
    · obtain ⟨p, m', he⟩ := List.append_of_mem hin
      have he' : out.getD i [] = p ++ [j] ++ m' := by rw [he]; simp
      have hij : j ≠ i := by
        rintro rfl
        have := hw.nd
        rw [List.nodup_append] at this
        exact this.2.2 j (by simp) j (by simp) rfl
      have hm : m' ≠ [] := by
        rintro rfl
        rw [he', List.append_nil] at b2
        simp at b2
        exact hij b2
      obtain ⟨c1, c2⟩ := hI.pre i p j m' he' hm
      have d1 := key_front O (he' ▸ b1) (a := p ++ [j]) (by simp) hm
      rw [← he'] at d1
      have d2 := key_front O hw (a := q ++ [i]) (m := [j]) (by simp) (by simp)
      exact ⟨c1, by omega⟩
    · obtain ⟨c1, c2⟩ := hF i hi j hj a1 hfol hin
      have hw' : Way g (out.getD i [] ++ [j]) := by
        obtain ⟨q', hq'⟩ := getLast?_snoc b2
        obtain ⟨j1, j2⟩ := mem_all.1 hj
        rw [hq'] at b1 hin ⊢
        exact b1.snoc j1 j2 hfol hin
      have := key_snoc O b1 hwq hw' hw a2
      exact ⟨c1, by omega⟩
structure Least (g : Gr) (wt : Nat → Nat) (out : List (List Nat)) : Prop where
  len : out.length = g.n
  way : ∀ j, out.getD j [] ≠ [] → Way g (out.getD j []) ∧ (out.getD j []).getLast? = some j
  least : ∀ w j, Way g w → w.getLast? = some j → out.getD j [] ≠ [] ∧ key wt (out.getD j []) ≤ key wt w
theorem waysW_least (O : Ord g wt cmp) : ∃ k out, waysW g cmp k = some out ∧ Least g wt out := by
  obtain ⟨h1, h2⟩ := initW_keeps (cmp := cmp) O
  obtain ⟨k, o, a1, a2, a3, a4⟩ := runW_ends O _ _ (Nat.lt_succ_self _) h1
  refine ⟨k, o, a1, a2.len, a2.way, fun w j hw hl => ?_⟩
  obtain ⟨p, rfl⟩ := getLast?_snoc hl
  exact least_at O a2 a4 (fun i hi hb => ⟨(a3 i (h2 i hi hb).1).1, Nat.le_trans (a3 i (h2 i hi hb).1).2 (h2 i hi hb).2⟩) _ p j (Nat.le_refl _) hw
theorem planW_fold (O : Ord g wt cmp) {out : List (List Nat)} (L : Least g wt out) : ∀ (xs : List Nat) (best : List Nat), (best = [] ∨ Plan g best) →
    (let b := xs.foldl (pickW g cmp out) best
     (b = [] ∨ Plan g b) ∧ (best ≠ [] → b ≠ [] ∧ key wt b ≤ key wt best) ∧ ∀ i ∈ xs, g.fin i = true → out.getD i [] ≠ [] → b ≠ [] ∧ key wt b ≤ key wt (out.getD i []))
  | [], best, h => ⟨h, fun e => ⟨e, Nat.le_refl _⟩, by simp⟩
  | x :: xs, best, h => by
    simp only [List.foldl_cons]
    have key1 : (pickW g cmp out best x = [] ∨ Plan g (pickW g cmp out best x)) ∧ (best ≠ [] → pickW g cmp out best x ≠ [] ∧ key wt (pickW g cmp out best x) ≤ key wt best) ∧
        (g.fin x = true → out.getD x [] ≠ [] → pickW g cmp out best x ≠ [] ∧ key wt (pickW g cmp out best x) ≤ key wt (out.getD x [])) := by
      unfold pickW
      by_cases hc : out.getD x [] ≠ [] ∧ g.fin x = true ∧ (best = [] ∨ cmp (out.getD x []) best < 0)
      · rw [if_pos hc]
        obtain ⟨c1, c2, c3⟩ := hc
        obtain ⟨w1, w2⟩ := L.way x c1
        have hp : Plan g (out.getD x []) := ⟨w1, fun y hy => by rw [w2] at hy; obtain rfl := Option.some.inj hy; exact c2⟩
        refine ⟨.inr hp, fun hb => ⟨c1, ?_⟩, fun _ _ => ⟨c1, Nat.le_refl _⟩⟩
        rcases c3 with c3 | c3
        · exact absurd c3 hb
        · rcases h with h | h
          · exact absurd h hb
          · exact Nat.le_of_lt ((O.lt w1 h.way).1 c3)
      · rw [if_neg hc]
        refine ⟨h, fun hb => ⟨hb, Nat.le_refl _⟩, fun c2 c1 => ?_⟩
        have hb : best ≠ [] := fun e => hc ⟨c1, c2, .inl e⟩
        obtain ⟨w1, w2⟩ := L.way x c1
        refine ⟨hb, ?_⟩
        rcases h with h | h
        · exact absurd h hb
        · have : ¬ key wt (out.getD x []) < key wt best := fun e => hc ⟨c1, c2, .inr ((O.lt w1 h.way).2 e)⟩
          omega
    obtain ⟨a1, a2, a3⟩ := key1
    obtain ⟨b1, b2, b3⟩ := planW_fold O L xs (pickW g cmp out best x) a1
    refine ⟨b1, fun e => ?_, fun i hi c1 c2 => ?_⟩
    · obtain ⟨e1, e2⟩ := a2 e
      obtain ⟨f1, f2⟩ := b2 e1
      exact ⟨f1, Nat.le_trans f2 e2⟩
    · rcases List.mem_cons.1 hi with rfl | hi
      · obtain ⟨e1, e2⟩ := a3 c1 c2
        obtain ⟨f1, f2⟩ := b2 e1
        exact ⟨f1, Nat.le_trans f2 e2⟩
      · exact b3 i hi c1 c2
structure Best (g : Gr) (wt : Nat → Nat) (l : List Nat) : Prop where
  plan : l = [] ∨ Plan g l
  least : ∀ p, Plan g p → l ≠ [] ∧ key wt l ≤ key wt p
theorem planW_best (O : Ord g wt cmp) {out : List (List Nat)} (L : Least g wt out) : Best g wt (planW g cmp out) := by
  obtain ⟨a1, a2, a3⟩ := planW_fold O L (List.range g.n) [] (.inl rfl)
  refine ⟨a1, fun p hp => ?_⟩
  obtain ⟨q, i, hq⟩ : ∃ q i, p = q ++ [i] := ⟨p.dropLast, p.getLast hp.way.ne, (List.dropLast_concat_getLast hp.way.ne).symm⟩
  have hl : p.getLast? = some i := by rw [hq]; simp
  obtain ⟨b1, b2⟩ := L.least p i hp.way hl
  have hi := hp.way.own i (by rw [hq]; simp)
  obtain ⟨c1, c2⟩ := a3 i (List.mem_range.2 hi.1) (hp.fin i hl) b1
  exact ⟨c1, Nat.le_trans c2 b2⟩
theorem Best.same (O : Ord g wt cmp) {a b : List Nat} (ha : Best g wt a) (hb : Best g wt b) : a = b := by
  rcases ha.plan with h1 | h1
  · rcases hb.plan with h2 | h2
    · rw [h1, h2]
    · exact absurd h1 (ha.least b h2).1
  · rcases hb.plan with h2 | h2
    · exact absurd h2 (hb.least a h1).1
    · exact key_inj O h1.way h2.way (Nat.le_antisymm (ha.least b h2).2 (hb.least a h1).2)
end
section
variable {g : Gr} {wt : Nat → Nat} {cmp : List Nat → List Nat → Int}
def visitR (g : Gr) (wo : Int) : Nat → List Bool → Nat → Option (List Bool)
  | 0, _, _ => none
  | k + 1, met, i =>
    if met.getD i false = true ∨ (i : Int) = wo then some met
    else (List.range g.n).foldlM (fun met j => if g.fol i j = true then visitR g wo k met j else some met) (met.set i true)
def starts (g : Gr) : List Nat := g.all.filter g.beg
def metR (g : Gr) (wo : Int) (k : Nat) : Option (List Bool) := (starts g).foldlM (visitR g wo k) (List.replicate g.n false)
def reachR (g : Gr) (met : List Bool) : List Nat := g.all.filter fun i => met.getD i false
def Closed (g : Gr) (wo : Int) (S : Nat → Prop) : Prop := ∀ i j, S i → j < g.n → g.fol i j = true → (j : Int) ≠ wo → S j
structure Vis (g : Gr) (wo : Int) (S : Nat → Prop) (met met' : List Bool) : Prop where
  len : met'.length = met.length
  up : ∀ x, met.getD x false = true → met'.getD x false = true
  sub : ∀ x, met'.getD x false = true → met.getD x false = true ∨ S x
  cl : ∀ x, met'.getD x false = true → met.getD x false = true ∨ ∀ j, j < g.n → g.fol x j = true → (j : Int) = wo ∨ met'.getD j false = true
theorem Vis.refl {wo : Int} {S : Nat → Prop} (met : List Bool) : Vis g wo S met met := ⟨rfl, fun _ h => h, fun _ h => .inl h, fun _ h => .inl h⟩
theorem Vis.trans {wo : Int} {S : Nat → Prop} {a b c : List Bool} (h : Vis g wo S a b) (k : Vis g wo S b c) : Vis g wo S a c := by
  refine ⟨k.len.trans h.len, fun x hx => k.up x (h.up x hx), fun x hx => ?_, fun x hx => ?_⟩
  · rcases k.sub x hx with h1 | h1
    · exact h.sub x h1
    · exact .inr h1
  · rcases k.cl x hx with h1 | h1
    · rcases h.cl x h1 with h2 | h2
      · exact .inl h2
      · refine .inr fun j hj hf => ?_
        rcases h2 j hj hf with h3 | h3
        · exact .inl h3
        · exact .inr (k.up j h3)
    · exact .inr h1
def unmet (met : List Bool) : Nat := met.countP (fun b => !b)
theorem unmet_up : ∀ (a b : List Bool), b.length = a.length → (∀ x, a.getD x false = true → b.getD x false = true) → unmet b ≤ unmet a
  | [], [], _, _ => Nat.le_refl _
  | [], _ :: _, h, _ => by simp at h
  | _ :: _, [], h, _ => by simp at h
  | x :: a, y :: b, h, hu => by
    have h1 := unmet_up a b (by simpa using h) (fun z hz => by have := hu (z + 1); simpa using this (by simpa using hz))
    have h2 := hu 0
    simp only [List.getD_cons_zero] at h2
    unfold unmet at *
    simp only [List.countP_cons]
    cases x <;> cases y <;> simp_all <;> omega
theorem unmet_set : ∀ (a : List Bool) (i : Nat), i < a.length → a.getD i false = false → unmet (a.set i true) < unmet a
  | [], i, h, _ => by simp at h
  | x :: a, 0, _, h => by
    simp only [List.getD_cons_zero] at h
    subst h
    simp [unmet, List.countP_cons]
  | x :: a, i + 1, hi, h => by
    have := unmet_set a i (by simpa using hi) (by simpa using h)
    unfold unmet at *
    simp only [List.set_cons_succ, List.countP_cons]
    omega
theorem foldlM_vis {wo : Int} {S : Nat → Prop} (f : List Bool → Nat → Option (List Bool)) (G : Nat → List Bool → Prop) (hG : ∀ x a b, (∀ y, a.getD y false = true → b.getD y false = true) → G x a → G x b) :
    ∀ (xs : List Nat), (∀ x ∈ xs, ∀ a b, a.length = g.n → f a x = some b → Vis g wo S a b ∧ G x b) → ∀ a b, a.length = g.n → xs.foldlM f a = some b → Vis g wo S a b ∧ ∀ x ∈ xs, G x b
  | [], _, a, b, _, h => by
    simp at h
    subst h
    exact ⟨Vis.refl _, by simp⟩
  | x :: xs, hs, a, b, hl, h => by
    rw [List.foldlM_cons] at h
    obtain ⟨c, h1, h2⟩ := Option.bind_eq_some_iff.1 h
    obtain ⟨a1, a2⟩ := hs x (List.mem_cons_self ..) a c hl h1
    obtain ⟨b1, b2⟩ := foldlM_vis f G hG xs (fun y hy => hs y (List.mem_cons_of_mem _ hy)) c b (a1.len.trans hl) h2
    refine ⟨a1.trans b1, fun y hy => ?_⟩
    rcases List.mem_cons.1 hy with rfl | hy
    · exact hG y c b b1.up a2
    · exact b2 y hy
theorem getD_set_true (met : List Bool) (i x : Nat) : (met.set i true).getD x false = true ↔ met.getD x false = true ∨ (x = i ∧ i < met.length) := by
  rw [getD_set]
  by_cases h : i = x
  · subst h
    by_cases h2 : i < met.length
    · simp [h2]
    · simp [h2]
  · simp [h]
    intro e
    exact absurd e.symm h
theorem visitR_vis {wo : Int} {S : Nat → Prop} (hS : Closed g wo S) : ∀ (k : Nat) (met met' : List Bool) (i : Nat), met.length = g.n → i < g.n → ((i : Int) ≠ wo → S i) → visitR g wo k met i = some met' →
    Vis g wo S met met' ∧ ((i : Int) = wo ∨ met'.getD i false = true)
  | 0, _, _, _, _, _, _, h => by simp [visitR] at h
  | k + 1, met, met', i, hl, hi, hSi, h => by
    simp only [visitR] at h
    by_cases hc : met.getD i false = true ∨ (i : Int) = wo
    · rw [if_pos hc] at h
      obtain rfl := Option.some.inj h
      exact ⟨Vis.refl _, hc.symm⟩
    · rw [if_neg hc] at h
      have hwo : (i : Int) ≠ wo := fun e => hc (.inr e)
      have hm : met.getD i false = false := by
        cases e : met.getD i false
        · rfl
        · exact absurd (.inl e) hc
      have h0 := hSi hwo
      obtain ⟨a1, a2⟩ := foldlM_vis (g := g) (wo := wo) (S := S) _ (fun j b => g.fol i j = true → (j : Int) = wo ∨ b.getD j false = true)
        (fun j a b hab h hf => (h hf).imp id (hab j)) (List.range g.n) (fun j hj a b hla hf => by
          have hj' := List.mem_range.1 hj
          by_cases hfo : g.fol i j = true
          · rw [if_pos hfo] at hf
            obtain ⟨b1, b2⟩ := visitR_vis hS k a b j hla hj' (fun hj2 => hS i j h0 hj' hfo hj2) hf
            exact ⟨b1, fun _ => b2⟩
          · rw [if_neg hfo] at hf
            obtain rfl := Option.some.inj hf
            exact ⟨Vis.refl _, fun e => absurd e hfo⟩) (met.set i true) met' (by simpa using hl) h
      refine ⟨⟨by simpa using a1.len, fun x hx => a1.up x ((getD_set_true met i x).2 (.inl hx)), fun x hx => ?_, fun x hx => ?_⟩, .inr (a1.up i ((getD_set_true met i i).2 (.inr ⟨rfl, by omega⟩)))⟩
      · rcases a1.sub x hx with b | b
        · rcases (getD_set_true met i x).1 b with b | b
          · exact .inl b
          · exact .inr (b.1 ▸ h0)
        · exact .inr b
      · rcases a1.cl x hx with b | b
        · rcases (getD_set_true met i x).1 b with b | b
          · exact .inl b
          · obtain ⟨rfl, _⟩ := b
            exact .inr fun j hj hf => a2 j (List.mem_range.2 hj) hf
        · exact .inr b
theorem foldlM_some (f : List Bool → Nat → Option (List Bool)) (P : List Bool → Prop) : ∀ (xs : List Nat), (∀ x ∈ xs, ∀ a, P a → ∃ b, f a x = some b ∧ P b) → ∀ a, P a → ∃ b, xs.foldlM f a = some b ∧ P b
  | [], _, a, h => ⟨a, rfl, h⟩
  | x :: xs, hs, a, h => by
    obtain ⟨b, h1, h2⟩ := hs x (List.mem_cons_self ..) a h
    obtain ⟨c, h3, h4⟩ := foldlM_some f P xs (fun y hy => hs y (List.mem_cons_of_mem _ hy)) b h2
    exact ⟨c, by rw [List.foldlM_cons, h1]; exact h3, h4⟩
theorem visitR_some {wo : Int} : ∀ (k : Nat) (met : List Bool) (i : Nat), met.length = g.n → i < g.n → unmet met < k → ∃ met', visitR g wo k met i = some met'
  | 0, _, _, _, _, h => by omega
  | k + 1, met, i, hl, hi, hk => by
    simp only [visitR]
    by_cases hc : met.getD i false = true ∨ (i : Int) = wo
    · exact ⟨met, by rw [if_pos hc]⟩
    · rw [if_neg hc]
      have hm : met.getD i false = false := by
        cases e : met.getD i false
        · rfl
        · exact absurd (.inl e) hc
      have h0 := unmet_set met i (by omega) hm
      obtain ⟨b, h1, _⟩ := foldlM_some (fun met j => if g.fol i j = true then visitR g wo k met j else some met) (fun a => a.length = g.n ∧ unmet a < k) (List.range g.n) (fun j hj a ha => by
        have hj' := List.mem_range.1 hj
        by_cases hfo : g.fol i j = true
        · obtain ⟨b, hb⟩ := visitR_some k a j ha.1 hj' ha.2
          obtain ⟨v, _⟩ := visitR_vis (g := g) (wo := wo) (S := fun _ => True) (fun _ _ _ _ _ _ => trivial) k a b j ha.1 hj' (fun _ => trivial) hb
          exact ⟨b, by rw [if_pos hfo]; exact hb, v.len.trans ha.1, Nat.lt_of_le_of_lt (unmet_up a b v.len v.up) ha.2⟩
        · exact ⟨a, by rw [if_neg hfo], ha⟩) (met.set i true) ⟨by simpa using hl, by omega⟩
      exact ⟨b, h1⟩
theorem unmet_le (met : List Bool) : unmet met ≤ met.length := List.countP_le_length
inductive Rch (g : Gr) (wo : Int) : Nat → Prop
  | start (i : Nat) : i ∈ g.all → g.beg i = true → (i : Int) ≠ wo → Rch g wo i
  | next (i j : Nat) : Rch g wo i → j < g.n → g.fol i j = true → (j : Int) ≠ wo → Rch g wo j
theorem Rch.closed {wo : Int} : Closed g wo (Rch g wo) := fun i j h1 h2 h3 h4 => .next i j h1 h2 h3 h4
theorem metR_some (wo : Int) (k : Nat) (hk : g.n < k) : ∃ met, metR g wo k = some met := by
  obtain ⟨b, h, _⟩ := foldlM_some (visitR g wo k) (fun a => a.length = g.n) (starts g) (fun x hx a ha => by
    have hx' := (mem_all.1 (List.mem_filter.1 hx).1).1
    obtain ⟨b, hb⟩ := visitR_some (wo := wo) k a x ha hx' (by have := unmet_le a; omega)
    obtain ⟨v, _⟩ := visitR_vis (g := g) (wo := wo) (S := fun _ => True) (fun _ _ _ _ _ _ => trivial) k a b x ha hx' (fun _ => trivial) hb
    exact ⟨b, hb, v.len.trans ha⟩) (List.replicate g.n false) (by simp)
  exact ⟨b, h⟩
theorem metR_iff {wo : Int} {k : Nat} {met : List Bool} (h : metR g wo k = some met) : met.length = g.n ∧ ∀ x, met.getD x false = true ↔ Rch g wo x := by
  obtain ⟨v, hs⟩ := foldlM_vis (g := g) (wo := wo) (S := Rch g wo) (visitR g wo k) (fun i b => (i : Int) = wo ∨ b.getD i false = true) (fun i a b hab h => h.imp id (hab i)) (starts g)
    (fun x hx a b ha hb => by
      obtain ⟨h1, h2⟩ := List.mem_filter.1 hx
      exact visitR_vis Rch.closed k a b x ha (mem_all.1 h1).1 (fun hw => .start x h1 h2 hw) hb) (List.replicate g.n false) met (by simp) h
  have h0 : ∀ x, (List.replicate g.n false).getD x false = true → False := fun x hx => by rw [getD_replicate] at hx; simp at hx
  refine ⟨by simpa using v.len, fun x => ⟨fun hx => (v.sub x hx).elim (fun e => (h0 x e).elim) id, fun hx => ?_⟩⟩
  induction hx with
  | start i h1 h2 h3 => exact (hs i (List.mem_filter.2 ⟨h1, h2⟩)).elim (fun e => absurd e h3) id
  | next i j _ h2 h3 h4 ih =>
    rcases v.cl i ih with e | e
    · exact (h0 i e).elim
    · exact (e j h2 h3).elim (fun e => absurd e h4) id
def Kin (g : Gr) : Prop := ∀ i j, g.own i = true → g.fol i j = true → g.own j = true
theorem Rch.all {wo : Int} (K : Kin g) {i : Nat} (h : Rch g wo i) : i ∈ g.all := by
  induction h with
  | start i h1 _ _ => exact h1
  | next i j _ h2 h3 _ ih => exact mem_all.2 ⟨h2, K i j (mem_all.1 ih).2 h3⟩
theorem mem_reachR {wo : Int} (K : Kin g) {k : Nat} {met : List Bool} (h : metR g wo k = some met) (x : Nat) : x ∈ reachR g met ↔ Rch g wo x := by
  unfold reachR
  rw [List.mem_filter, (metR_iff h).2]
  exact ⟨fun h => h.2, fun h => ⟨h.all K, h⟩⟩
theorem Rch.way {wo : Int} (K : Kin g) {i : Nat} (h : Rch g wo i) : ∃ w, Way g w ∧ w.getLast? = some i ∧ ∀ x ∈ w, (x : Int) ≠ wo := by
  induction h with
  | start i h1 h2 h3 =>
    obtain ⟨a, b⟩ := mem_all.1 h1
    exact ⟨[i], Way.one a b h2, by simp, by simpa using h3⟩
  | next i j hi h2 h3 h4 ih =>
    obtain ⟨w, hw, hl, hx⟩ := ih
    obtain ⟨p, rfl⟩ := getLast?_snoc hl
    by_cases hj : j ∈ p ++ [i]
    · obtain ⟨q, m, he⟩ := List.append_of_mem hj
      have he' : p ++ [i] = (q ++ [j]) ++ m := by rw [he]; simp
      refine ⟨q ++ [j], ?_, by simp, fun x hx' => hx x (by rw [he']; exact List.mem_append_left _ hx')⟩
      rw [he'] at hw
      exact hw.front (by simp)
    · have := K i j (hw.own i (by simp)).2 h3
      refine ⟨p ++ [i] ++ [j], hw.snoc h2 this h3 hj, by simp, fun x hx' => ?_⟩
      rcases List.mem_append.1 hx' with e | e
      · exact hx x e
      · obtain rfl : x = j := by simpa using e
        exact h4
theorem Way.rch {wo : Int} : ∀ (m : Nat) (w : List Nat) (i : Nat), w.length ≤ m → Way g (w ++ [i]) → (∀ x ∈ w ++ [i], (x : Int) ≠ wo) → Rch g wo i
  | m, [], i, _, hw, hx => .start i (mem_all.2 (hw.own i (by simp))) (hw.beg i (by simp)) (hx i (by simp))
  | 0, x :: w, j, h, _, _ => by simp at h
  | m + 1, x :: w, j, h, hw, hx => by
    obtain ⟨q, i, hq⟩ : ∃ q i, x :: w = q ++ [i] := ⟨(x :: w).dropLast, (x :: w).getLast (by simp), (List.dropLast_concat_getLast (by simp)).symm⟩
    rw [hq] at h hw hx
    have := Way.rch m q i (by simp at h; omega) (hw.front (by simp)) (fun y hy => hx y (List.mem_append_left _ hy))
    exact .next i j this (hw.own j (by simp)).1 hw.chn.last2 (hx j (by simp))
theorem plan_iff_rch {wo : Int} (K : Kin g) : (∃ p, Plan g p ∧ ∀ x ∈ p, (x : Int) ≠ wo) ↔ ∃ i, Rch g wo i ∧ g.fin i = true := by
  constructor
  · rintro ⟨p, hp, hx⟩
    obtain ⟨q, i, hq⟩ : ∃ q i, p = q ++ [i] := ⟨p.dropLast, p.getLast hp.way.ne, (List.dropLast_concat_getLast hp.way.ne).symm⟩
    subst hq
    exact ⟨i, Way.rch _ q i (Nat.le_refl _) hp.way hx, hp.fin i (by simp)⟩
  · rintro ⟨i, hi, hf⟩
    obtain ⟨w, h1, h2, h3⟩ := hi.way K
    exact ⟨w, ⟨h1, fun x hx => by rw [h2] at hx; obtain rfl := Option.some.inj hx; exact hf⟩, h3⟩
end
end Go.Proofs.YtflolfbkpjgjaaaGreatDoor
end
section
namespace Go.Proofs.YtflolfbkpjgjaaaGreatDoor
open Go.RowKit Go.Maps Go.Proofs.YtflolfbkpjgjaaaGreatDoorW.PrintWords Go.Proofs.YtflolfbkpjgjaaaGreatDoorW.PrintMore
theorem plainElem_bool_inv {H : Type} {P : Program} {e : TypeId} (he : P.underlying e = some .bool) {v : Value} {z : DataW H × List MemPlace} (h : plainElem P e v = some z) : ∃ x, v = .bool x ∧ z = (.lit (.bool x), []) := by
  unfold plainElem at h
  rw [he] at h
  cases v <;> simp at h
  exact ⟨_, rfl, h.symm⟩
def metF (met : List Bool) (i : Int) : Bool := decide (0 ≤ i) && met.getD i.toNat false
def MetAt (w : World) (b : Nat) (met : List Bool) : Prop :=
  ∃ D : DataW Unit, w.ownsMap Tryz.prog 3 (plainElem Tryz.prog 4) b (met.count true) D ∧ ∀ i : Int, D.atKey (.int .i64 i) (.lit (.bool false)) = .lit (.bool (metF met i))
theorem keyed3 : Keyed Tryz.prog 3 := int_keyed Tryz.underlying3
theorem zero4 (w : World) : (zeroValue 4).run Tryz.prog w = .ok (.bool false) w := by kernel_rfl
theorem MetAt.look {w : World} {b : Nat} {met : List Bool} (h : MetAt w b met) (i : Int) (hw : (Lit.int .i64 i).wf = true) :
    (Instr.lookup 131 (.map (some b)) (.int .i64 i) false).run Tryz.prog w = .ok (.bool (metF met i)) w := by
  obtain ⟨D, ho, hD⟩ := h
  obtain ⟨v, ps, hrun, hv⟩ := ho.lookup keyed3 Tryz.underlying131 (zero4 w) (plainElem_bool Tryz.underlying4 false) (keyOf_int_mk Tryz.underlying3 hw)
  obtain ⟨x, rfl, hx⟩ := plainElem_bool_inv Tryz.underlying4 hv
  simp only [Prod.mk.injEq] at hx
  have := hx.1
  rw [hD i] at this
  simp only [DataW.lit.injEq, Lit.bool.injEq] at this
  rw [hrun, this]
theorem count_set : ∀ (met : List Bool) (i : Nat), i < met.length → met.getD i false = false → (met.set i true).count true = met.count true + 1
  | [], i, h, _ => by simp at h
  | x :: met, 0, _, h => by
    simp only [List.getD_cons_zero] at h
    subst h
    simp
  | x :: met, i + 1, h, hf => by
    have := count_set met i (by simpa using h) (by simpa using hf)
    simp only [List.set_cons_succ, List.count_cons, this]
    omega
theorem MetAt.set {w w' : World} {b : Nat} {met : List Bool} (i : Nat) (hi : i < met.length) (hf : met.getD i false = false) (D : DataW Unit)
    (hD : ∀ i : Int, D.atKey (.int .i64 i) (.lit (.bool false)) = .lit (.bool (metF met i))) (hm : Maps.IsMap D)
    (ho : w'.ownsMap Tryz.prog 3 (plainElem Tryz.prog 4) b (met.count true + 1) (D.put (.int .i64 (i : Int)) (.lit (.bool true)))) : MetAt w' b (met.set i true) := by
  refine ⟨_, by rw [count_set met i hi hf]; exact ho, fun j => ?_⟩
  by_cases e : j = (i : Int)
  · subst e
    rw [Maps.atKey_put_same hm (by simp [WideAt.IsKeyLit])]
    simp [metF, List.getD_eq_getElem?_getD, hi]
  · rw [Maps.atKey_put_other (fun h => e (by injection h)), hD j]
    congr 2
    unfold metF
    by_cases h0 : 0 ≤ j
    · rw [decide_eq_true h0, Bool.true_and, Bool.true_and, getD_set, if_neg (fun h => e (by omega))]
    · rw [decide_eq_false h0, Bool.false_and, Bool.false_and]
theorem MetAt.kept {w w' : World} {b : Nat} {met : List Bool} {row : Option Nat} (h : MetAt w b met) (hg : w.grownBy w' row) (hne : some b ≠ row) : MetAt w' b met := by
  obtain ⟨D, ho, hD⟩ := h
  exact ⟨D, ho.kept hg hne, hD⟩
theorem MetAt.below {w w' : World} {b : Nat} {met : List Bool} (h : MetAt w b met) (hb : Below w.heap.size w w') : MetAt w' b met := h.kept (grown_of_below hb none) (by simp)
end Go.Proofs.YtflolfbkpjgjaaaGreatDoor
end
section
namespace Go.Proofs.YtflolfbkpjgjaaaGreatDoor
open Go.RowKit Go.Proofs.YtflolfbkpjgjaaaGreatDoorW.PrintWords Go.Proofs.YtflolfbkpjgjaaaGreatDoorW.PrintMore
def grOf (r : Ros) (gate : Int) : Gr where
  n := r.turns.length
  own := fun i => (tn r (i : Int)).gate == gate
  beg := fun i => begB r (i : Int)
  fin := fun i => endB r (i : Int)
  fol := fun i j => folB r (i : Int) (j : Int)
  cost := fun i => (tn r (i : Int)).cost
def capsV (bm bw br bv : Nat) : Array Value := #[.pointer (some ⟨bm, 0, none⟩), .pointer (some ⟨bw, 0, none⟩), .pointer (some ⟨br, 0, none⟩), .pointer (some ⟨bv, 0, none⟩)]
structure VisW (w0 W : World) (bm bw br bv mb : Nat) (r : Ros) (wo : Int) (A : Option Addr) (c : Nat) (T : Option Addr) (d : Nat) : Prop where
  base : Below w0.heap.size w0 W
  hm : W.heap[bm]? = some (.cells #[.map (some mb)] 131 (0, 0))
  hw : W.heap[bw]? = some (.cells #[.int .i64 wo] 3 (0, 0))
  hr : W.heap[br]? = some (.cells (rosC r A c T d) 25 (0, 0))
  hv : W.heap[bv]? = some (.cells #[.func (.func 139) #[] (capsV bm bw br bv)] 132 (0, 0))
  ne : bm ≠ mb ∧ bw ≠ mb ∧ br ≠ mb ∧ bv ≠ mb
  mb : w0.heap.size ≤ mb
theorem VisW.grown {w0 W W' : World} {bm bw br bv mb : Nat} {r : Ros} {wo : Int} {A : Option Addr} {c : Nat} {T : Option Addr} {d : Nat} (h : VisW w0 W bm bw br bv mb r wo A c T d) (hg : W.grownBy W' (some mb)) : VisW w0 W' bm bw br bv mb r wo A c T d :=
  ⟨h.base.grown hg h.base.size (fun k hk => by injection hk with hk; have := h.mb; omega), blk_grown h.hm hg (fun e => h.ne.1 (by injection e)), blk_grown h.hw hg (fun e => h.ne.2.1 (by injection e)), blk_grown h.hr hg (fun e => h.ne.2.2.1 (by injection e)), blk_grown h.hv hg (fun e => h.ne.2.2.2 (by injection e)), h.ne, h.mb⟩
theorem VisW.below {w0 W W' : World} {bm bw br bv mb : Nat} {r : Ros} {wo : Int} {A : Option Addr} {c : Nat} {T : Option Addr} {d : Nat} (h : VisW w0 W bm bw br bv mb r wo A c T d) (hb : Below W.heap.size W W') : VisW w0 W' bm bw br bv mb r wo A c T d :=
  h.grown (grown_of_below hb _)
theorem VisW.ros {w0 W : World} {bm bw br bv mb : Nat} {r : Ros} {wo : Int} {A : Option Addr} {c : Nat} {T : Option Addr} {d : Nat} (h : VisW w0 W bm bw br bv mb r wo A c T d) (hR : RosAt w0 (.agg (rosC r A c T d)) r) : RosAt W (.agg (rosC r A c T d)) r := hR.below h.base
theorem VisW.cells {w0 W : World} {bm bw br bv mb : Nat} {r : Ros} {wo : Int} {A : Option Addr} {c : Nat} {T : Option Addr} {d : Nat} (h : VisW w0 W bm bw br bv mb r wo A c T d) :
    W.cell? ⟨bm, 0, none⟩ = some (.map (some mb)) ∧ W.cell? ⟨bw, 0, none⟩ = some (.int .i64 wo) ∧ W.cell? ⟨bv, 0, none⟩ = some (.func (.func 139) #[] (capsV bm bw br bv)) :=
  ⟨(blk_cell h.hm 0).trans rfl, (blk_cell h.hw 0).trans rfl, (blk_cell h.hv 0).trans rfl⟩
def VisSaid (k : Nat) : Prop := ∀ (w0 W : World) (bm bw br bv mb : Nat) (r : Ros) (gate : Int) (wo : Int) (A : Option Addr) (c : Nat) (T : Option Addr) (d : Nat) (met met' : List Bool) (i : Nat),
  Valid r → RosAt w0 (.agg (rosC r A c T d)) r → VisW w0 W bm bw br bv mb r wo A c T d → MetAt W mb met → met.length = r.turns.length → i < r.turns.length → visitR (grOf r gate) wo k met i = some met' →
  Calls Tryz.prog 139 #[.int .i64 (i : Int), .pointer (some ⟨bm, 0, none⟩), .pointer (some ⟨bw, 0, none⟩), .pointer (some ⟨br, 0, none⟩), .pointer (some ⟨bv, 0, none⟩)] W fun e w' => e = .returned (.tuple #[]) ∧ MetAt w' mb met' ∧ W.grownBy w' (some mb)
theorem metF_nat (met : List Bool) (i : Nat) : metF met (i : Int) = met.getD i false := by
  unfold metF
  rw [decide_eq_true (Int.natCast_nonneg i), Bool.true_and]
  rfl
set_option maxHeartbeats 2000000 in
set_option maxRecDepth 100000 in
theorem visit_met (w0 W : World) (bm bw br bv mb : Nat) (r : Ros) (wo : Int) (A : Option Addr) (c : Nat) (T : Option Addr) (d : Nat) (met : List Bool) (i : Nat) (V : VisW w0 W bm bw br bv mb r wo A c T d) (hM : MetAt W mb met) (hi : i < 24)
    (h : met.getD i false = true ∨ (i : Int) = wo) :
    Calls Tryz.prog 139 #[.int .i64 (i : Int), .pointer (some ⟨bm, 0, none⟩), .pointer (some ⟨bw, 0, none⟩), .pointer (some ⟨br, 0, none⟩), .pointer (some ⟨bv, 0, none⟩)] W fun e w' => e = .returned (.tuple #[]) ∧ W = w' := by
  obtain ⟨q0, q1, q2⟩ := V.cells
  have hlook := hM.look (i : Int) (WalkArith.wf_i64 (by omega))
  rw [metF_nat] at hlook
  clear V hM
  generalize met.getD i false = b at *
  cases b
  · have e2 : ((i : Int) == wo) = true := beq_iff_eq.2 (by simpa using h)
    clear h
    go_enter Tryz.func139, Tryz.ntmps139
    go_wp2
    exact bodyPost_ret (v := .tuple #[]) (by simp [results, Tryz.results139, go_sem]) rfl ⟨rfl, rfl⟩
  · clear h
    go_enter Tryz.func139, Tryz.ntmps139
    go_wp2
    exact bodyPost_ret (v := .tuple #[]) (by simp [results, Tryz.results139, go_sem]) rfl ⟨rfl, rfl⟩
theorem keyOf3 (i : Int) (h : (Lit.int .i64 i).wf = true) : keyOf Tryz.prog 3 (.int .i64 i) = some (.int .i64 i) := Go.Maps.keyOf_int_mk Tryz.underlying3 h
theorem fold_step {r : Ros} {gate wo : Int} {k i j : Nat} {mk met' : List Bool} (h : ((List.range r.turns.length).drop j).foldlM (fun (met : List Bool) (j : Nat) => if folB r (i : Int) (j : Int) = true then visitR (grOf r gate) wo k met j else some met) mk = some met') (hj : j < r.turns.length) :
    (folB r (i : Int) (j : Int) = true → mk.length = r.turns.length → ∃ mk2, visitR (grOf r gate) wo k mk j = some mk2 ∧ ((List.range r.turns.length).drop (j + 1)).foldlM (fun (met : List Bool) (j : Nat) => if folB r (i : Int) (j : Int) = true then visitR (grOf r gate) wo k met j else some met) mk2 = some met' ∧ mk2.length = r.turns.length) ∧
    (folB r (i : Int) (j : Int) = false → ((List.range r.turns.length).drop (j + 1)).foldlM (fun (met : List Bool) (j : Nat) => if folB r (i : Int) (j : Int) = true then visitR (grOf r gate) wo k met j else some met) mk = some met') := by
  rw [List.drop_eq_getElem_cons (by simpa using hj), List.foldlM_cons, List.getElem_range] at h
  constructor
  · intro hf hl
    rw [if_pos hf] at h
    cases e : visitR (grOf r gate) wo k mk j with
    | none => rw [e] at h; cases h
    | some mk2 =>
      rw [e] at h
      refine ⟨mk2, rfl, h, ?_⟩
      obtain ⟨v, _⟩ := visitR_vis (g := grOf r gate) (wo := wo) (S := fun _ => True) (fun _ _ _ _ _ _ => trivial) k mk mk2 j hl hj (fun _ => trivial) e
      rw [v.len, hl]
  · intro hf
    rw [if_neg (by rw [hf]; simp)] at h
    exact h
theorem fold_end {r : Ros} {gate wo : Int} {k i j : Nat} {mk met' : List Bool} (h : ((List.range r.turns.length).drop j).foldlM (fun (met : List Bool) (j : Nat) => if folB r (i : Int) (j : Int) = true then visitR (grOf r gate) wo k met j else some met) mk = some met') (hj : j = r.turns.length) : mk = met' := by
  rw [List.drop_eq_nil_of_le (by simp; omega)] at h
  exact Option.some.inj h
set_option maxHeartbeats 4000000 in
set_option maxRecDepth 100000 in
theorem visit_calls : ∀ k, VisSaid k := by
  intro k
  induction k with
  | zero => intro w0 W bm bw br bv mb r gate wo A c T d met met' i V hR hW hM hl hi h; simp [visitR] at h
  | succ k ih =>
    intro w0 W bm bw br bv mb r gate wo A c T d met met' i V hR hW hM hl hi h
    have h24 : r.turns.length ≤ 24 := V.turns
    by_cases hc : met.getD i false = true ∨ (i : Int) = wo
    · have e : met' = met := by simp only [visitR] at h; rw [if_pos hc] at h; exact (Option.some.inj h).symm
      subst e
      refine (visit_met w0 W bm bw br bv mb r wo A c T d met' i hW hM (by omega) hc).mono ?_
      rintro e w' ⟨he, rfl⟩
      exact ⟨he, hM, World.grownBy.refl _ _⟩
    · have hf : (List.range r.turns.length).foldlM (fun (met : List Bool) (j : Nat) => if folB r (i : Int) (j : Int) = true then visitR (grOf r gate) wo k met j else some met) (met.set i true) = some met' := by
        simp only [visitR] at h; rw [if_neg hc] at h; exact h
      have hm0 : met.getD i false = false := by
        cases e : met.getD i false
        · rfl
        · exact absurd (.inl e) hc
      have e2 : ((i : Int) == wo) = false := beq_eq_false_iff_ne.2 (fun e => hc (.inr e))
      have HF := Aside0.mk hf
      have HV := Aside0.mk V
      have HR := Aside0.mk hR
      have HW := Aside0.mk hW
      have HI := Aside0.mk ih
      have HL := Aside0.mk hl
      clear h hf hc V hR ih
      have hlook := hM.look (i : Int) (WalkArith.wf_i64 (by omega))
      rw [metF_nat, hm0] at hlook
      have hkey := keyOf3 (i : Int) (WalkArith.wf_i64 (by omega))
      obtain ⟨D, ho, hD⟩ := hM
      have HS : Aside0 (∀ w', w'.ownsMap Tryz.prog 3 (plainElem Tryz.prog 4) mb (met.count true + 1) (D.put (.int .i64 (i : Int)) (.lit (.bool true))) → MetAt w' mb (met.set i true)) :=
        ⟨fun w' h => MetAt.set (w := W) i (by omega) hm0 D hD (by obtain ⟨es, clock, _, _, _, rfl⟩ := ho; exact ⟨_, rfl⟩) h⟩
      have hcnt : met.count true < maxLen := Nat.lt_of_le_of_lt List.count_le_length (by unfold maxLen; omega)
      clear hD hm0
      obtain ⟨q0, q1, q2⟩ := HW.out.cells
      obtain ⟨q3, q4, q5, q6, q7⟩ := rosC_cells HW.out.hr
      clear hW
      go_enter Tryz.func139, Tryz.ntmps139
      go_wp2_with (at_mapUpdate; refine wpList_mapUpdate_own _ rfl _ _ _ 131 rfl 3 4 keyed3 Tryz.underlying131 _ mb _ D rfl ho hcnt _ _ _ rfl rfl hkey _ [] (plainElem_bool Tryz.underlying4 true) ?_; intro w1 hown1 hgrow1; have HM1 := Aside0.mk (HS.out w1 hown1); have HW1 := Aside0.mk (VisW.grown HW.out hgrow1); clear HS hown1 ho hlook q0 q1 q2 q3 q4 q5 q6 q7; obtain ⟨q0, q1, q2⟩ := HW1.out.cells; obtain ⟨q3, q4, q5, q6, q7⟩ := rosC_cells HW1.out.hr)
      have HG1 := Aside0.mk hgrow1
      go_loopw [20] (fun iv wr => ∃ (j : Nat) (mk : List Bool), j ≤ r.turns.length ∧ iv = .int .i64 j ∧ Aside0 (MetAt wr mb mk ∧ mk.length = r.turns.length ∧ ((List.range r.turns.length).drop j).foldlM (fun (met : List Bool) (j : Nat) => if folB r (i : Int) (j : Int) = true then visitR (grOf r gate) wo k met j else some met) mk = some met') ∧ Aside0 (VisW w0 wr bm bw br bv mb r wo A c T d ∧ W.grownBy wr (some mb))) (fun iv _ => r.turns.length - (intOf iv).toNat)
      case atStart => exact ⟨0, _, Nat.zero_le _, rfl, ⟨HM1.out, by rw [List.length_set]; exact hl, by rw [List.drop_zero]; exact HF.out⟩, ⟨HW1.out, hgrow1⟩⟩
      case round =>
        clear q0 q1 q2 q3 q4 q5 q6 q7
        obtain ⟨j, mk, hj, rfl, HMk, HVk⟩ := hrel
        obtain ⟨q0, q1, q2⟩ := HVk.out.1.cells
        obtain ⟨q3, q4, q5, q6, q7⟩ := rosC_cells HVk.out.1.hr
        by_cases hlt : j < r.turns.length
        · have hcall := follows_calls _ r (i : Int) (j : Int) wr (HVk.out.1.ros HR.out) HV.out (by omega) (by omega) (by omega) (by omega)
          have HN := Aside0.mk (fold_step HMk.out.2.2 hlt)
          cases ef : folB r (i : Int) (j : Int)
          · rw [ef] at hcall
            have HN' := Aside0.mk (HN.out.2 ef)
            go_wp2_with (go_at_call 99; refine hcall.mono ?_; rintro e w5 ⟨rfl, hb5⟩; have HM5 := Aside0.mk (HMk.out.1.below hb5); have HV5 := Aside0.mk (HVk.out.1.below hb5); have HG5 := Aside0.mk (HVk.out.2.trans (grown_of_below hb5 _)); clear hb5)
            go_roundw
            case rel => exact ⟨j + 1, mk, by omega, by go_num, ⟨HM5.out, HMk.out.2.1, HN'.out⟩, ⟨HV5.out, HG5.out⟩⟩
            case measure => simp [intOf]; omega
          · rw [ef] at hcall
            obtain ⟨mk2, hv2, hr2, hl2⟩ := HN.out.1 ef HMk.out.2.1
            have HV2 := Aside0.mk hv2
            have HR2 := Aside0.mk hr2
            have HL2 := Aside0.mk hl2
            clear hv2 hr2 hl2
            go_wp2_with (first | (go_at_call 99; refine hcall.mono ?_; rintro e w5 ⟨rfl, hb5⟩; have HM5 := Aside0.mk (HMk.out.1.below hb5); have HV5 := Aside0.mk (HVk.out.1.below hb5); have HG5 := Aside0.mk (HVk.out.2.trans (grown_of_below hb5 _)); obtain ⟨s0, s1, s2⟩ := HV5.out.cells; clear hb5) | (go_at_call 139; refine (HI.out w0 w5 bm bw br bv mb r gate wo A c T d mk mk2 j HV.out HR.out HV5.out HM5.out HMk.out.2.1 hlt HV2.out).mono ?_; rintro e w6 ⟨rfl, hm6, hg6⟩; have HM6 := Aside0.mk hm6; have HV6 := Aside0.mk (HV5.out.grown hg6); have HG6 := Aside0.mk (HG5.out.trans hg6); clear hm6 hg6))
            go_roundw
            case rel => exact ⟨j + 1, mk2, by omega, by go_num, ⟨HM6.out, HL2.out, HR2.out⟩, ⟨HV6.out, HG6.out⟩⟩
            case measure => simp [intOf]; omega
        · have hjn : j = r.turns.length := by omega
          have HE := Aside0.mk (fold_end HMk.out.2.2 hjn)
          go_wp2
          go_end0
          exact ⟨rfl, HE.out ▸ HMk.out.1, HVk.out.2⟩
end Go.Proofs.YtflolfbkpjgjaaaGreatDoor
end
section
namespace Go.Proofs.YtflolfbkpjgjaaaGreatDoor
open Go.RowKit Go.Proofs.YtflolfbkpjgjaaaGreatDoorW.PrintWords
open Go.Proofs.YtflolfbkpjgjaaaGreatDoorW.PrintMore
set_option maxHeartbeats 1000000 in
set_option maxRecDepth 100000 in
theorem beg1_calls (i : Int) (bb : Nat) (r : Ros) (w : World) (V : Valid r) (hb : BoxAt w bb r) (i0 : 0 ≤ i) (i1 : i < r.turns.length) :
    Calls Tryz.prog 140 #[.int .i64 i, .pointer (some ⟨bb, 0, none⟩)] w fun e w' => e = .returned (.bool (begB r i)) ∧ Below w.heap.size w w' := by
  obtain ⟨A, c, T, d, h1, h2⟩ := hb.ex
  obtain ⟨q0, q1, q2, q3, q4⟩ := rosC_cells h1
  have H2 := Aside0.mk h2
  have HV := Aside0.mk V
  clear h1 h2 hb V
  unfold begB
  go_enter Tryz.func140, Tryz.ntmps140
  go_wp2_with (first | (go_at_call 96; refine (begin_calls _ r i _ H2.out HV.out i0 i1).mono ?_; rintro e w1 ⟨rfl, hb_⟩; have HB1 := Aside0.mk hb_; clear hb_) | (go_at_call 97; refine (never_calls _ _ _).mono ?_; rintro e w2 ⟨rfl, hb_⟩; have HB2 := Aside0.mk (below_step HB1.out hb_); clear hb_))
  go_ret
  exact ⟨rfl, HB2.out⟩
theorem enter140 : CanEnter 140 := Go.Proofs.enters_of Tryz.func140 (by kernel_rfl) rfl
theorem beg1_pred {b : Nat} {r : Ros} {w : World} (V : Valid r) (hb : BoxAt w b r) : PredIn 140 #[.pointer (some ⟨b, 0, none⟩)] (begB r) (fun x => 0 ≤ x ∧ x < r.turns.length) w :=
  fun W x hx hW => beg1_calls x b r W V (hb.below hW) hx.1 hx.2
set_option maxHeartbeats 1000000 in
set_option maxRecDepth 100000 in
theorem met1_calls (i : Int) (bm mb : Nat) (met : List Bool) (w : World) (hb : w.heap[bm]? = some (.cells #[.map (some mb)] 131 (0, 0))) (hm : MetAt w mb met) (hw : (Lit.int .i64 i).wf = true) :
    Calls Tryz.prog 141 #[.int .i64 i, .pointer (some ⟨bm, 0, none⟩)] w fun e w' => e = .returned (.bool (metF met i)) ∧ Below w.heap.size w w' := by
  have q0 : w.cell? ⟨bm, 0, none⟩ = some (.map (some mb)) := (blk_cell hb 0).trans rfl
  have hlook := hm.look i hw
  generalize metF met i = m at *
  go_enter Tryz.func141, Tryz.ntmps141
  go_wp2
  go_ret
  exact ⟨rfl, Below.refl _ _⟩
theorem enter141 : CanEnter 141 := Go.Proofs.enters_of Tryz.func141 (by kernel_rfl) rfl
theorem met1_pred {r : Ros} {bm mb : Nat} {met : List Bool} {w : World} (h24 : r.turns.length ≤ 24) (hb : w.heap[bm]? = some (.cells #[.map (some mb)] 131 (0, 0))) (hm : MetAt w mb met) : PredIn 141 #[.pointer (some ⟨bm, 0, none⟩)] (metF met) (fun x => 0 ≤ x ∧ x < r.turns.length) w :=
  fun W x hx hW => met1_calls x bm mb met W (blk_below hb hW) (hm.below hW) (WalkArith.wf_i64 (by omega))
theorem metAt_made (w : World) (n : Nat) : MetAt (w.alloc (.map #[] 0)) w.heap.size (List.replicate n false) := by
  refine ⟨.map [], ?_, fun i => ?_⟩
  · have e : (List.replicate n false).count true = 0 := by rw [List.count_replicate]; rfl
    rw [e]
    exact World.ownsMap_made _ _ _ _
  · have e : metF (List.replicate n false) i = false := by
      unfold metF
      rw [List.getD_eq_getElem?_getD, List.getElem?_replicate]
      split <;> simp
    rw [e]
    rfl
theorem starts_own (r : Ros) (gate : Int) : ownL r gate (begB r) = (starts (grOf r gate)).map fun i : Nat => (i : Int) := by
  unfold starts Gr.all ownL ownN grOf
  rw [List.filter_filter]
  congr 2
  funext i
  exact Bool.and_comm _ _
theorem reach_own (r : Ros) (gate : Int) (met : List Bool) : ownL r gate (metF met) = (reachR (grOf r gate) met).map fun i : Nat => (i : Int) := by
  unfold reachR Gr.all ownL ownN grOf
  rw [List.filter_filter]
  congr 2
  funext i
  rw [metF_nat]
  exact Bool.and_comm _ _
theorem MetAt.alloc {w : World} {b : Nat} {met : List Bool} (h : MetAt w b met) (o : Obj) : MetAt (w.alloc o) b met := h.kept (World.grownBy_alloc w o none) (by simp)
theorem alloc_at (w : World) (o : Obj) : (w.alloc o).heap[w.heap.size]? = some o := Array.getElem?_push_size
theorem alloc_sz (w : World) (o : Obj) : (w.alloc o).heap.size = w.heap.size + 1 := Array.size_push ..
theorem starts_at (r : Ros) (gate : Int) (k : Nat) (hk : k < (ownL r gate (begB r)).length) :
    ∃ x : Nat, (ownL r gate (begB r)).getD k 0 = (x : Int) ∧ x < r.turns.length ∧ (starts (grOf r gate)).drop k = x :: (starts (grOf r gate)).drop (k + 1) := by
  have hl : (ownL r gate (begB r)).length = (starts (grOf r gate)).length := by rw [starts_own, List.length_map]
  have hk' : k < (starts (grOf r gate)).length := by omega
  refine ⟨(starts (grOf r gate))[k], ?_, ?_, List.drop_eq_getElem_cons hk'⟩
  · rw [starts_own, List.getD_eq_getElem?_getD, List.getElem?_map, List.getElem?_eq_getElem hk']
    rfl
  · have hm : (starts (grOf r gate))[k] ∈ starts (grOf r gate) := List.getElem_mem hk'
    unfold starts at hm
    exact (mem_all.1 (List.mem_filter.1 hm).1).1
theorem starts_step {r : Ros} {gate wo : Int} {K k x : Nat} {mk met : List Bool} (h : ((starts (grOf r gate)).drop k).foldlM (visitR (grOf r gate) wo K) mk = some met) (hl : mk.length = r.turns.length) (hx : x < r.turns.length) (hd : (starts (grOf r gate)).drop k = x :: (starts (grOf r gate)).drop (k + 1)) :
    ∃ mk2, visitR (grOf r gate) wo K mk x = some mk2 ∧ ((starts (grOf r gate)).drop (k + 1)).foldlM (visitR (grOf r gate) wo K) mk2 = some met ∧ mk2.length = r.turns.length := by
  rw [hd, List.foldlM_cons] at h
  cases e : visitR (grOf r gate) wo K mk x with
  | none => rw [e] at h; cases h
  | some mk2 =>
    rw [e] at h
    refine ⟨mk2, rfl, h, ?_⟩
    obtain ⟨v, _⟩ := visitR_vis (g := grOf r gate) (wo := wo) (S := fun _ => True) (fun _ _ _ _ _ _ => trivial) K mk mk2 x hl hx (fun _ => trivial) e
    rw [v.len, hl]
theorem visW_made (w w4 : World) (gr gw : Nat) (r : Ros) (wo : Int) (A : Option Addr) (c : Nat) (T : Option Addr) (d : Nat) (HB4 : Below w.heap.size w w4) (BK : w4.heap[gr]? = some (.cells (rosC r A c T d) 25 (0, 0))) (BK4 : w4.heap[gw]? = some (.cells #[.int .i64 wo] 3 (0, 0))) :
    VisW w (((w4.alloc (.map #[] 0)).alloc (.cells #[.map (some w4.heap.size)] 131)).alloc (.cells #[.func (.func 139) #[] (capsV (w4.heap.size + 1) gw gr (w4.heap.size + 1 + 1))] 132)) (w4.heap.size + 1) gw gr (w4.heap.size + 1 + 1) w4.heap.size r wo A c T d ∧ MetAt (((w4.alloc (.map #[] 0)).alloc (.cells #[.map (some w4.heap.size)] 131)).alloc (.cells #[.func (.func 139) #[] (capsV (w4.heap.size + 1) gw gr (w4.heap.size + 1 + 1))] 132)) w4.heap.size (List.replicate r.turns.length false) ∧ Below w.heap.size w (((w4.alloc (.map #[] 0)).alloc (.cells #[.map (some w4.heap.size)] 131)).alloc (.cells #[.func (.func 139) #[] (capsV (w4.heap.size + 1) gw gr (w4.heap.size + 1 + 1))] 132)) := by
  have l1 := blk_lt BK
  have l2 := blk_lt BK4
  have hs := HB4.size
  refine ⟨⟨below_alloc (below_alloc (below_alloc HB4 _) _) _, ?_, blk_alloc (blk_alloc (blk_alloc BK4 _) _) _, blk_alloc (blk_alloc (blk_alloc BK _) _) _, ?_, ⟨by omega, by omega, by omega, by omega⟩, hs⟩, ?_, below_alloc (below_alloc (below_alloc HB4 _) _) _⟩
  · refine blk_alloc ?_ _
    have h := alloc_at (w4.alloc (.map #[] 0)) (.cells #[.map (some w4.heap.size)] 131)
    rwa [alloc_sz] at h
  · have h := alloc_at ((w4.alloc (.map #[] 0)).alloc (.cells #[.map (some w4.heap.size)] 131)) (.cells #[.func (.func 139) #[] (capsV (w4.heap.size + 1) gw gr (w4.heap.size + 1 + 1))] 132)
    rwa [alloc_sz, alloc_sz] at h
  · exact (MetAt.alloc (MetAt.alloc (metAt_made w4 r.turns.length) _) _)
set_option maxHeartbeats 4000000 in
set_option maxRecDepth 100000 in
theorem reached_calls (v : Value) (r : Ros) (gate wo : Int) (met : List Bool) (K : Nat) (w : World) (V : Valid r) (hv : RosAt w v r) (hmet : metR (grOf r gate) wo K = some met) :
    Calls Tryz.prog 78 #[v, .int .i64 gate, .int .i64 wo] w fun e w' => ∃ lv, e = .returned lv ∧ w'.ownsRow w.heap.size 3 1 lv (ownL r gate (metF met)).length (nums .i64 (ownL r gate (metF met))) ∧ Below w.heap.size w w' := by
  have h24 : r.turns.length ≤ 24 := V.turns
  have hR := Aside0.mk hv
  have HV := Aside0.mk V
  have HM := Aside0.mk hmet
  obtain ⟨A, c, T, d, rfl, h1, h2, h3, h4⟩ := hv
  clear h3 h4 V hmet
  generalize hPost : (fun (e : Ending) (w' : World) => ∃ lv, e = .returned lv ∧ w'.ownsRow w.heap.size 3 1 lv (ownL r gate (metF met)).length (nums .i64 (ownL r gate (metF met))) ∧ Below w.heap.size w w') = Post
  have hQ' : ∀ lv w', w'.ownsRow w.heap.size 3 1 lv (ownL r gate (metF met)).length (nums .i64 (ownL r gate (metF met))) → Below w.heap.size w w' → Post (.returned lv) w' := fun lv w' a b => hPost ▸ ⟨lv, rfl, a, b⟩
  have HQ := Aside0.mk hQ'
  clear hQ' hPost
  have hmf : ∀ (fn : Fn) (first cap : Array Value) (w : World), (Instr.makeFunc fn first cap).run Tryz.prog w = .ok (.func fn first cap) w := fun _ _ _ _ => rfl
  have hmm := @run_makeMap Tryz.prog
  have hsf : ∀ (w : World) (a : Addr) (fn : Fn) (x y : Array Value) (m : Mode), (store a (.func fn x y) m).run Tryz.prog w = stored Tryz.prog w a (.func fn x y) m := fun w a fn x y m => run_store Tryz.prog w a _ m rfl
  go_enter Tryz.func78, Tryz.ntmps78
  go_wp2_with (first | ((with_reducible refine gate_dst (N := 3) rfl ?_); refine box_event ?hg (N := 3) ?hd (cs := rosC r A c T d) (t := 25) ?hr ?_; (case hd => rfl); (case hg => rfl); (case hr => first | (go_simp; done) | (go_simp; rfl)); intro gr hgr w3 hbox_ hb_; have BK := Aside0.mk hbox_; have Hgr := Aside0.mk hgr; have HB := Aside0.mk hb_; clear hbox_ hb_ hgr) | ((with_reducible refine gate_dst (N := 5) rfl ?_); refine box_event ?hg (N := 5) ?hd (cs := #[.int .i64 wo]) (t := 3) ?hr ?_; (case hd => rfl); (case hg => rfl); (case hr => first | (go_simp; done) | (go_simp; rfl)); intro gw hgw w4 hbox_ hb_; have BK4 := Aside0.mk hbox_; have Hgw := Aside0.mk hgw; have HB4 := Aside0.mk (below_step HB.out hb_); have BK' := Aside0.mk (blk_below BK.out hb_); obtain ⟨q0, q1, q2, q3, q4⟩ := rosC_cells BK'.out; have pr : gr < w4.heap.size := blk_lt BK'.out; have pr1 := Nat.lt_add_right 1 pr; have pr2 := Nat.lt_add_right 1 pr1; clear hbox_ hb_ hgw) | (obtain ⟨hV5, hM5, hB5⟩ := visW_made w w4 gr gw r wo A c T d HB4.out BK'.out BK4.out; have HV5 := Aside0.mk hV5; have HM5 := Aside0.mk hM5; have HB5 := Aside0.mk hB5; clear hV5 hM5 hB5; unfold capsV at HV5 HM5 HB5; generalize hW5 : (((w4.alloc (.map #[] 0)).alloc (.cells #[.map (some w4.heap.size)] 131)).alloc (.cells #[.func (.func 139) #[] #[.pointer (some ⟨w4.heap.size + 1, 0, none⟩), .pointer (some ⟨gw, 0, none⟩), .pointer (some ⟨gr, 0, none⟩), .pointer (some ⟨w4.heap.size + 1 + 1, 0, none⟩)]] 132)) = W5 at *; generalize w4.heap.size = mb at *; clear hW5; have HP5 : Aside0 (mb + 1 + 1 < W5.heap.size) := ⟨blk_lt HV5.out.hv⟩; go_at_call 94; refine (own_calls _ r gate 140 #[.pointer (some ⟨gr, 0, none⟩)] (begB r) _ enter140 (hR.out.below HB5.out) h24 ((beg1_pred HV.out ⟨A, c, T, d, HV5.out.hr, hR.out.below HB5.out⟩).mono (fun x hx => ⟨hx.1, hx.2.1⟩))).mono ?_; rintro e W6 ⟨lv, rfl, ho6, hb6⟩; have HO6 := Aside0.mk ho6; have HV6 := Aside0.mk (HV5.out.below hb6); have HM6 := Aside0.mk (HM5.out.below hb6); obtain ⟨A1, c1, rfl, hc1, hl1⟩ := intsAt_own ho6; clear hb6 ho6))
  have HL := Aside0.mk hl1
  have hlen24 : (ownL r gate (begB r)).length ≤ 24 := by have := ownN_len r gate (begB r) r.turns.length; unfold ownL; omega
  have HWW : Aside0 (Below w.heap.size w W6) := ⟨HV6.out.base⟩
  go_loopw [18] (fun iv wr => ∃ (k : Nat) (mk : List Bool), k ≤ (ownL r gate (begB r)).length ∧ iv = .int .i64 k ∧ Aside0 (MetAt wr mb mk ∧ mk.length = r.turns.length ∧ ((starts (grOf r gate)).drop k).foldlM (visitR (grOf r gate) wo K) mk = some met) ∧ Aside0 (VisW w wr (mb + 1) gw gr (mb + 1 + 1) mb r wo A c T d ∧ W6.grownBy wr (some mb))) (fun iv _ => (ownL r gate (begB r)).length - (intOf iv).toNat)
  case atStart => exact ⟨0, _, Nat.zero_le _, rfl, ⟨HM6.out, by rw [List.length_replicate], by rw [List.drop_zero]; exact HM.out⟩, ⟨HV6.out, World.grownBy.refl _ _⟩⟩
  case round =>
    obtain ⟨k, mk, hk, rfl, HMk, HVk⟩ := hrel
    obtain ⟨q0, q1, q2⟩ := HVk.out.1.cells
    obtain ⟨q3, q4, q5, q6, q7⟩ := rosC_cells HVk.out.1.hr
    by_cases hlt : k < (ownL r gate (begB r)).length
    · have hLk : CI wr A1 (ownL r gate (begB r)).length (ownL r gate (begB r)) := by
        have hne := own_base' HO6.out
        have ho := own_other HO6.out HVk.out.2 (hne.imp id (by rintro ⟨b, hb1, hb2⟩ e; rw [hb1] at e; injection e with e; have := HP5.out; omega))
        obtain ⟨A2, c2, e2, _, hl2⟩ := intsAt_own ho
        cases e2
        exact hl2
      obtain ⟨x, hx, hxn, hd⟩ := starts_at r gate k hlt
      obtain ⟨ad, hAd, g4⟩ := CI_at hLk k (by omega) (by omega)
      cases hAd
      rw [show ((k : Nat) : Int).toNat = k from rfl, hx] at g4
      obtain ⟨mk2, hv2, hr2, hl2⟩ := starts_step HMk.out.2.2 HMk.out.2.1 hxn hd
      have HV2 := Aside0.mk hv2
      have HR2 := Aside0.mk hr2
      have HL2 := Aside0.mk hl2
      clear hLk hx hd hv2 hr2 hl2
      go_wp2_with (go_at_call 139; refine (visit_calls K w wr (mb + 1) gw gr (mb + 1 + 1) mb r gate wo A c T d mk mk2 x HV.out hR.out HVk.out.1 HMk.out.1 HMk.out.2.1 hxn HV2.out).mono ?_; rintro e w7 ⟨rfl, hm7, hg7⟩; have HM7 := Aside0.mk hm7; have HV7 := Aside0.mk (HVk.out.1.grown hg7); have HG7 := Aside0.mk (HVk.out.2.trans hg7); clear hm7 hg7)
      go_roundw
      case rel => exact ⟨k + 1, mk2, by omega, by go_num, ⟨HM7.out, HL2.out, HR2.out⟩, ⟨HV7.out, HG7.out⟩⟩
      case measure => simp [intOf]; omega
    · have hkn : k = (ownL r gate (begB r)).length := by omega
      have HE : Aside0 (mk = met) := ⟨by
        have h := HMk.out.2.2
        rw [List.drop_eq_nil_of_le (by rw [hkn, starts_own, List.length_map]; omega)] at h
        exact Option.some.inj h⟩
      go_wp2_with (go_at_call 94; refine (own_calls _ r gate 141 #[.pointer (some ⟨mb + 1, 0, none⟩)] (metF met) _ enter141 (HVk.out.1.ros hR.out) h24 ((met1_pred (r := r) h24 HVk.out.1.hm (HE.out ▸ HMk.out.1)).mono (fun x hx => ⟨hx.1, hx.2.1⟩))).mono ?_; rintro e W8 ⟨lv, rfl, ho8, hb8⟩; have HO8 := Aside0.mk (own_less ho8 HVk.out.1.base.size); have HB8 := Aside0.mk (below_step HVk.out.1.base hb8); clear ho8 hb8)
      exact HQ.out _ _ HO8.out HB8.out
end Go.Proofs.YtflolfbkpjgjaaaGreatDoor
end
section
namespace Go.Proofs.YtflolfbkpjgjaaaGreatDoor
open Go.RowKit Go.Proofs.YtflolfbkpjgjaaaGreatDoorW.PrintWords
open Go.Proofs.YtflolfbkpjgjaaaGreatDoorW.PrintMore
def metB (r : Ros) (gate wo : Int) : List Bool := (metR (grOf r gate) wo 25).getD []
def reachL (r : Ros) (gate wo : Int) : List Int := ownL r gate (metF (metB r gate wo))
theorem metB_some {r : Ros} (V : Valid r) (gate wo : Int) : metR (grOf r gate) wo 25 = some (metB r gate wo) := by
  obtain ⟨met, h⟩ := metR_some (g := grOf r gate) wo 25 (by have := V.turns; show r.turns.length < 25; omega)
  unfold metB
  rw [h]
  rfl
theorem gatedE_zero {r : Ros} {gate : Int} (h : (gatedE r gate != 0) = false) : Valid r ∧ inB gate 0 (r.gates - 1) = true := by
  unfold gatedE at h
  cases hc : (checkE r != 0)
  · rw [hc, if_neg (by simp)] at h
    refine ⟨(checkE_ne r).1 hc, ?_⟩
    cases hi : inB gate 0 (r.gates - 1)
    · rw [hi] at h; simp at h
    · rfl
  · rw [hc, if_pos rfl, hc] at h
    cases h
theorem ownL_len (r : Ros) (gate : Int) (p : Int → Bool) : (ownL r gate p).length ≤ r.turns.length := ownN_len r gate p _
theorem reached_list (v : Value) (r : Ros) (gate wo : Int) (w : World) (V : Valid r) (hv : RosAt w v r) :
    Calls Tryz.prog 78 #[v, .int .i64 gate, .int .i64 wo] w fun e w' => ∃ lv, e = .returned lv ∧ w'.ownsRow w.heap.size 3 1 lv (reachL r gate wo).length (nums .i64 (reachL r gate wo)) ∧ Below w.heap.size w w' :=
  reached_calls v r gate wo _ 25 w V hv (metB_some V gate wo)
def reachO (r : Ros) (gate : Int) : List Int := if gatedE r gate != 0 then [] else reachL r gate (-1)
set_option maxHeartbeats 2000000 in
set_option maxRecDepth 100000 in
theorem reach_calls (v : Value) (r : Ros) (gate : Int) (w : World) (hv : RosAt w v r) :
    Calls Tryz.prog 19 #[v, .int .i64 gate] w fun e w' => ∃ lv, e = .returned (.tuple #[lv, .int .i64 (gatedE r gate)]) ∧ w'.ownsRow w.heap.size 3 1 lv (reachO r gate).length (nums .i64 (reachO r gate)) ∧ Below w.heap.size w w' := by
  have hR := Aside0.mk hv
  obtain ⟨A, c, T, d, rfl, h1, h2, h3, h4⟩ := hv
  clear h3 h4
  generalize hPost : (fun (e : Ending) (w' : World) => ∃ lv, e = .returned (.tuple #[lv, .int .i64 (gatedE r gate)]) ∧ w'.ownsRow w.heap.size 3 1 lv (reachO r gate).length (nums .i64 (reachO r gate)) ∧ Below w.heap.size w w') = Post
  have HQ : Aside0 (∀ lv w', w'.ownsRow w.heap.size 3 1 lv (reachO r gate).length (nums .i64 (reachO r gate)) → Below w.heap.size w w' → Post (.returned (.tuple #[lv, .int .i64 (gatedE r gate)])) w') := ⟨fun lv w' a b => hPost ▸ ⟨lv, rfl, a, b⟩⟩
  clear hPost
  have HO : Aside0 (∀ b, (gatedE r gate != 0) = b → reachO r gate = if b then [] else reachL r gate (-1)) := ⟨fun b hb => by unfold reachO; rw [hb]⟩
  have HV : Aside0 ((gatedE r gate != 0) = false → Valid r ∧ gatedE r gate = 0) := ⟨fun h => ⟨(gatedE_zero h).1, by simpa using h⟩⟩
  cases hc : (gatedE r gate != 0)
  · have HV' := Aside0.mk (HV.out hc)
    have HO' := Aside0.mk (HO.out _ hc)
    rw [HV'.out.2] at HQ
    have e0 := HV'.out.2
    clear HV HO
    go_enter Tryz.func19, Tryz.ntmps19
    go_wp2_with (first | ((with_reducible refine gate_dst (N := 2) rfl ?_); refine box_event ?hg (N := 2) ?hd (cs := rosC r A c T d) (t := 25) ?hr ?_; (case hd => rfl); (case hg => rfl); (case hr => first | (go_simp; done) | (go_simp; rfl)); intro g hg w3 hbox_ hb_; have BK := Aside0.mk hbox_; have Hg := Aside0.mk hg; have HB := Aside0.mk hb_; obtain ⟨q0, q1, q2, q3, q4⟩ := rosC_cells hbox_; clear hbox_ hb_ hg) | (go_at_call 77; refine ((e0 ▸ gated_calls _ r gate _ (hR.out.below HB.out) : Calls _ _ _ _ fun e w' => e = .returned (.int .i64 0) ∧ _)).mono ?_; rintro e w4 ⟨rfl, hb_⟩; have HB4 := Aside0.mk (below_step HB.out hb_); have BK4 := Aside0.mk (blk_below BK.out hb_); clear q0 q1 q2 q3 q4; obtain ⟨q0, q1, q2, q3, q4⟩ := rosC_cells BK4.out; clear hb_) | (go_at_call 78; refine (reached_list _ r gate (-1) _ HV'.out.1 (hR.out.below HB4.out)).mono ?_; rintro e W8 ⟨lv, rfl, ho8, hb8⟩; have HO8 := Aside0.mk (own_less ho8 HB4.out.size); have HB8 := Aside0.mk (below_step HB4.out hb8); clear ho8 hb8))
    exact HQ.out _ _ (by rw [HO'.out]; exact HO8.out) HB8.out
  · have HO' := Aside0.mk (HO.out _ hc)
    clear HV HO
    go_enter Tryz.func19, Tryz.ntmps19
    go_wp2_with (first | ((with_reducible refine gate_dst (N := 2) rfl ?_); refine box_event ?hg (N := 2) ?hd (cs := rosC r A c T d) (t := 25) ?hr ?_; (case hd => rfl); (case hg => rfl); (case hr => first | (go_simp; done) | (go_simp; rfl)); intro g hg w3 hbox_ hb_; have BK := Aside0.mk hbox_; have Hg := Aside0.mk hg; have HB := Aside0.mk hb_; obtain ⟨q0, q1, q2, q3, q4⟩ := rosC_cells hbox_; clear hbox_ hb_ hg) | (go_at_call 77; refine (gated_calls _ r gate _ (hR.out.below HB.out)).mono ?_; rintro e w4 ⟨rfl, hb_⟩; have HB4 := Aside0.mk (below_step HB.out hb_); have BK4 := Aside0.mk (blk_below BK.out hb_); clear q0 q1 q2 q3 q4; obtain ⟨q0, q1, q2, q3, q4⟩ := rosC_cells BK4.out; clear hb_))
    exact HQ.out _ _ (by rw [HO'.out]; exact own_nil _ _ _ _) HB4.out
def gapB (r : Ros) (gate : Int) : Bool := !(gatedE r gate != 0) && !((reachL r gate (-1)).any (endB r))
def gapO (r : Ros) (gate : Int) : List Int := if gapB r gate then reachL r gate (-1) else []
theorem reachL_in {r : Ros} {gate wo : Int} : ∀ x ∈ reachL r gate wo, 0 ≤ x ∧ x < r.turns.length := fun x hx => (mem_ownL.1 hx).1
set_option maxHeartbeats 2000000 in
set_option maxRecDepth 100000 in
theorem gap_calls (v : Value) (r : Ros) (gate : Int) (w : World) (hv : RosAt w v r) :
    Calls Tryz.prog 21 #[v, .int .i64 gate] w fun e w' => ∃ lv, e = .returned (.tuple #[lv, .bool (gapB r gate), .int .i64 (gatedE r gate)]) ∧ w'.ownsRow w.heap.size 3 1 lv (gapO r gate).length (nums .i64 (gapO r gate)) ∧ Below w.heap.size w w' := by
  have hR := Aside0.mk hv
  obtain ⟨A, c, T, d, rfl, h1, h2, h3, h4⟩ := hv
  clear h3 h4
  generalize hPost : (fun (e : Ending) (w' : World) => ∃ lv, e = .returned (.tuple #[lv, .bool (gapB r gate), .int .i64 (gatedE r gate)]) ∧ w'.ownsRow w.heap.size 3 1 lv (gapO r gate).length (nums .i64 (gapO r gate)) ∧ Below w.heap.size w w') = Post
  have HQ : Aside0 (∀ lv w', w'.ownsRow w.heap.size 3 1 lv (gapO r gate).length (nums .i64 (gapO r gate)) → Below w.heap.size w w' → Post (.returned (.tuple #[lv, .bool (gapB r gate), .int .i64 (gatedE r gate)])) w') := ⟨fun lv w' a b => hPost ▸ ⟨lv, rfl, a, b⟩⟩
  clear hPost
  have hreach := fun w hv => reach_calls (.agg (rosC r A c T d)) r gate w hv
  cases hc : (gatedE r gate != 0)
  · have e0 : gatedE r gate = 0 := by simpa using hc
    have HV' := Aside0.mk (gatedE_zero hc).1
    have eO : reachO r gate = reachL r gate (-1) := by unfold reachO; rw [hc]; rfl
    rw [eO, e0] at hreach
    have eg : gapB r gate = !((reachL r gate (-1)).any (endB r)) := by unfold gapB; rw [hc]; rfl
    have HG : Aside0 (gapO r gate = if gapB r gate then reachL r gate (-1) else []) := ⟨rfl⟩
    rw [eg] at HG HQ
    rw [e0] at HQ
    have HL := Aside0.mk (fun w v lv V hv hl => late_calls v lv r (reachL r gate (-1)) w V hv hl reachL_in)
    clear eg eO
    cases hl : (reachL r gate (-1)).any (endB r)
    all_goals
      rw [hl] at HG HQ HL
      simp only [Bool.not_false, Bool.not_true, Bool.false_eq_true, if_false, if_true] at HG HQ
      go_enter Tryz.func21, Tryz.ntmps21
      go_wp2_with (first | ((with_reducible refine gate_dst (N := 2) rfl ?_); refine box_event ?hg (N := 2) ?hd (cs := rosC r A c T d) (t := 25) ?hr ?_; (case hd => rfl); (case hg => rfl); (case hr => first | (go_simp; done) | (go_simp; rfl)); intro g hg w3 hbox_ hb_; have BK := Aside0.mk hbox_; have Hg := Aside0.mk hg; have HB := Aside0.mk hb_; obtain ⟨q0, q1, q2, q3, q4⟩ := rosC_cells hbox_; clear hbox_ hb_ hg) | (go_at_call 19; refine (hreach _ (hR.out.below HB.out)).mono ?_; rintro e w4 ⟨lv, rfl, ho_, hb_⟩; have HO4 := Aside0.mk ho_; have HB4 := Aside0.mk (below_step HB.out hb_); have BK4 := Aside0.mk (blk_below BK.out hb_); clear q0 q1 q2 q3 q4; obtain ⟨q0, q1, q2, q3, q4⟩ := rosC_cells BK4.out; clear ho_ hb_) | (go_at_call 81; refine (HL.out _ _ _ HV'.out (hR.out.below HB4.out) (intsAt_own HO4.out)).mono ?_; rintro e w5 ⟨rfl, hb_⟩; have HO5 := Aside0.mk (pw_own_below HO4.out hb_); have HB5 := Aside0.mk (below_step HB4.out hb_); clear hb_))
      refine bodyPost_ret (v := .tuple #[_, _, _]) (by simp [results, Tryz.results21, go_sem]; exact ⟨rfl, rfl, rfl⟩) rfl ?_
      first | exact HQ.out _ _ (by rw [HG.out]; exact own_less HO5.out HB.out.size) HB5.out | exact HQ.out _ _ (by rw [HG.out]; exact own_nil _ _ _ _) HB5.out
  · have eO : reachO r gate = [] := by unfold reachO; rw [hc]; rfl
    have eg : gapB r gate = false := by unfold gapB; rw [hc]; rfl
    have HG : Aside0 (gapO r gate = []) := ⟨by unfold gapO; rw [eg]; rfl⟩
    rw [eg] at HQ
    go_enter Tryz.func21, Tryz.ntmps21
    go_wp2_with (first | ((with_reducible refine gate_dst (N := 2) rfl ?_); refine box_event ?hg (N := 2) ?hd (cs := rosC r A c T d) (t := 25) ?hr ?_; (case hd => rfl); (case hg => rfl); (case hr => first | (go_simp; done) | (go_simp; rfl)); intro g hg w3 hbox_ hb_; have BK := Aside0.mk hbox_; have Hg := Aside0.mk hg; have HB := Aside0.mk hb_; obtain ⟨q0, q1, q2, q3, q4⟩ := rosC_cells hbox_; clear hbox_ hb_ hg) | (go_at_call 19; refine (hreach _ (hR.out.below HB.out)).mono ?_; rintro e w4 ⟨lv, rfl, ho_, hb_⟩; have HB4 := Aside0.mk (below_step HB.out hb_); have BK4 := Aside0.mk (blk_below BK.out hb_); clear q0 q1 q2 q3 q4; obtain ⟨q0, q1, q2, q3, q4⟩ := rosC_cells BK4.out; clear ho_ hb_))
    refine bodyPost_ret (v := .tuple #[_, _, _]) (by simp [results, Tryz.results21, go_sem]; exact ⟨rfl, rfl, rfl⟩) rfl ?_
    exact HQ.out _ _ (by rw [HG.out]; exact own_nil _ _ _ _) HB4.out
end Go.Proofs.YtflolfbkpjgjaaaGreatDoor
end
section
namespace Go.Proofs.YtflolfbkpjgjaaaGreatDoor
open Go.RowKit Go.Proofs.YtflolfbkpjgjaaaGreatDoorW.PrintWords
open Go.Proofs.YtflolfbkpjgjaaaGreatDoorW.PrintMore
abbrev Lag := Int × Bool
def kLag : Kd Lag := Kd.pair (Kd.int .i64) Kd.bool
abbrev CL (w : World) (A : Option Addr) (n : Nat) (xs : List Lag) : Prop := Kd.C kLag w A n xs
theorem CL_at {w : World} {A : Option Addr} {n : Nat} {xs : List Lag} (h : CL w A n xs) (i : Int) (h0 : 0 ≤ i) (h1 : i < n) :
    ∃ ad, A = some ad ∧ w.cell? (ad.add (i.toNat * 2)) = some (.int .i64 (xs.getD i.toNat (0, false)).1) ∧
      w.cell? ⟨(ad.add (i.toNat * 2)).block, (ad.add (i.toNat * 2)).off + 1, none⟩ = some (.bool (xs.getD i.toNat (0, false)).2) := by
  obtain ⟨ad, c, e, _, hK, hc0⟩ := Kd.C_get h (0, false) i h0 h1
  have hc : ∀ j u, c[j]? = some u → w.cell? (ad.add (i.toNat * 2 + j)) = some u := hc0
  obtain ⟨_, _, rfl, rfl, rfl⟩ := hK
  exact ⟨ad, e, hc 0 _ rfl, by rw [← add_field _ _ 1 (by omega)]; exact hc 1 _ rfl⟩
def lagCells (xs : List Lag) : List Value := xs.flatMap fun x => [.int .i64 x.1, .bool x.2]
theorem lagCells_snoc (xs : List Lag) (x : Lag) : lagCells (xs ++ [x]) = lagCells xs ++ [.int .i64 x.1, .bool x.2] := by
  unfold lagCells
  rw [List.flatMap_append]
  rfl
theorem lagReps (w : World) : ∀ xs : List Lag, Reps (fun x cs => kLag.K w x cs) 2 xs (lagCells xs)
  | [] => ⟨rfl, fun j p h => by simp at h⟩
  | x :: xs => by
    have ih := lagReps w xs
    refine ⟨?_, fun j p h => ?_⟩
    · have := ih.1
      show (lagCells xs).length + 1 + 1 = (xs.length + 1) * 2
      omega
    · match j, h with
      | 0, h =>
        obtain rfl : x = p := by simpa using h
        exact ⟨[.int .i64 x.1], [.bool x.2], rfl, rfl, rfl⟩
      | j + 1, h =>
        have := ih.2 j p (by simpa using h)
        rw [show (j + 1) * 2 = j * 2 + 1 + 1 by omega]
        exact this
theorem lags_reads {w : World} {base : Nat} {v : Value} {xs : List Lag} (h : w.ownsRow base 98 2 v xs.length (lagCells xs)) : ∃ A c, v = .slice A xs.length c ∧ CL w A xs.length xs :=
  own_reads_row h (lagReps w xs) rfl
def PredLag (g : Nat) (lb : Array Value) (p : Lag → Bool) (w : World) : Prop :=
  ∀ (W : World) (x : Int) (y : Bool), Below w.heap.size w W → Calls Tryz.prog g (#[.agg #[.int .i64 x, .bool y]] ++ lb) W fun e w' => e = .returned (.bool (p (x, y))) ∧ Below W.heap.size W w'
def idxL (p : Lag → Bool) (xs : List Lag) : Int := if xs.any p then (xs.findIdx p : Int) else -1
theorem idxL_hit (p : Lag → Bool) (xs : List Lag) (k : Nat) (hk : k < xs.length) (h : p (xs.getD k (0, false)) = true) (ha : ∀ j, j < k → p (xs.getD j (0, false)) = false) : idxL p xs = k := by
  have e : ∀ j (hj : j < xs.length), xs.getD j (0, false) = xs[j] := fun j hj => by simp [List.getD_eq_getElem?_getD, List.getElem?_eq_getElem hj]
  have h1 : xs.any p = true := List.any_eq_true.2 ⟨xs[k], List.getElem_mem hk, by rw [← e k hk]; exact h⟩
  have h2 : xs.findIdx p = k := (List.findIdx_eq hk).2 ⟨by rw [← e k hk]; exact h, fun j hj => by rw [← e j (by omega)]; exact ha j hj⟩
  unfold idxL
  rw [h1, if_pos rfl, h2]
theorem idxL_miss (p : Lag → Bool) (xs : List Lag) (ha : ∀ j, j < xs.length → p (xs.getD j (0, false)) = false) : idxL p xs = -1 := by
  have h1 : xs.any p = false := by
    rw [List.any_eq_false]
    intro x hx
    obtain ⟨j, hj, rfl⟩ := List.getElem_of_mem hx
    have := ha j hj
    simp [List.getD_eq_getElem?_getD, List.getElem?_eq_getElem hj] at this
    simp [this]
  unfold idxL
  rw [h1]; rfl
theorem idxL_ge (p : Lag → Bool) (xs : List Lag) : decide (0 ≤ idxL p xs) = xs.any p := by
  unfold idxL
  split
  · rename_i h; rw [h]; exact decide_eq_true (by omega)
  · rename_i h; rw [Bool.not_eq_true] at h; rw [h]; rfl
set_option maxHeartbeats 1000000 in
theorem indexLag_calls (A : Option Addr) (c : Nat) (xs : List Lag) (g : Nat) (lb : Array Value) (p : Lag → Bool) (w : World) (eg : CanEnter g) (hA : CL w A xs.length xs) (hp : PredLag g lb p w) (hbig : xs.length ≤ 9223372036854775807) :
    Calls Tryz.prog 187 #[.slice A xs.length c, .func (.func g) #[] lb] w fun e w' => e = .returned (.int .i64 (idxL p xs)) ∧ Below w.heap.size w w' := by
  have eg' : ∀ args w, (callFunc g args).run Tryz.prog w = .ok (.enter g args) w := eg
  have HA := Aside0.mk hA
  have HP := Aside0.mk hp
  clear hA hp eg
  go_enter Tryz.func187, Tryz.ntmps187
  go_wp2
  go_loopg [5, 8] (xs.length) (fun gg _ s8 wr => ∃ kk : Nat, kk ≤ xs.length ∧ xs.length - kk ≤ gg ∧ s8 = .int .i64 kk ∧ Aside0 (Below w.heap.size w wr) ∧ Aside0 (∀ j, j < kk → p (xs.getD j (0, false)) = false))
  case atStart => exact ⟨0, Nat.zero_le _, by omega, rfl, ⟨Below.refl _ w⟩, ⟨fun j hj => absurd hj (Nat.not_lt_zero _)⟩⟩
  case round =>
    obtain ⟨kk, hkk, hg, rfl, BW, AF⟩ := hrel
    by_cases hlt : kk < xs.length
    · have hltz : (kk : Int) < (xs.length : Int) := by omega
      obtain ⟨ad, hAd, g4, g5⟩ := CL_at (Kd.C_below HA.out BW.out) kk (by omega) (by omega)
      cases hAd
      rw [show ((kk : Nat) : Int).toNat = kk from rfl] at g4 g5
      have p0 := World.block_lt_of_cell? wr _ g4
      have hcall := fun x y => HP.out wr x y BW.out
      have HX : Aside0 (p (xs.getD kk (0, false)) = true → idxL p xs = kk) := ⟨fun h => idxL_hit p xs kk hlt h AF.out⟩
      have HN : Aside0 (p (xs.getD kk (0, false)) = false → ∀ j, j < kk + 1 → p (xs.getD j (0, false)) = false) := ⟨fun h j hj => by
        by_cases e : j = kk
        · rw [e]; exact h
        · exact AF.out j (by omega)⟩
      generalize xs.getD kk (0, false) = y at *
      obtain ⟨y1, y2⟩ := y
      have hcall := hcall y1 y2
      dsimp only at g4 g5
      cases hq : p (y1, y2) with
      | true =>
        rw [hq] at hcall
        have HQ := Aside0.mk (HX.out hq)
        go_wp2_with (go_at_fn g; refine hcall.mono ?_; rintro e w' ⟨rfl, hb'⟩)
        go_ret
        exact ⟨by rw [HQ.out]; rfl, below_step BW.out hb'⟩
      | false =>
        rw [hq] at hcall
        have HQ := Aside0.mk (HN.out hq)
        go_wp2_with (go_at_fn g; refine hcall.mono ?_; rintro e w' ⟨rfl, hb'⟩)
        go_roundg (xs.length - (kk + 1))
        case measure => omega
        case rel => exact ⟨kk + 1, by omega, by omega, by go_num, ⟨below_step BW.out hb'⟩, HQ⟩
    · have HM : Aside0 (idxL p xs = -1) := ⟨idxL_miss p xs (fun j hj => AF.out j (by omega))⟩
      go_wp2
      go_ret
      exact ⟨by rw [HM.out]; rfl, BW.out⟩
set_option maxHeartbeats 1000000 in
theorem containsLag_calls (A : Option Addr) (c : Nat) (xs : List Lag) (g : Nat) (lb : Array Value) (p : Lag → Bool) (w : World) (eg : CanEnter g) (hA : CL w A xs.length xs) (hp : PredLag g lb p w) (hbig : xs.length ≤ 9223372036854775807) :
    Calls Tryz.prog 174 #[.slice A xs.length c, .func (.func g) #[] lb] w fun e w' => e = .returned (.bool (xs.any p)) ∧ Below w.heap.size w w' := by
  rw [← idxL_ge]
  have HA := Aside0.mk hA
  have HP := Aside0.mk hp
  have HG := Aside0.mk eg
  clear hA hp eg
  go_enter Tryz.func174, Tryz.ntmps174
  go_wp2_with (go_at_call 187; refine (indexLag_calls A c xs g lb p _ HG.out HA.out HP.out hbig).mono ?_; rintro e w' ⟨rfl, hb'⟩)
  go_ret
  exact ⟨rfl, hb'⟩
open Go.Proofs.YtflolfbkpjgjaaaGreatDoorW.PrintWords
set_option maxHeartbeats 1000000 in
set_option maxRecDepth 100000 in
theorem every1_calls (x : Int) (y : Bool) (gf : Nat) (W : World) (hb : W.heap[gf]? = some (.cells #[.func (.func 97) #[] #[]] 147 (0, 0))) :
    Calls Tryz.prog 175 #[.agg #[.int .i64 x, .bool y], .pointer (some ⟨gf, 0, none⟩)] W fun e w' => e = .returned (.bool (!decide (x ≤ 0))) ∧ Below W.heap.size W w' := by
  have q0 : W.cell? ⟨gf, 0, none⟩ = some (.func (.func 97) #[] #[]) := (blk_cell hb 0).trans rfl
  have HB0 := Aside0.mk hb
  clear hb
  go_enter Tryz.func175, Tryz.ntmps175
  go_wp2_with (first | ((with_reducible refine gate_dst (N := 2) rfl ?_); refine box_event ?hg (N := 2) ?hd (cs := #[.int .i64 x, .bool y]) (t := 98) ?hr ?_; (case hd => rfl); (case hg => rfl); (case hr => first | (go_simp; done) | (go_simp; rfl)); intro g hg w3 hbox_ hb_; have BK := Aside0.mk hbox_; have Hg := Aside0.mk hg; have HB := Aside0.mk hb_; have q1 : w3.cell? ⟨g, 0, none⟩ = some (.int .i64 x) := (blk_cell hbox_ 0).trans rfl; have q2 : w3.cell? ⟨g, 1, none⟩ = some (.bool y) := (blk_cell hbox_ 1).trans rfl; have q3 : w3.cell? ⟨gf, 0, none⟩ = some (.func (.func 97) #[] #[]) := (blk_cell (blk_below HB0.out hb_) 0).trans rfl; clear hbox_ hb_ hg) | (go_at_call 97; refine (never_calls _ _ _).mono ?_; rintro e w4 ⟨rfl, hb_⟩; have HB4 := Aside0.mk (below_step HB.out hb_); clear hb_))
  go_ret
  exact ⟨rfl, HB4.out⟩
theorem enter175 : CanEnter 175 := Go.Proofs.enters_of Tryz.func175 (by kernel_rfl) rfl
theorem every1_pred {gf : Nat} {w : World} (hb : w.heap[gf]? = some (.cells #[.func (.func 97) #[] #[]] 147 (0, 0))) : PredLag 175 #[.pointer (some ⟨gf, 0, none⟩)] (fun x => !decide (x.1 ≤ 0)) w :=
  fun W x y hW => every1_calls x y gf W (blk_below hb hW)
set_option maxHeartbeats 1000000 in
set_option maxRecDepth 100000 in
theorem every_calls (A : Option Addr) (c : Nat) (xs : List Lag) (w : World) (hA : CL w A xs.length xs) (hbig : xs.length ≤ 9223372036854775807) :
    Calls Tryz.prog 162 #[.slice A xs.length c, .func (.func 97) #[] #[]] w fun e w' => e = .returned (.bool (xs.all fun x => decide (x.1 ≤ 0))) ∧ Below w.heap.size w w' := by
  have hall : (xs.all fun x => decide (x.1 ≤ 0)) = !(xs.any fun x => !decide (x.1 ≤ 0)) := by rw [List.all_eq_not_any_not]
  rw [hall]
  have HA := Aside0.mk hA
  clear hA hall
  have hmf : ∀ (fn : Fn) (first cap : Array Value) (w : World), (Instr.makeFunc fn first cap).run Tryz.prog w = .ok (.func fn first cap) w := fun _ _ _ _ => rfl
  go_enter Tryz.func162, Tryz.ntmps162
  go_wp2_with (first | ((with_reducible refine gate_dst (N := 3) rfl ?_); refine box_event ?hg (N := 3) ?hd (cs := #[.func (.func 97) #[] #[]]) (t := 147) ?hr ?_; (case hd => rfl); (case hg => rfl); (case hr => first | (go_simp; done) | (go_simp; rfl)); intro g hg w3 hbox_ hb_; have BK := Aside0.mk hbox_; have Hg := Aside0.mk hg; have HB := Aside0.mk hb_; clear hbox_ hb_ hg) | (go_at_call 174; refine (containsLag_calls A c xs 175 #[.pointer (some ⟨g, 0, none⟩)] (fun x => !decide (x.1 ≤ 0)) _ enter175 (Kd.C_below HA.out HB.out) (every1_pred BK.out) hbig).mono ?_; rintro e w5 ⟨rfl, hb_⟩; have HB5 := Aside0.mk (below_step HB.out hb_); clear hb_))
  go_ret
  exact ⟨rfl, HB5.out⟩
end Go.Proofs.YtflolfbkpjgjaaaGreatDoor
end
