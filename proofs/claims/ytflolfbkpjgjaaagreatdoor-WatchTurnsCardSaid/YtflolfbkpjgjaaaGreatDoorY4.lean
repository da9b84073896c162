/- What the proofs lean on, part 4: contracts of the functions that all the laws reach, and the plain words for them. -/
import Derived.StillTailTactics
import Derived.Test.YtflolfbkpjgjaaaGreatDoorY3
set_option linter.unusedVariables false
set_option linter.unusedSimpArgs false
section
namespace Go.Proofs.YtflolfbkpjgjaaaGreatDoor
open Go.RowKit Go.Proofs.YtflolfbkpjgjaaaGreatDoorW.PrintWords
open Go.Proofs.YtflolfbkpjgjaaaGreatDoorW.PrintMore
def listB (r : Ros) (gate : Int) (l : List Int) : Bool := !(l.any (outB r)) && (diffB l && (sortedB l && !(l.any fun i => (tn r i).gate != gate)))
def proofB (r : Ros) (gate : Int) (l : List Int) : Bool := !(l.any (endB r)) && !decide ((0 : Int) < ((ownL r gate (missB r l)).length : Int))
def checkGapE (r : Ros) (gate : Int) (l : List Int) : Int := if gatedE r gate != 0 then gatedE r gate else if listB r gate l then if proofB r gate l then 0 else 32 else 1
set_option maxHeartbeats 4000000 in
set_option maxRecDepth 100000 in
theorem checkGap_calls (v lv : Value) (r : Ros) (gate : Int) (l : List Int) (w : World) (hv : RosAt w v r) (hl : IntsAt w lv l) :
    Calls Tryz.prog 26 #[v, .int .i64 gate, lv] w fun e w' => e = .returned (.int .i64 (checkGapE r gate l)) ∧ Below w.heap.size w w' := by
  have hR := Aside0.mk hv
  obtain ⟨A, c, T, d, rfl, h1, h2, h3, h4⟩ := hv
  clear h3 h4
  have hL := Aside0.mk hl
  have hgat := fun w (h : RosAt w (.agg (rosC r A c T d)) r) => gated_calls (.agg (rosC r A c T d)) r gate w h
  have hturns := fun (V : Valid r) w (h : RosAt w (.agg (rosC r A c T d)) r) (h2 : IntsAt w lv l) => (turnsE_of V l ▸ turns_calls (.agg (rosC r A c T d)) lv r l w h h2 : Calls Tryz.prog 89 #[.agg (rosC r A c T d), lv] w fun e w' => e = .returned (.int .i64 (if l.any (outB r) then 1 else 0)) ∧ Below w.heap.size w w')
  have hdiff := fun w (h : IntsAt w lv l) => different_calls lv l w h
  have hgate := fun (hin : ∀ x ∈ l, 0 ≤ x ∧ x < r.turns.length) w b bg (h : IntsAt w lv l) (h2 : BoxAt w b r) (h3 : w.heap[bg]? = some (.cells #[.int .i64 gate] 3 (0, 0))) => containsL_calls lv l 92 #[.pointer (some ⟨b, 0, none⟩), .pointer (some ⟨bg, 0, none⟩)] (fun i => (tn r i).gate != gate) w enter92 h ((gate1_pred h2 h3).mono hin)
  have hown := fun (V : Valid r) (hin : ∀ x ∈ l, 0 ≤ x ∧ x < r.turns.length) w b8 br b5 (h : RosAt w (.agg (rosC r A c T d)) r) (hf : w.heap[b8]? = some (.cells #[.func (.func 93) #[] #[.pointer (some ⟨b5, 0, none⟩)]] 55 (0, 0))) (hb : BoxAt w br r) (h5 : w.heap[b5]? = some (.cells #[lv] 26 (0, 0))) (h2 : IntsAt w lv l) => own_calls (.agg (rosC r A c T d)) r gate 95 #[.pointer (some ⟨b8, 0, none⟩), .pointer (some ⟨br, 0, none⟩), .pointer (some ⟨b5, 0, none⟩)] (missB r l) w enter95 h V.turns ((miss_pred V hf hb h5 h2 hin).mono (fun x hx => ⟨hx.1, hx.2.1⟩))
  have hlate := fun (V : Valid r) (hin : ∀ x ∈ l, 0 ≤ x ∧ x < r.turns.length) w (h : RosAt w (.agg (rosC r A c T d)) r) (h2 : IntsAt w lv l) => late_calls (.agg (rosC r A c T d)) lv r l w V h h2 hin
  have hz := fun h => gatedE_zero (r := r) (gate := gate) h
  have hin := fun h => outB_all (r := r) (l := l) h
  obtain ⟨A1, c1, rfl, hc1, hl1⟩ := hl
  have HC := Aside0.mk hl1
  have hsort := fun w h => isSorted_calls A1 c1 l w h hl1.2.1
  clear hl1
  have hmf : ∀ (fn : Fn) (first cap : Array Value) (w : World), (Instr.makeFunc fn first cap).run Tryz.prog w = .ok (.func fn first cap) w := fun _ _ _ _ => rfl
  have hsf : ∀ (w : World) (a : Addr) (fn : Fn) (x y : Array Value) (m : Mode), (store a (.func fn x y) m).run Tryz.prog w = stored Tryz.prog w a (.func fn x y) m := fun w a fn x y m => run_store Tryz.prog w a _ m rfl
  unfold checkGapE listB proofB
  generalize hge : gatedE r gate = ge at *
  cases hc : (ge != 0)
  · have e0 : ge = 0 := by simpa using hc
    subst e0
    have V := (hz rfl).1
    have hturns2 := hturns V
    have hown2 := hown V
    have hlate2 := hlate V
    clear hturns hown hlate hz hc V
    have hturns := hturns2
    clear hturns2
    generalize hm1 : l.any (outB r) = m1 at *
    generalize diffB l = m2 at *
    generalize sortedB l = m3 at *
    generalize (l.any fun i => (tn r i).gate != gate) = m4 at *
    cases m1
    · have hin2 := hin rfl
      have hgate2 := hgate hin2
      have hown := hown2 hin2
      have hlate := hlate2 hin2
      clear hgate hown2 hlate2 hin hin2
      have hgate := hgate2
      clear hgate2
      generalize l.any (endB r) = m5 at *
      generalize ownL r gate (missB r l) = ol at *
      cases m2
      · go_enter Tryz.func26, Tryz.ntmps26
        go_wp2_with (first | ((with_reducible refine gate_dst (N := 3) rfl ?_); refine box_event ?hg (N := 3) ?hd (cs := rosC r A c T d) (t := 25) ?hr ?_; (case hd => rfl); (case hg => rfl); (case hr => first | (go_simp; done) | (go_simp; rfl)); intro gr hgr w1 hbox_ hb_; have BR1 := Aside0.mk hbox_; have Hgr := Aside0.mk hgr; have HB1 := Aside0.mk hb_; clear hbox_ hb_ hgr) | ((with_reducible refine gate_dst (N := 4) rfl ?_); refine box_event ?hg (N := 4) ?hd (cs := #[.int .i64 gate]) (t := 3) ?hr ?_; (case hd => rfl); (case hg => rfl); (case hr => first | (go_simp; done) | (go_simp; rfl)); intro gg hgg w2 hbox_ hb_; have BG2 := Aside0.mk hbox_; have Hgg := Aside0.mk hgg; have HB2 := Aside0.mk (below_step HB1.out hb_); have BR2 := Aside0.mk (blk_below BR1.out hb_); clear hbox_ hb_ hgg) | ((with_reducible refine gate_dst (N := 5) rfl ?_); refine box_event ?hg (N := 5) ?hd (cs := #[.slice A1 l.length c1]) (t := 26) ?hr ?_; (case hd => rfl); (case hg => rfl); (case hr => first | (go_simp; done) | (go_simp; rfl)); intro gl hgl w3 hbox_ hb_; have BL3 := Aside0.mk hbox_; have Hgl := Aside0.mk hgl; have HB3 := Aside0.mk (below_step HB2.out hb_); have BR3 := Aside0.mk (blk_below BR2.out hb_); have BG3 := Aside0.mk (blk_below BG2.out hb_); obtain ⟨q0, q1, q2, q3, q4⟩ := rosC_cells BR3.out; have q5 : w3.cell? ⟨gg, 0, none⟩ = some (.int .i64 gate) := (blk_cell BG3.out 0).trans rfl; have q6 : w3.cell? ⟨gl, 0, none⟩ = some (.slice A1 l.length c1) := (blk_cell hbox_ 0).trans rfl; clear hbox_ hb_ hgl) | (go_at_call 77; refine (hgat _ (hR.out.below HB3.out)).mono ?_; rintro e w4 ⟨rfl, hb_⟩; have HB4 := Aside0.mk (below_step HB3.out hb_); have BR4 := Aside0.mk (blk_below BR3.out hb_); have BG4 := Aside0.mk (blk_below BG3.out hb_); have BL4 := Aside0.mk (blk_below BL3.out hb_); clear q0 q1 q2 q3 q4 q5 q6; obtain ⟨q0, q1, q2, q3, q4⟩ := rosC_cells BR4.out; have q5 : w4.cell? ⟨gg, 0, none⟩ = some (.int .i64 gate) := (blk_cell BG4.out 0).trans rfl; have q6 : w4.cell? ⟨gl, 0, none⟩ = some (.slice A1 l.length c1) := (blk_cell BL4.out 0).trans rfl; clear hb_) | (go_at_call 89; refine (hturns _ (hR.out.below HB4.out) (IntsAt.below hL.out HB4.out)).mono ?_; rintro e w5 ⟨rfl, hb_⟩; have HB5 := Aside0.mk (below_step HB4.out hb_); have BR5 := Aside0.mk (blk_below BR4.out hb_); have BG5 := Aside0.mk (blk_below BG4.out hb_); have BL5 := Aside0.mk (blk_below BL4.out hb_); clear q0 q1 q2 q3 q4 q5 q6; obtain ⟨q0, q1, q2, q3, q4⟩ := rosC_cells BR5.out; have q5 : w5.cell? ⟨gg, 0, none⟩ = some (.int .i64 gate) := (blk_cell BG5.out 0).trans rfl; have q6 : w5.cell? ⟨gl, 0, none⟩ = some (.slice A1 l.length c1) := (blk_cell BL5.out 0).trans rfl; clear hb_) | (go_at_call 90; refine (hdiff _ (IntsAt.below hL.out HB5.out)).mono ?_; rintro e w' ⟨rfl, rfl⟩) | (go_at_call 91; refine (hsort _ (Kd.C_below HC.out HB5.out)).mono ?_; rintro e w6 ⟨rfl, hb_⟩; have HB6 := Aside0.mk (below_step HB5.out hb_); have BR6 := Aside0.mk (blk_below BR5.out hb_); have BG6 := Aside0.mk (blk_below BG5.out hb_); have BL6 := Aside0.mk (blk_below BL5.out hb_); clear q0 q1 q2 q3 q4 q5 q6; obtain ⟨q0, q1, q2, q3, q4⟩ := rosC_cells BR6.out; have q5 : w6.cell? ⟨gg, 0, none⟩ = some (.int .i64 gate) := (blk_cell BG6.out 0).trans rfl; have q6 : w6.cell? ⟨gl, 0, none⟩ = some (.slice A1 l.length c1) := (blk_cell BL6.out 0).trans rfl; clear hb_) | (go_at_call 43; refine (hgate _ gr gg (IntsAt.below hL.out HB6.out) ⟨A, c, T, d, BR6.out, hR.out.below HB6.out⟩ BG6.out).mono ?_; rintro e w7 ⟨rfl, hb_⟩; have HB7 := Aside0.mk (below_step HB6.out hb_); have BR7 := Aside0.mk (blk_below BR6.out hb_); have BG7 := Aside0.mk (blk_below BG6.out hb_); have BL7 := Aside0.mk (blk_below BL6.out hb_); clear q0 q1 q2 q3 q4 q5 q6; obtain ⟨q0, q1, q2, q3, q4⟩ := rosC_cells BR7.out; have q5 : w7.cell? ⟨gg, 0, none⟩ = some (.int .i64 gate) := (blk_cell BG7.out 0).trans rfl; have q6 : w7.cell? ⟨gl, 0, none⟩ = some (.slice A1 l.length c1) := (blk_cell BL7.out 0).trans rfl; have pr := blk_lt BR7.out; have pg := blk_lt BG7.out; have pl := blk_lt BL7.out; clear hb_) | (go_at_call 94; refine (hown _ _ gr gl (hR.out.below (below_alloc HB7.out _)) (alloc_at w7 _) ⟨A, c, T, d, blk_alloc BR7.out _, hR.out.below (below_alloc HB7.out _)⟩ (blk_alloc BL7.out _) (IntsAt.below hL.out (below_alloc HB7.out _))).mono ?_; rintro e w8 ⟨lv8, rfl, ho_, hb_⟩; obtain ⟨A8, c8, rfl⟩ := own_slice ho_; have HB8 := Aside0.mk (below_step (below_alloc HB7.out _) hb_); have BR8 := Aside0.mk (blk_below (blk_alloc BR7.out _) hb_); have BL8 := Aside0.mk (blk_below (blk_alloc BL7.out _) hb_); clear q0 q1 q2 q3 q4 q5 q6; obtain ⟨q0, q1, q2, q3, q4⟩ := rosC_cells BR8.out; have q6 : w8.cell? ⟨gl, 0, none⟩ = some (.slice A1 l.length c1) := (blk_cell BL8.out 0).trans rfl; clear hb_ ho_) | (go_at_call 81; refine (hlate _ (hR.out.below HB8.out) (IntsAt.below hL.out HB8.out)).mono ?_; rintro e w9 ⟨rfl, hb_⟩; have HB9 := Aside0.mk (below_step HB8.out hb_); clear hb_))
        go_ret
        exact ⟨rfl, HB5.out⟩
      · cases m3
        · go_enter Tryz.func26, Tryz.ntmps26
          go_wp2_with (first | ((with_reducible refine gate_dst (N := 3) rfl ?_); refine box_event ?hg (N := 3) ?hd (cs := rosC r A c T d) (t := 25) ?hr ?_; (case hd => rfl); (case hg => rfl); (case hr => first | (go_simp; done) | (go_simp; rfl)); intro gr hgr w1 hbox_ hb_; have BR1 := Aside0.mk hbox_; have Hgr := Aside0.mk hgr; have HB1 := Aside0.mk hb_; clear hbox_ hb_ hgr) | ((with_reducible refine gate_dst (N := 4) rfl ?_); refine box_event ?hg (N := 4) ?hd (cs := #[.int .i64 gate]) (t := 3) ?hr ?_; (case hd => rfl); (case hg => rfl); (case hr => first | (go_simp; done) | (go_simp; rfl)); intro gg hgg w2 hbox_ hb_; have BG2 := Aside0.mk hbox_; have Hgg := Aside0.mk hgg; have HB2 := Aside0.mk (below_step HB1.out hb_); have BR2 := Aside0.mk (blk_below BR1.out hb_); clear hbox_ hb_ hgg) | ((with_reducible refine gate_dst (N := 5) rfl ?_); refine box_event ?hg (N := 5) ?hd (cs := #[.slice A1 l.length c1]) (t := 26) ?hr ?_; (case hd => rfl); (case hg => rfl); (case hr => first | (go_simp; done) | (go_simp; rfl)); intro gl hgl w3 hbox_ hb_; have BL3 := Aside0.mk hbox_; have Hgl := Aside0.mk hgl; have HB3 := Aside0.mk (below_step HB2.out hb_); have BR3 := Aside0.mk (blk_below BR2.out hb_); have BG3 := Aside0.mk (blk_below BG2.out hb_); obtain ⟨q0, q1, q2, q3, q4⟩ := rosC_cells BR3.out; have q5 : w3.cell? ⟨gg, 0, none⟩ = some (.int .i64 gate) := (blk_cell BG3.out 0).trans rfl; have q6 : w3.cell? ⟨gl, 0, none⟩ = some (.slice A1 l.length c1) := (blk_cell hbox_ 0).trans rfl; clear hbox_ hb_ hgl) | (go_at_call 77; refine (hgat _ (hR.out.below HB3.out)).mono ?_; rintro e w4 ⟨rfl, hb_⟩; have HB4 := Aside0.mk (below_step HB3.out hb_); have BR4 := Aside0.mk (blk_below BR3.out hb_); have BG4 := Aside0.mk (blk_below BG3.out hb_); have BL4 := Aside0.mk (blk_below BL3.out hb_); clear q0 q1 q2 q3 q4 q5 q6; obtain ⟨q0, q1, q2, q3, q4⟩ := rosC_cells BR4.out; have q5 : w4.cell? ⟨gg, 0, none⟩ = some (.int .i64 gate) := (blk_cell BG4.out 0).trans rfl; have q6 : w4.cell? ⟨gl, 0, none⟩ = some (.slice A1 l.length c1) := (blk_cell BL4.out 0).trans rfl; clear hb_) | (go_at_call 89; refine (hturns _ (hR.out.below HB4.out) (IntsAt.below hL.out HB4.out)).mono ?_; rintro e w5 ⟨rfl, hb_⟩; have HB5 := Aside0.mk (below_step HB4.out hb_); have BR5 := Aside0.mk (blk_below BR4.out hb_); have BG5 := Aside0.mk (blk_below BG4.out hb_); have BL5 := Aside0.mk (blk_below BL4.out hb_); clear q0 q1 q2 q3 q4 q5 q6; obtain ⟨q0, q1, q2, q3, q4⟩ := rosC_cells BR5.out; have q5 : w5.cell? ⟨gg, 0, none⟩ = some (.int .i64 gate) := (blk_cell BG5.out 0).trans rfl; have q6 : w5.cell? ⟨gl, 0, none⟩ = some (.slice A1 l.length c1) := (blk_cell BL5.out 0).trans rfl; clear hb_) | (go_at_call 90; refine (hdiff _ (IntsAt.below hL.out HB5.out)).mono ?_; rintro e w' ⟨rfl, rfl⟩) | (go_at_call 91; refine (hsort _ (Kd.C_below HC.out HB5.out)).mono ?_; rintro e w6 ⟨rfl, hb_⟩; have HB6 := Aside0.mk (below_step HB5.out hb_); have BR6 := Aside0.mk (blk_below BR5.out hb_); have BG6 := Aside0.mk (blk_below BG5.out hb_); have BL6 := Aside0.mk (blk_below BL5.out hb_); clear q0 q1 q2 q3 q4 q5 q6; obtain ⟨q0, q1, q2, q3, q4⟩ := rosC_cells BR6.out; have q5 : w6.cell? ⟨gg, 0, none⟩ = some (.int .i64 gate) := (blk_cell BG6.out 0).trans rfl; have q6 : w6.cell? ⟨gl, 0, none⟩ = some (.slice A1 l.length c1) := (blk_cell BL6.out 0).trans rfl; clear hb_) | (go_at_call 43; refine (hgate _ gr gg (IntsAt.below hL.out HB6.out) ⟨A, c, T, d, BR6.out, hR.out.below HB6.out⟩ BG6.out).mono ?_; rintro e w7 ⟨rfl, hb_⟩; have HB7 := Aside0.mk (below_step HB6.out hb_); have BR7 := Aside0.mk (blk_below BR6.out hb_); have BG7 := Aside0.mk (blk_below BG6.out hb_); have BL7 := Aside0.mk (blk_below BL6.out hb_); clear q0 q1 q2 q3 q4 q5 q6; obtain ⟨q0, q1, q2, q3, q4⟩ := rosC_cells BR7.out; have q5 : w7.cell? ⟨gg, 0, none⟩ = some (.int .i64 gate) := (blk_cell BG7.out 0).trans rfl; have q6 : w7.cell? ⟨gl, 0, none⟩ = some (.slice A1 l.length c1) := (blk_cell BL7.out 0).trans rfl; have pr := blk_lt BR7.out; have pg := blk_lt BG7.out; have pl := blk_lt BL7.out; clear hb_) | (go_at_call 94; refine (hown _ _ gr gl (hR.out.below (below_alloc HB7.out _)) (alloc_at w7 _) ⟨A, c, T, d, blk_alloc BR7.out _, hR.out.below (below_alloc HB7.out _)⟩ (blk_alloc BL7.out _) (IntsAt.below hL.out (below_alloc HB7.out _))).mono ?_; rintro e w8 ⟨lv8, rfl, ho_, hb_⟩; obtain ⟨A8, c8, rfl⟩ := own_slice ho_; have HB8 := Aside0.mk (below_step (below_alloc HB7.out _) hb_); have BR8 := Aside0.mk (blk_below (blk_alloc BR7.out _) hb_); have BL8 := Aside0.mk (blk_below (blk_alloc BL7.out _) hb_); clear q0 q1 q2 q3 q4 q5 q6; obtain ⟨q0, q1, q2, q3, q4⟩ := rosC_cells BR8.out; have q6 : w8.cell? ⟨gl, 0, none⟩ = some (.slice A1 l.length c1) := (blk_cell BL8.out 0).trans rfl; clear hb_ ho_) | (go_at_call 81; refine (hlate _ (hR.out.below HB8.out) (IntsAt.below hL.out HB8.out)).mono ?_; rintro e w9 ⟨rfl, hb_⟩; have HB9 := Aside0.mk (below_step HB8.out hb_); clear hb_))
          go_ret
          exact ⟨rfl, HB6.out⟩
        · cases m4
          · cases m5
            · by_cases ho : (0 : Int) < (ol.length : Int)
              · rw [decide_eq_true ho]
                go_enter Tryz.func26, Tryz.ntmps26
                go_wp2_with (first | ((with_reducible refine gate_dst (N := 3) rfl ?_); refine box_event ?hg (N := 3) ?hd (cs := rosC r A c T d) (t := 25) ?hr ?_; (case hd => rfl); (case hg => rfl); (case hr => first | (go_simp; done) | (go_simp; rfl)); intro gr hgr w1 hbox_ hb_; have BR1 := Aside0.mk hbox_; have Hgr := Aside0.mk hgr; have HB1 := Aside0.mk hb_; clear hbox_ hb_ hgr) | ((with_reducible refine gate_dst (N := 4) rfl ?_); refine box_event ?hg (N := 4) ?hd (cs := #[.int .i64 gate]) (t := 3) ?hr ?_; (case hd => rfl); (case hg => rfl); (case hr => first | (go_simp; done) | (go_simp; rfl)); intro gg hgg w2 hbox_ hb_; have BG2 := Aside0.mk hbox_; have Hgg := Aside0.mk hgg; have HB2 := Aside0.mk (below_step HB1.out hb_); have BR2 := Aside0.mk (blk_below BR1.out hb_); clear hbox_ hb_ hgg) | ((with_reducible refine gate_dst (N := 5) rfl ?_); refine box_event ?hg (N := 5) ?hd (cs := #[.slice A1 l.length c1]) (t := 26) ?hr ?_; (case hd => rfl); (case hg => rfl); (case hr => first | (go_simp; done) | (go_simp; rfl)); intro gl hgl w3 hbox_ hb_; have BL3 := Aside0.mk hbox_; have Hgl := Aside0.mk hgl; have HB3 := Aside0.mk (below_step HB2.out hb_); have BR3 := Aside0.mk (blk_below BR2.out hb_); have BG3 := Aside0.mk (blk_below BG2.out hb_); obtain ⟨q0, q1, q2, q3, q4⟩ := rosC_cells BR3.out; have q5 : w3.cell? ⟨gg, 0, none⟩ = some (.int .i64 gate) := (blk_cell BG3.out 0).trans rfl; have q6 : w3.cell? ⟨gl, 0, none⟩ = some (.slice A1 l.length c1) := (blk_cell hbox_ 0).trans rfl; clear hbox_ hb_ hgl) | (go_at_call 77; refine (hgat _ (hR.out.below HB3.out)).mono ?_; rintro e w4 ⟨rfl, hb_⟩; have HB4 := Aside0.mk (below_step HB3.out hb_); have BR4 := Aside0.mk (blk_below BR3.out hb_); have BG4 := Aside0.mk (blk_below BG3.out hb_); have BL4 := Aside0.mk (blk_below BL3.out hb_); clear q0 q1 q2 q3 q4 q5 q6; obtain ⟨q0, q1, q2, q3, q4⟩ := rosC_cells BR4.out; have q5 : w4.cell? ⟨gg, 0, none⟩ = some (.int .i64 gate) := (blk_cell BG4.out 0).trans rfl; have q6 : w4.cell? ⟨gl, 0, none⟩ = some (.slice A1 l.length c1) := (blk_cell BL4.out 0).trans rfl; clear hb_) | (go_at_call 89; refine (hturns _ (hR.out.below HB4.out) (IntsAt.below hL.out HB4.out)).mono ?_; rintro e w5 ⟨rfl, hb_⟩; have HB5 := Aside0.mk (below_step HB4.out hb_); have BR5 := Aside0.mk (blk_below BR4.out hb_); have BG5 := Aside0.mk (blk_below BG4.out hb_); have BL5 := Aside0.mk (blk_below BL4.out hb_); clear q0 q1 q2 q3 q4 q5 q6; obtain ⟨q0, q1, q2, q3, q4⟩ := rosC_cells BR5.out; have q5 : w5.cell? ⟨gg, 0, none⟩ = some (.int .i64 gate) := (blk_cell BG5.out 0).trans rfl; have q6 : w5.cell? ⟨gl, 0, none⟩ = some (.slice A1 l.length c1) := (blk_cell BL5.out 0).trans rfl; clear hb_) | (go_at_call 90; refine (hdiff _ (IntsAt.below hL.out HB5.out)).mono ?_; rintro e w' ⟨rfl, rfl⟩) | (go_at_call 91; refine (hsort _ (Kd.C_below HC.out HB5.out)).mono ?_; rintro e w6 ⟨rfl, hb_⟩; have HB6 := Aside0.mk (below_step HB5.out hb_); have BR6 := Aside0.mk (blk_below BR5.out hb_); have BG6 := Aside0.mk (blk_below BG5.out hb_); have BL6 := Aside0.mk (blk_below BL5.out hb_); clear q0 q1 q2 q3 q4 q5 q6; obtain ⟨q0, q1, q2, q3, q4⟩ := rosC_cells BR6.out; have q5 : w6.cell? ⟨gg, 0, none⟩ = some (.int .i64 gate) := (blk_cell BG6.out 0).trans rfl; have q6 : w6.cell? ⟨gl, 0, none⟩ = some (.slice A1 l.length c1) := (blk_cell BL6.out 0).trans rfl; clear hb_) | (go_at_call 43; refine (hgate _ gr gg (IntsAt.below hL.out HB6.out) ⟨A, c, T, d, BR6.out, hR.out.below HB6.out⟩ BG6.out).mono ?_; rintro e w7 ⟨rfl, hb_⟩; have HB7 := Aside0.mk (below_step HB6.out hb_); have BR7 := Aside0.mk (blk_below BR6.out hb_); have BG7 := Aside0.mk (blk_below BG6.out hb_); have BL7 := Aside0.mk (blk_below BL6.out hb_); clear q0 q1 q2 q3 q4 q5 q6; obtain ⟨q0, q1, q2, q3, q4⟩ := rosC_cells BR7.out; have q5 : w7.cell? ⟨gg, 0, none⟩ = some (.int .i64 gate) := (blk_cell BG7.out 0).trans rfl; have q6 : w7.cell? ⟨gl, 0, none⟩ = some (.slice A1 l.length c1) := (blk_cell BL7.out 0).trans rfl; have pr := blk_lt BR7.out; have pg := blk_lt BG7.out; have pl := blk_lt BL7.out; clear hb_) | (go_at_call 94; refine (hown _ _ gr gl (hR.out.below (below_alloc HB7.out _)) (alloc_at w7 _) ⟨A, c, T, d, blk_alloc BR7.out _, hR.out.below (below_alloc HB7.out _)⟩ (blk_alloc BL7.out _) (IntsAt.below hL.out (below_alloc HB7.out _))).mono ?_; rintro e w8 ⟨lv8, rfl, ho_, hb_⟩; obtain ⟨A8, c8, rfl⟩ := own_slice ho_; have HB8 := Aside0.mk (below_step (below_alloc HB7.out _) hb_); have BR8 := Aside0.mk (blk_below (blk_alloc BR7.out _) hb_); have BL8 := Aside0.mk (blk_below (blk_alloc BL7.out _) hb_); clear q0 q1 q2 q3 q4 q5 q6; obtain ⟨q0, q1, q2, q3, q4⟩ := rosC_cells BR8.out; have q6 : w8.cell? ⟨gl, 0, none⟩ = some (.slice A1 l.length c1) := (blk_cell BL8.out 0).trans rfl; clear hb_ ho_) | (go_at_call 81; refine (hlate _ (hR.out.below HB8.out) (IntsAt.below hL.out HB8.out)).mono ?_; rintro e w9 ⟨rfl, hb_⟩; have HB9 := Aside0.mk (below_step HB8.out hb_); clear hb_))
                go_ret
                exact ⟨rfl, HB9.out⟩
              · rw [decide_eq_false ho]
                go_enter Tryz.func26, Tryz.ntmps26
                go_wp2_with (first | ((with_reducible refine gate_dst (N := 3) rfl ?_); refine box_event ?hg (N := 3) ?hd (cs := rosC r A c T d) (t := 25) ?hr ?_; (case hd => rfl); (case hg => rfl); (case hr => first | (go_simp; done) | (go_simp; rfl)); intro gr hgr w1 hbox_ hb_; have BR1 := Aside0.mk hbox_; have Hgr := Aside0.mk hgr; have HB1 := Aside0.mk hb_; clear hbox_ hb_ hgr) | ((with_reducible refine gate_dst (N := 4) rfl ?_); refine box_event ?hg (N := 4) ?hd (cs := #[.int .i64 gate]) (t := 3) ?hr ?_; (case hd => rfl); (case hg => rfl); (case hr => first | (go_simp; done) | (go_simp; rfl)); intro gg hgg w2 hbox_ hb_; have BG2 := Aside0.mk hbox_; have Hgg := Aside0.mk hgg; have HB2 := Aside0.mk (below_step HB1.out hb_); have BR2 := Aside0.mk (blk_below BR1.out hb_); clear hbox_ hb_ hgg) | ((with_reducible refine gate_dst (N := 5) rfl ?_); refine box_event ?hg (N := 5) ?hd (cs := #[.slice A1 l.length c1]) (t := 26) ?hr ?_; (case hd => rfl); (case hg => rfl); (case hr => first | (go_simp; done) | (go_simp; rfl)); intro gl hgl w3 hbox_ hb_; have BL3 := Aside0.mk hbox_; have Hgl := Aside0.mk hgl; have HB3 := Aside0.mk (below_step HB2.out hb_); have BR3 := Aside0.mk (blk_below BR2.out hb_); have BG3 := Aside0.mk (blk_below BG2.out hb_); obtain ⟨q0, q1, q2, q3, q4⟩ := rosC_cells BR3.out; have q5 : w3.cell? ⟨gg, 0, none⟩ = some (.int .i64 gate) := (blk_cell BG3.out 0).trans rfl; have q6 : w3.cell? ⟨gl, 0, none⟩ = some (.slice A1 l.length c1) := (blk_cell hbox_ 0).trans rfl; clear hbox_ hb_ hgl) | (go_at_call 77; refine (hgat _ (hR.out.below HB3.out)).mono ?_; rintro e w4 ⟨rfl, hb_⟩; have HB4 := Aside0.mk (below_step HB3.out hb_); have BR4 := Aside0.mk (blk_below BR3.out hb_); have BG4 := Aside0.mk (blk_below BG3.out hb_); have BL4 := Aside0.mk (blk_below BL3.out hb_); clear q0 q1 q2 q3 q4 q5 q6; obtain ⟨q0, q1, q2, q3, q4⟩ := rosC_cells BR4.out; have q5 : w4.cell? ⟨gg, 0, none⟩ = some (.int .i64 gate) := (blk_cell BG4.out 0).trans rfl; have q6 : w4.cell? ⟨gl, 0, none⟩ = some (.slice A1 l.length c1) := (blk_cell BL4.out 0).trans rfl; clear hb_) | (go_at_call 89; refine (hturns _ (hR.out.below HB4.out) (IntsAt.below hL.out HB4.out)).mono ?_; rintro e w5 ⟨rfl, hb_⟩; have HB5 := Aside0.mk (below_step HB4.out hb_); have BR5 := Aside0.mk (blk_below BR4.out hb_); have BG5 := Aside0.mk (blk_below BG4.out hb_); have BL5 := Aside0.mk (blk_below BL4.out hb_); clear q0 q1 q2 q3 q4 q5 q6; obtain ⟨q0, q1, q2, q3, q4⟩ := rosC_cells BR5.out; have q5 : w5.cell? ⟨gg, 0, none⟩ = some (.int .i64 gate) := (blk_cell BG5.out 0).trans rfl; have q6 : w5.cell? ⟨gl, 0, none⟩ = some (.slice A1 l.length c1) := (blk_cell BL5.out 0).trans rfl; clear hb_) | (go_at_call 90; refine (hdiff _ (IntsAt.below hL.out HB5.out)).mono ?_; rintro e w' ⟨rfl, rfl⟩) | (go_at_call 91; refine (hsort _ (Kd.C_below HC.out HB5.out)).mono ?_; rintro e w6 ⟨rfl, hb_⟩; have HB6 := Aside0.mk (below_step HB5.out hb_); have BR6 := Aside0.mk (blk_below BR5.out hb_); have BG6 := Aside0.mk (blk_below BG5.out hb_); have BL6 := Aside0.mk (blk_below BL5.out hb_); clear q0 q1 q2 q3 q4 q5 q6; obtain ⟨q0, q1, q2, q3, q4⟩ := rosC_cells BR6.out; have q5 : w6.cell? ⟨gg, 0, none⟩ = some (.int .i64 gate) := (blk_cell BG6.out 0).trans rfl; have q6 : w6.cell? ⟨gl, 0, none⟩ = some (.slice A1 l.length c1) := (blk_cell BL6.out 0).trans rfl; clear hb_) | (go_at_call 43; refine (hgate _ gr gg (IntsAt.below hL.out HB6.out) ⟨A, c, T, d, BR6.out, hR.out.below HB6.out⟩ BG6.out).mono ?_; rintro e w7 ⟨rfl, hb_⟩; have HB7 := Aside0.mk (below_step HB6.out hb_); have BR7 := Aside0.mk (blk_below BR6.out hb_); have BG7 := Aside0.mk (blk_below BG6.out hb_); have BL7 := Aside0.mk (blk_below BL6.out hb_); clear q0 q1 q2 q3 q4 q5 q6; obtain ⟨q0, q1, q2, q3, q4⟩ := rosC_cells BR7.out; have q5 : w7.cell? ⟨gg, 0, none⟩ = some (.int .i64 gate) := (blk_cell BG7.out 0).trans rfl; have q6 : w7.cell? ⟨gl, 0, none⟩ = some (.slice A1 l.length c1) := (blk_cell BL7.out 0).trans rfl; have pr := blk_lt BR7.out; have pg := blk_lt BG7.out; have pl := blk_lt BL7.out; clear hb_) | (go_at_call 94; refine (hown _ _ gr gl (hR.out.below (below_alloc HB7.out _)) (alloc_at w7 _) ⟨A, c, T, d, blk_alloc BR7.out _, hR.out.below (below_alloc HB7.out _)⟩ (blk_alloc BL7.out _) (IntsAt.below hL.out (below_alloc HB7.out _))).mono ?_; rintro e w8 ⟨lv8, rfl, ho_, hb_⟩; obtain ⟨A8, c8, rfl⟩ := own_slice ho_; have HB8 := Aside0.mk (below_step (below_alloc HB7.out _) hb_); have BR8 := Aside0.mk (blk_below (blk_alloc BR7.out _) hb_); have BL8 := Aside0.mk (blk_below (blk_alloc BL7.out _) hb_); clear q0 q1 q2 q3 q4 q5 q6; obtain ⟨q0, q1, q2, q3, q4⟩ := rosC_cells BR8.out; have q6 : w8.cell? ⟨gl, 0, none⟩ = some (.slice A1 l.length c1) := (blk_cell BL8.out 0).trans rfl; clear hb_ ho_) | (go_at_call 81; refine (hlate _ (hR.out.below HB8.out) (IntsAt.below hL.out HB8.out)).mono ?_; rintro e w9 ⟨rfl, hb_⟩; have HB9 := Aside0.mk (below_step HB8.out hb_); clear hb_))
                go_ret
                exact ⟨rfl, HB9.out⟩
            · go_enter Tryz.func26, Tryz.ntmps26
              go_wp2_with (first | ((with_reducible refine gate_dst (N := 3) rfl ?_); refine box_event ?hg (N := 3) ?hd (cs := rosC r A c T d) (t := 25) ?hr ?_; (case hd => rfl); (case hg => rfl); (case hr => first | (go_simp; done) | (go_simp; rfl)); intro gr hgr w1 hbox_ hb_; have BR1 := Aside0.mk hbox_; have Hgr := Aside0.mk hgr; have HB1 := Aside0.mk hb_; clear hbox_ hb_ hgr) | ((with_reducible refine gate_dst (N := 4) rfl ?_); refine box_event ?hg (N := 4) ?hd (cs := #[.int .i64 gate]) (t := 3) ?hr ?_; (case hd => rfl); (case hg => rfl); (case hr => first | (go_simp; done) | (go_simp; rfl)); intro gg hgg w2 hbox_ hb_; have BG2 := Aside0.mk hbox_; have Hgg := Aside0.mk hgg; have HB2 := Aside0.mk (below_step HB1.out hb_); have BR2 := Aside0.mk (blk_below BR1.out hb_); clear hbox_ hb_ hgg) | ((with_reducible refine gate_dst (N := 5) rfl ?_); refine box_event ?hg (N := 5) ?hd (cs := #[.slice A1 l.length c1]) (t := 26) ?hr ?_; (case hd => rfl); (case hg => rfl); (case hr => first | (go_simp; done) | (go_simp; rfl)); intro gl hgl w3 hbox_ hb_; have BL3 := Aside0.mk hbox_; have Hgl := Aside0.mk hgl; have HB3 := Aside0.mk (below_step HB2.out hb_); have BR3 := Aside0.mk (blk_below BR2.out hb_); have BG3 := Aside0.mk (blk_below BG2.out hb_); obtain ⟨q0, q1, q2, q3, q4⟩ := rosC_cells BR3.out; have q5 : w3.cell? ⟨gg, 0, none⟩ = some (.int .i64 gate) := (blk_cell BG3.out 0).trans rfl; have q6 : w3.cell? ⟨gl, 0, none⟩ = some (.slice A1 l.length c1) := (blk_cell hbox_ 0).trans rfl; clear hbox_ hb_ hgl) | (go_at_call 77; refine (hgat _ (hR.out.below HB3.out)).mono ?_; rintro e w4 ⟨rfl, hb_⟩; have HB4 := Aside0.mk (below_step HB3.out hb_); have BR4 := Aside0.mk (blk_below BR3.out hb_); have BG4 := Aside0.mk (blk_below BG3.out hb_); have BL4 := Aside0.mk (blk_below BL3.out hb_); clear q0 q1 q2 q3 q4 q5 q6; obtain ⟨q0, q1, q2, q3, q4⟩ := rosC_cells BR4.out; have q5 : w4.cell? ⟨gg, 0, none⟩ = some (.int .i64 gate) := (blk_cell BG4.out 0).trans rfl; have q6 : w4.cell? ⟨gl, 0, none⟩ = some (.slice A1 l.length c1) := (blk_cell BL4.out 0).trans rfl; clear hb_) | (go_at_call 89; refine (hturns _ (hR.out.below HB4.out) (IntsAt.below hL.out HB4.out)).mono ?_; rintro e w5 ⟨rfl, hb_⟩; have HB5 := Aside0.mk (below_step HB4.out hb_); have BR5 := Aside0.mk (blk_below BR4.out hb_); have BG5 := Aside0.mk (blk_below BG4.out hb_); have BL5 := Aside0.mk (blk_below BL4.out hb_); clear q0 q1 q2 q3 q4 q5 q6; obtain ⟨q0, q1, q2, q3, q4⟩ := rosC_cells BR5.out; have q5 : w5.cell? ⟨gg, 0, none⟩ = some (.int .i64 gate) := (blk_cell BG5.out 0).trans rfl; have q6 : w5.cell? ⟨gl, 0, none⟩ = some (.slice A1 l.length c1) := (blk_cell BL5.out 0).trans rfl; clear hb_) | (go_at_call 90; refine (hdiff _ (IntsAt.below hL.out HB5.out)).mono ?_; rintro e w' ⟨rfl, rfl⟩) | (go_at_call 91; refine (hsort _ (Kd.C_below HC.out HB5.out)).mono ?_; rintro e w6 ⟨rfl, hb_⟩; have HB6 := Aside0.mk (below_step HB5.out hb_); have BR6 := Aside0.mk (blk_below BR5.out hb_); have BG6 := Aside0.mk (blk_below BG5.out hb_); have BL6 := Aside0.mk (blk_below BL5.out hb_); clear q0 q1 q2 q3 q4 q5 q6; obtain ⟨q0, q1, q2, q3, q4⟩ := rosC_cells BR6.out; have q5 : w6.cell? ⟨gg, 0, none⟩ = some (.int .i64 gate) := (blk_cell BG6.out 0).trans rfl; have q6 : w6.cell? ⟨gl, 0, none⟩ = some (.slice A1 l.length c1) := (blk_cell BL6.out 0).trans rfl; clear hb_) | (go_at_call 43; refine (hgate _ gr gg (IntsAt.below hL.out HB6.out) ⟨A, c, T, d, BR6.out, hR.out.below HB6.out⟩ BG6.out).mono ?_; rintro e w7 ⟨rfl, hb_⟩; have HB7 := Aside0.mk (below_step HB6.out hb_); have BR7 := Aside0.mk (blk_below BR6.out hb_); have BG7 := Aside0.mk (blk_below BG6.out hb_); have BL7 := Aside0.mk (blk_below BL6.out hb_); clear q0 q1 q2 q3 q4 q5 q6; obtain ⟨q0, q1, q2, q3, q4⟩ := rosC_cells BR7.out; have q5 : w7.cell? ⟨gg, 0, none⟩ = some (.int .i64 gate) := (blk_cell BG7.out 0).trans rfl; have q6 : w7.cell? ⟨gl, 0, none⟩ = some (.slice A1 l.length c1) := (blk_cell BL7.out 0).trans rfl; have pr := blk_lt BR7.out; have pg := blk_lt BG7.out; have pl := blk_lt BL7.out; clear hb_) | (go_at_call 94; refine (hown _ _ gr gl (hR.out.below (below_alloc HB7.out _)) (alloc_at w7 _) ⟨A, c, T, d, blk_alloc BR7.out _, hR.out.below (below_alloc HB7.out _)⟩ (blk_alloc BL7.out _) (IntsAt.below hL.out (below_alloc HB7.out _))).mono ?_; rintro e w8 ⟨lv8, rfl, ho_, hb_⟩; obtain ⟨A8, c8, rfl⟩ := own_slice ho_; have HB8 := Aside0.mk (below_step (below_alloc HB7.out _) hb_); have BR8 := Aside0.mk (blk_below (blk_alloc BR7.out _) hb_); have BL8 := Aside0.mk (blk_below (blk_alloc BL7.out _) hb_); clear q0 q1 q2 q3 q4 q5 q6; obtain ⟨q0, q1, q2, q3, q4⟩ := rosC_cells BR8.out; have q6 : w8.cell? ⟨gl, 0, none⟩ = some (.slice A1 l.length c1) := (blk_cell BL8.out 0).trans rfl; clear hb_ ho_) | (go_at_call 81; refine (hlate _ (hR.out.below HB8.out) (IntsAt.below hL.out HB8.out)).mono ?_; rintro e w9 ⟨rfl, hb_⟩; have HB9 := Aside0.mk (below_step HB8.out hb_); clear hb_))
              go_ret
              exact ⟨rfl, HB9.out⟩
          · go_enter Tryz.func26, Tryz.ntmps26
            go_wp2_with (first | ((with_reducible refine gate_dst (N := 3) rfl ?_); refine box_event ?hg (N := 3) ?hd (cs := rosC r A c T d) (t := 25) ?hr ?_; (case hd => rfl); (case hg => rfl); (case hr => first | (go_simp; done) | (go_simp; rfl)); intro gr hgr w1 hbox_ hb_; have BR1 := Aside0.mk hbox_; have Hgr := Aside0.mk hgr; have HB1 := Aside0.mk hb_; clear hbox_ hb_ hgr) | ((with_reducible refine gate_dst (N := 4) rfl ?_); refine box_event ?hg (N := 4) ?hd (cs := #[.int .i64 gate]) (t := 3) ?hr ?_; (case hd => rfl); (case hg => rfl); (case hr => first | (go_simp; done) | (go_simp; rfl)); intro gg hgg w2 hbox_ hb_; have BG2 := Aside0.mk hbox_; have Hgg := Aside0.mk hgg; have HB2 := Aside0.mk (below_step HB1.out hb_); have BR2 := Aside0.mk (blk_below BR1.out hb_); clear hbox_ hb_ hgg) | ((with_reducible refine gate_dst (N := 5) rfl ?_); refine box_event ?hg (N := 5) ?hd (cs := #[.slice A1 l.length c1]) (t := 26) ?hr ?_; (case hd => rfl); (case hg => rfl); (case hr => first | (go_simp; done) | (go_simp; rfl)); intro gl hgl w3 hbox_ hb_; have BL3 := Aside0.mk hbox_; have Hgl := Aside0.mk hgl; have HB3 := Aside0.mk (below_step HB2.out hb_); have BR3 := Aside0.mk (blk_below BR2.out hb_); have BG3 := Aside0.mk (blk_below BG2.out hb_); obtain ⟨q0, q1, q2, q3, q4⟩ := rosC_cells BR3.out; have q5 : w3.cell? ⟨gg, 0, none⟩ = some (.int .i64 gate) := (blk_cell BG3.out 0).trans rfl; have q6 : w3.cell? ⟨gl, 0, none⟩ = some (.slice A1 l.length c1) := (blk_cell hbox_ 0).trans rfl; clear hbox_ hb_ hgl) | (go_at_call 77; refine (hgat _ (hR.out.below HB3.out)).mono ?_; rintro e w4 ⟨rfl, hb_⟩; have HB4 := Aside0.mk (below_step HB3.out hb_); have BR4 := Aside0.mk (blk_below BR3.out hb_); have BG4 := Aside0.mk (blk_below BG3.out hb_); have BL4 := Aside0.mk (blk_below BL3.out hb_); clear q0 q1 q2 q3 q4 q5 q6; obtain ⟨q0, q1, q2, q3, q4⟩ := rosC_cells BR4.out; have q5 : w4.cell? ⟨gg, 0, none⟩ = some (.int .i64 gate) := (blk_cell BG4.out 0).trans rfl; have q6 : w4.cell? ⟨gl, 0, none⟩ = some (.slice A1 l.length c1) := (blk_cell BL4.out 0).trans rfl; clear hb_) | (go_at_call 89; refine (hturns _ (hR.out.below HB4.out) (IntsAt.below hL.out HB4.out)).mono ?_; rintro e w5 ⟨rfl, hb_⟩; have HB5 := Aside0.mk (below_step HB4.out hb_); have BR5 := Aside0.mk (blk_below BR4.out hb_); have BG5 := Aside0.mk (blk_below BG4.out hb_); have BL5 := Aside0.mk (blk_below BL4.out hb_); clear q0 q1 q2 q3 q4 q5 q6; obtain ⟨q0, q1, q2, q3, q4⟩ := rosC_cells BR5.out; have q5 : w5.cell? ⟨gg, 0, none⟩ = some (.int .i64 gate) := (blk_cell BG5.out 0).trans rfl; have q6 : w5.cell? ⟨gl, 0, none⟩ = some (.slice A1 l.length c1) := (blk_cell BL5.out 0).trans rfl; clear hb_) | (go_at_call 90; refine (hdiff _ (IntsAt.below hL.out HB5.out)).mono ?_; rintro e w' ⟨rfl, rfl⟩) | (go_at_call 91; refine (hsort _ (Kd.C_below HC.out HB5.out)).mono ?_; rintro e w6 ⟨rfl, hb_⟩; have HB6 := Aside0.mk (below_step HB5.out hb_); have BR6 := Aside0.mk (blk_below BR5.out hb_); have BG6 := Aside0.mk (blk_below BG5.out hb_); have BL6 := Aside0.mk (blk_below BL5.out hb_); clear q0 q1 q2 q3 q4 q5 q6; obtain ⟨q0, q1, q2, q3, q4⟩ := rosC_cells BR6.out; have q5 : w6.cell? ⟨gg, 0, none⟩ = some (.int .i64 gate) := (blk_cell BG6.out 0).trans rfl; have q6 : w6.cell? ⟨gl, 0, none⟩ = some (.slice A1 l.length c1) := (blk_cell BL6.out 0).trans rfl; clear hb_) | (go_at_call 43; refine (hgate _ gr gg (IntsAt.below hL.out HB6.out) ⟨A, c, T, d, BR6.out, hR.out.below HB6.out⟩ BG6.out).mono ?_; rintro e w7 ⟨rfl, hb_⟩; have HB7 := Aside0.mk (below_step HB6.out hb_); have BR7 := Aside0.mk (blk_below BR6.out hb_); have BG7 := Aside0.mk (blk_below BG6.out hb_); have BL7 := Aside0.mk (blk_below BL6.out hb_); clear q0 q1 q2 q3 q4 q5 q6; obtain ⟨q0, q1, q2, q3, q4⟩ := rosC_cells BR7.out; have q5 : w7.cell? ⟨gg, 0, none⟩ = some (.int .i64 gate) := (blk_cell BG7.out 0).trans rfl; have q6 : w7.cell? ⟨gl, 0, none⟩ = some (.slice A1 l.length c1) := (blk_cell BL7.out 0).trans rfl; have pr := blk_lt BR7.out; have pg := blk_lt BG7.out; have pl := blk_lt BL7.out; clear hb_) | (go_at_call 94; refine (hown _ _ gr gl (hR.out.below (below_alloc HB7.out _)) (alloc_at w7 _) ⟨A, c, T, d, blk_alloc BR7.out _, hR.out.below (below_alloc HB7.out _)⟩ (blk_alloc BL7.out _) (IntsAt.below hL.out (below_alloc HB7.out _))).mono ?_; rintro e w8 ⟨lv8, rfl, ho_, hb_⟩; obtain ⟨A8, c8, rfl⟩ := own_slice ho_; have HB8 := Aside0.mk (below_step (below_alloc HB7.out _) hb_); have BR8 := Aside0.mk (blk_below (blk_alloc BR7.out _) hb_); have BL8 := Aside0.mk (blk_below (blk_alloc BL7.out _) hb_); clear q0 q1 q2 q3 q4 q5 q6; obtain ⟨q0, q1, q2, q3, q4⟩ := rosC_cells BR8.out; have q6 : w8.cell? ⟨gl, 0, none⟩ = some (.slice A1 l.length c1) := (blk_cell BL8.out 0).trans rfl; clear hb_ ho_) | (go_at_call 81; refine (hlate _ (hR.out.below HB8.out) (IntsAt.below hL.out HB8.out)).mono ?_; rintro e w9 ⟨rfl, hb_⟩; have HB9 := Aside0.mk (below_step HB8.out hb_); clear hb_))
            go_ret
            exact ⟨rfl, HB7.out⟩
    · clear hgate hown2 hlate2
      go_enter Tryz.func26, Tryz.ntmps26
      go_wp2_with (first | ((with_reducible refine gate_dst (N := 3) rfl ?_); refine box_event ?hg (N := 3) ?hd (cs := rosC r A c T d) (t := 25) ?hr ?_; (case hd => rfl); (case hg => rfl); (case hr => first | (go_simp; done) | (go_simp; rfl)); intro gr hgr w1 hbox_ hb_; have BR1 := Aside0.mk hbox_; have Hgr := Aside0.mk hgr; have HB1 := Aside0.mk hb_; clear hbox_ hb_ hgr) | ((with_reducible refine gate_dst (N := 4) rfl ?_); refine box_event ?hg (N := 4) ?hd (cs := #[.int .i64 gate]) (t := 3) ?hr ?_; (case hd => rfl); (case hg => rfl); (case hr => first | (go_simp; done) | (go_simp; rfl)); intro gg hgg w2 hbox_ hb_; have BG2 := Aside0.mk hbox_; have Hgg := Aside0.mk hgg; have HB2 := Aside0.mk (below_step HB1.out hb_); have BR2 := Aside0.mk (blk_below BR1.out hb_); clear hbox_ hb_ hgg) | ((with_reducible refine gate_dst (N := 5) rfl ?_); refine box_event ?hg (N := 5) ?hd (cs := #[.slice A1 l.length c1]) (t := 26) ?hr ?_; (case hd => rfl); (case hg => rfl); (case hr => first | (go_simp; done) | (go_simp; rfl)); intro gl hgl w3 hbox_ hb_; have BL3 := Aside0.mk hbox_; have Hgl := Aside0.mk hgl; have HB3 := Aside0.mk (below_step HB2.out hb_); have BR3 := Aside0.mk (blk_below BR2.out hb_); have BG3 := Aside0.mk (blk_below BG2.out hb_); obtain ⟨q0, q1, q2, q3, q4⟩ := rosC_cells BR3.out; have q5 : w3.cell? ⟨gg, 0, none⟩ = some (.int .i64 gate) := (blk_cell BG3.out 0).trans rfl; have q6 : w3.cell? ⟨gl, 0, none⟩ = some (.slice A1 l.length c1) := (blk_cell hbox_ 0).trans rfl; clear hbox_ hb_ hgl) | (go_at_call 77; refine (hgat _ (hR.out.below HB3.out)).mono ?_; rintro e w4 ⟨rfl, hb_⟩; have HB4 := Aside0.mk (below_step HB3.out hb_); have BR4 := Aside0.mk (blk_below BR3.out hb_); have BG4 := Aside0.mk (blk_below BG3.out hb_); have BL4 := Aside0.mk (blk_below BL3.out hb_); clear q0 q1 q2 q3 q4 q5 q6; obtain ⟨q0, q1, q2, q3, q4⟩ := rosC_cells BR4.out; have q5 : w4.cell? ⟨gg, 0, none⟩ = some (.int .i64 gate) := (blk_cell BG4.out 0).trans rfl; have q6 : w4.cell? ⟨gl, 0, none⟩ = some (.slice A1 l.length c1) := (blk_cell BL4.out 0).trans rfl; clear hb_) | (go_at_call 89; refine (hturns _ (hR.out.below HB4.out) (IntsAt.below hL.out HB4.out)).mono ?_; rintro e w5 ⟨rfl, hb_⟩; have HB5 := Aside0.mk (below_step HB4.out hb_); have BR5 := Aside0.mk (blk_below BR4.out hb_); have BG5 := Aside0.mk (blk_below BG4.out hb_); have BL5 := Aside0.mk (blk_below BL4.out hb_); clear q0 q1 q2 q3 q4 q5 q6; obtain ⟨q0, q1, q2, q3, q4⟩ := rosC_cells BR5.out; have q5 : w5.cell? ⟨gg, 0, none⟩ = some (.int .i64 gate) := (blk_cell BG5.out 0).trans rfl; have q6 : w5.cell? ⟨gl, 0, none⟩ = some (.slice A1 l.length c1) := (blk_cell BL5.out 0).trans rfl; clear hb_) | (go_at_call 90; refine (hdiff _ (IntsAt.below hL.out HB5.out)).mono ?_; rintro e w' ⟨rfl, rfl⟩) | (go_at_call 91; refine (hsort _ (Kd.C_below HC.out HB5.out)).mono ?_; rintro e w6 ⟨rfl, hb_⟩; have HB6 := Aside0.mk (below_step HB5.out hb_); have BR6 := Aside0.mk (blk_below BR5.out hb_); have BG6 := Aside0.mk (blk_below BG5.out hb_); have BL6 := Aside0.mk (blk_below BL5.out hb_); clear q0 q1 q2 q3 q4 q5 q6; obtain ⟨q0, q1, q2, q3, q4⟩ := rosC_cells BR6.out; have q5 : w6.cell? ⟨gg, 0, none⟩ = some (.int .i64 gate) := (blk_cell BG6.out 0).trans rfl; have q6 : w6.cell? ⟨gl, 0, none⟩ = some (.slice A1 l.length c1) := (blk_cell BL6.out 0).trans rfl; clear hb_) | (go_at_call 43; refine (hgate _ gr gg (IntsAt.below hL.out HB6.out) ⟨A, c, T, d, BR6.out, hR.out.below HB6.out⟩ BG6.out).mono ?_; rintro e w7 ⟨rfl, hb_⟩; have HB7 := Aside0.mk (below_step HB6.out hb_); have BR7 := Aside0.mk (blk_below BR6.out hb_); have BG7 := Aside0.mk (blk_below BG6.out hb_); have BL7 := Aside0.mk (blk_below BL6.out hb_); clear q0 q1 q2 q3 q4 q5 q6; obtain ⟨q0, q1, q2, q3, q4⟩ := rosC_cells BR7.out; have q5 : w7.cell? ⟨gg, 0, none⟩ = some (.int .i64 gate) := (blk_cell BG7.out 0).trans rfl; have q6 : w7.cell? ⟨gl, 0, none⟩ = some (.slice A1 l.length c1) := (blk_cell BL7.out 0).trans rfl; have pr := blk_lt BR7.out; have pg := blk_lt BG7.out; have pl := blk_lt BL7.out; clear hb_) | (go_at_call 94; refine (hown _ _ gr gl (hR.out.below (below_alloc HB7.out _)) (alloc_at w7 _) ⟨A, c, T, d, blk_alloc BR7.out _, hR.out.below (below_alloc HB7.out _)⟩ (blk_alloc BL7.out _) (IntsAt.below hL.out (below_alloc HB7.out _))).mono ?_; rintro e w8 ⟨lv8, rfl, ho_, hb_⟩; obtain ⟨A8, c8, rfl⟩ := own_slice ho_; have HB8 := Aside0.mk (below_step (below_alloc HB7.out _) hb_); have BR8 := Aside0.mk (blk_below (blk_alloc BR7.out _) hb_); have BL8 := Aside0.mk (blk_below (blk_alloc BL7.out _) hb_); clear q0 q1 q2 q3 q4 q5 q6; obtain ⟨q0, q1, q2, q3, q4⟩ := rosC_cells BR8.out; have q6 : w8.cell? ⟨gl, 0, none⟩ = some (.slice A1 l.length c1) := (blk_cell BL8.out 0).trans rfl; clear hb_ ho_) | (go_at_call 81; refine (hlate _ (hR.out.below HB8.out) (IntsAt.below hL.out HB8.out)).mono ?_; rintro e w9 ⟨rfl, hb_⟩; have HB9 := Aside0.mk (below_step HB8.out hb_); clear hb_))
      go_ret
      exact ⟨rfl, HB5.out⟩
  · clear hgate hown hlate hturns
    go_enter Tryz.func26, Tryz.ntmps26
    go_wp2_with (first | ((with_reducible refine gate_dst (N := 3) rfl ?_); refine box_event ?hg (N := 3) ?hd (cs := rosC r A c T d) (t := 25) ?hr ?_; (case hd => rfl); (case hg => rfl); (case hr => first | (go_simp; done) | (go_simp; rfl)); intro gr hgr w1 hbox_ hb_; have BR1 := Aside0.mk hbox_; have Hgr := Aside0.mk hgr; have HB1 := Aside0.mk hb_; clear hbox_ hb_ hgr) | ((with_reducible refine gate_dst (N := 4) rfl ?_); refine box_event ?hg (N := 4) ?hd (cs := #[.int .i64 gate]) (t := 3) ?hr ?_; (case hd => rfl); (case hg => rfl); (case hr => first | (go_simp; done) | (go_simp; rfl)); intro gg hgg w2 hbox_ hb_; have BG2 := Aside0.mk hbox_; have Hgg := Aside0.mk hgg; have HB2 := Aside0.mk (below_step HB1.out hb_); have BR2 := Aside0.mk (blk_below BR1.out hb_); clear hbox_ hb_ hgg) | ((with_reducible refine gate_dst (N := 5) rfl ?_); refine box_event ?hg (N := 5) ?hd (cs := #[.slice A1 l.length c1]) (t := 26) ?hr ?_; (case hd => rfl); (case hg => rfl); (case hr => first | (go_simp; done) | (go_simp; rfl)); intro gl hgl w3 hbox_ hb_; have BL3 := Aside0.mk hbox_; have Hgl := Aside0.mk hgl; have HB3 := Aside0.mk (below_step HB2.out hb_); have BR3 := Aside0.mk (blk_below BR2.out hb_); have BG3 := Aside0.mk (blk_below BG2.out hb_); obtain ⟨q0, q1, q2, q3, q4⟩ := rosC_cells BR3.out; have q5 : w3.cell? ⟨gg, 0, none⟩ = some (.int .i64 gate) := (blk_cell BG3.out 0).trans rfl; have q6 : w3.cell? ⟨gl, 0, none⟩ = some (.slice A1 l.length c1) := (blk_cell hbox_ 0).trans rfl; clear hbox_ hb_ hgl) | (go_at_call 77; refine (hgat _ (hR.out.below HB3.out)).mono ?_; rintro e w4 ⟨rfl, hb_⟩; have HB4 := Aside0.mk (below_step HB3.out hb_); have BR4 := Aside0.mk (blk_below BR3.out hb_); have BG4 := Aside0.mk (blk_below BG3.out hb_); have BL4 := Aside0.mk (blk_below BL3.out hb_); clear q0 q1 q2 q3 q4 q5 q6; obtain ⟨q0, q1, q2, q3, q4⟩ := rosC_cells BR4.out; have q5 : w4.cell? ⟨gg, 0, none⟩ = some (.int .i64 gate) := (blk_cell BG4.out 0).trans rfl; have q6 : w4.cell? ⟨gl, 0, none⟩ = some (.slice A1 l.length c1) := (blk_cell BL4.out 0).trans rfl; clear hb_) | (go_at_call 89; refine (hturns _ (hR.out.below HB4.out) (IntsAt.below hL.out HB4.out)).mono ?_; rintro e w5 ⟨rfl, hb_⟩; have HB5 := Aside0.mk (below_step HB4.out hb_); have BR5 := Aside0.mk (blk_below BR4.out hb_); have BG5 := Aside0.mk (blk_below BG4.out hb_); have BL5 := Aside0.mk (blk_below BL4.out hb_); clear q0 q1 q2 q3 q4 q5 q6; obtain ⟨q0, q1, q2, q3, q4⟩ := rosC_cells BR5.out; have q5 : w5.cell? ⟨gg, 0, none⟩ = some (.int .i64 gate) := (blk_cell BG5.out 0).trans rfl; have q6 : w5.cell? ⟨gl, 0, none⟩ = some (.slice A1 l.length c1) := (blk_cell BL5.out 0).trans rfl; clear hb_) | (go_at_call 90; refine (hdiff _ (IntsAt.below hL.out HB5.out)).mono ?_; rintro e w' ⟨rfl, rfl⟩) | (go_at_call 91; refine (hsort _ (Kd.C_below HC.out HB5.out)).mono ?_; rintro e w6 ⟨rfl, hb_⟩; have HB6 := Aside0.mk (below_step HB5.out hb_); have BR6 := Aside0.mk (blk_below BR5.out hb_); have BG6 := Aside0.mk (blk_below BG5.out hb_); have BL6 := Aside0.mk (blk_below BL5.out hb_); clear q0 q1 q2 q3 q4 q5 q6; obtain ⟨q0, q1, q2, q3, q4⟩ := rosC_cells BR6.out; have q5 : w6.cell? ⟨gg, 0, none⟩ = some (.int .i64 gate) := (blk_cell BG6.out 0).trans rfl; have q6 : w6.cell? ⟨gl, 0, none⟩ = some (.slice A1 l.length c1) := (blk_cell BL6.out 0).trans rfl; clear hb_) | (go_at_call 43; refine (hgate _ gr gg (IntsAt.below hL.out HB6.out) ⟨A, c, T, d, BR6.out, hR.out.below HB6.out⟩ BG6.out).mono ?_; rintro e w7 ⟨rfl, hb_⟩; have HB7 := Aside0.mk (below_step HB6.out hb_); have BR7 := Aside0.mk (blk_below BR6.out hb_); have BG7 := Aside0.mk (blk_below BG6.out hb_); have BL7 := Aside0.mk (blk_below BL6.out hb_); clear q0 q1 q2 q3 q4 q5 q6; obtain ⟨q0, q1, q2, q3, q4⟩ := rosC_cells BR7.out; have q5 : w7.cell? ⟨gg, 0, none⟩ = some (.int .i64 gate) := (blk_cell BG7.out 0).trans rfl; have q6 : w7.cell? ⟨gl, 0, none⟩ = some (.slice A1 l.length c1) := (blk_cell BL7.out 0).trans rfl; have pr := blk_lt BR7.out; have pg := blk_lt BG7.out; have pl := blk_lt BL7.out; clear hb_) | (go_at_call 94; refine (hown _ _ gr gl (hR.out.below (below_alloc HB7.out _)) (alloc_at w7 _) ⟨A, c, T, d, blk_alloc BR7.out _, hR.out.below (below_alloc HB7.out _)⟩ (blk_alloc BL7.out _) (IntsAt.below hL.out (below_alloc HB7.out _))).mono ?_; rintro e w8 ⟨lv8, rfl, ho_, hb_⟩; obtain ⟨A8, c8, rfl⟩ := own_slice ho_; have HB8 := Aside0.mk (below_step (below_alloc HB7.out _) hb_); have BR8 := Aside0.mk (blk_below (blk_alloc BR7.out _) hb_); have BL8 := Aside0.mk (blk_below (blk_alloc BL7.out _) hb_); clear q0 q1 q2 q3 q4 q5 q6; obtain ⟨q0, q1, q2, q3, q4⟩ := rosC_cells BR8.out; have q6 : w8.cell? ⟨gl, 0, none⟩ = some (.slice A1 l.length c1) := (blk_cell BL8.out 0).trans rfl; clear hb_ ho_) | (go_at_call 81; refine (hlate _ (hR.out.below HB8.out) (IntsAt.below hL.out HB8.out)).mono ?_; rintro e w9 ⟨rfl, hb_⟩; have HB9 := Aside0.mk (below_step HB8.out hb_); clear hb_))
    go_ret
    exact ⟨rfl, HB4.out⟩
end Go.Proofs.YtflolfbkpjgjaaaGreatDoor
end
section
namespace Go.Proofs.YtflolfbkpjgjaaaGreatDoor
open Go.RowKit Go.Proofs.YtflolfbkpjgjaaaGreatDoorW.PrintWords
open Go.Proofs.YtflolfbkpjgjaaaGreatDoorW.PrintMore
theorem eq_of_at {xs ys : List Int} (hl : xs.length = ys.length) (h : ∀ j, j < xs.length → xs.getD j 0 = ys.getD j 0) : xs = ys := by
  refine List.ext_getElem hl fun j h1 h2 => ?_
  have := h j h1
  simpa [List.getD_eq_getElem?_getD, List.getElem?_eq_getElem h1, List.getElem?_eq_getElem h2] using this
set_option maxHeartbeats 2000000 in
set_option maxRecDepth 100000 in
theorem equal_calls (A B : Option Addr) (c d : Nat) (xs ys : List Int) (w : World) (hA : CI w A xs.length xs) (hB : CI w B ys.length ys) (hbig : xs.length ≤ 9223372036854775807) (hbig2 : ys.length ≤ 9223372036854775807) :
    Calls Tryz.prog 25 #[.slice A xs.length c, .slice B ys.length d] w fun e w' => e = .returned (.bool (decide (xs = ys))) ∧ Below w.heap.size w w' := by
  have HA := Aside0.mk hA
  have HB := Aside0.mk hB
  clear hA hB
  by_cases hl : xs.length = ys.length
  · have HL := Aside0.mk hl
    rw [← hl]
    clear hl
    go_enter Tryz.func25, Tryz.ntmps25
    go_wp2
    go_loopw [13] (fun iv wr => ∃ k : Nat, k ≤ xs.length ∧ iv = .int .i64 k ∧ Aside0 (∀ j, j < k → xs.getD j 0 = ys.getD j 0) ∧ Aside0 (Below w.heap.size w wr)) (fun iv _ => xs.length - (intOf iv).toNat)
    case atStart => exact ⟨0, Nat.zero_le _, rfl, ⟨fun j hj => absurd hj (Nat.not_lt_zero _)⟩, ⟨Below.refl _ _⟩⟩
    case round =>
      obtain ⟨k, hk, rfl, HE, HW⟩ := hrel
      by_cases hlt : k < xs.length
      · have hltz : (k : Int) < (xs.length : Int) := by omega
        have hk0 : (0 : Int) ≤ (k : Int) := by omega
        obtain ⟨ad, hAd, g1⟩ := CI_at (Kd.C_below HA.out HW.out) (k : Int) (by omega) (by omega)
        cases hAd
        obtain ⟨ad2, hAd2, g2⟩ := CI_at (Kd.C_below HB.out HW.out) (k : Int) (by omega) (by have := HL.out; omega)
        cases hAd2
        rw [show ((k : Nat) : Int).toNat = k from rfl] at g1 g2
        have HY : Aside0 ((xs.getD k 0 != ys.getD k 0) = false → ∀ j, j < k + 1 → xs.getD j 0 = ys.getD j 0) := ⟨fun h j hj => by
          by_cases e : j = k
          · rw [e]; exact bne_eq_false_iff_eq.1 h
          · exact HE.out j (by omega)⟩
        have HN : Aside0 ((xs.getD k 0 != ys.getD k 0) = true → decide (xs = ys) = false) := ⟨fun h => decide_eq_false (fun e => by rw [e] at h; simp at h)⟩
        generalize xs.getD k 0 = x at *
        generalize ys.getD k 0 = y at *
        cases hq : (x != y)
        · have HY' := Aside0.mk (HY.out hq)
          go_wp2
          go_still_tail 8, (by kernel_rfl)
          change wpList _ _ _ _ _ (World.drew _)
          go_wp2
          go_roundw
          case rel => exact ⟨k + 1, by omega, by go_num, HY', ⟨below_drew HW.out⟩⟩
          case measure => simp [intOf]; omega
        · have HN' := Aside0.mk (HN.out hq)
          go_wp2
          go_still_tail 8, (by kernel_rfl)
          change wpList _ _ _ _ _ (World.drew _)
          go_wp2
          go_ret
          exact ⟨by rw [HN'.out]; rfl, below_drew HW.out⟩
      · have HT : Aside0 (decide (xs = ys) = true) := ⟨decide_eq_true (eq_of_at HL.out (fun j hj => HE.out j (by omega)))⟩
        go_wp2
        go_ret
        exact ⟨by rw [HT.out]; rfl, HW.out⟩
  · have HT : Aside0 (decide (xs = ys) = false) := ⟨decide_eq_false (fun e => hl (by rw [e]))⟩
    have hn : ((xs.length : Int) != (ys.length : Int)) = true := by rw [bne_iff_ne]; omega
    clear hl
    go_enter Tryz.func25, Tryz.ntmps25
    go_wp2
    go_ret
    exact ⟨by rw [HT.out]; rfl, Below.refl _ _⟩
end Go.Proofs.YtflolfbkpjgjaaaGreatDoor
end
section
namespace Go.Proofs.YtflolfbkpjgjaaaGreatDoor
open Go.RowKit Go.Proofs.YtflolfbkpjgjaaaGreatDoorW.PrintWords
open Go.Proofs.YtflolfbkpjgjaaaGreatDoorW.PrintMore
theorem readsInt_of {w : World} {A : Option Addr} {xs : List Int} (h : CI w A xs.length xs) : ReadsInt w .i64 A xs.length xs := by
  refine ⟨rfl, h.2.1, fun h0 => ?_⟩
  obtain ⟨ad, e, _⟩ := h.2.2 h0
  refine ⟨ad, e, fun j hj => ?_⟩
  obtain ⟨ad', e', hc⟩ := CI_at h (j : Int) (by omega) (by omega)
  rw [e] at e'
  cases e'
  exact hc
theorem eql_nil (w : World) (A : Option Addr) (n c : Nat) : (binOp .eql 26 (.slice A n c) (.slice none 0 0)).run Tryz.prog w = .ok (.bool A.isNone) w := by
  cases A <;> kernel_rfl
set_option maxHeartbeats 2000000 in
set_option maxRecDepth 100000 in
theorem clone_calls (A : Option Addr) (c : Nat) (xs : List Int) (w : World) (hA : CI w A xs.length xs) (hbig : xs.length ≤ 1000000) :
    Calls Tryz.prog 46 #[.slice A xs.length c] w fun e w' => ∃ lv, e = .returned lv ∧ w'.ownsRow w.heap.size 3 1 lv xs.length (nums .i64 xs) ∧ Below w.heap.size w w' := by
  generalize hPost : (fun (e : Ending) (w' : World) => ∃ lv, e = .returned lv ∧ w'.ownsRow w.heap.size 3 1 lv xs.length (nums .i64 xs) ∧ Below w.heap.size w w') = Post
  have HQ : Aside0 (∀ lv w', w'.ownsRow w.heap.size 3 1 lv xs.length (nums .i64 xs) → Below w.heap.size w w' → Post (.returned lv) w') := ⟨fun lv w' a b => hPost ▸ ⟨lv, rfl, a, b⟩⟩
  clear hPost
  have HA := Aside0.mk hA
  cases A with
  | none =>
    have h0 : xs = [] := by
      cases xs with
      | nil => rfl
      | cons x xs => obtain ⟨ad, e, _⟩ := hA.2.2 (by simp); cases e
    subst h0
    have hen : ∀ w n c, (binOp .eql 26 (.slice none n c) (.slice none 0 0)).run Tryz.prog w = .ok (.bool true) w := fun w n c => eql_nil w none n c
    clear hA
    go_enter Tryz.func46, Tryz.ntmps46
    go_wp2
    exact HQ.out _ _ (own_nil _ _ _ _) (Below.refl _ _)
  | some ad =>
    have hen : ∀ w n c, (binOp .eql 26 (.slice (some ad) n c) (.slice none 0 0)).run Tryz.prog w = .ok (.bool false) w := fun w n c => eql_nil w (some ad) n c
    clear hA
    go_enter Tryz.func46, Tryz.ntmps46
    go_wp2_with (at_builtin; go_loud (refine print_append_row (w0 := w) w.heap.size rfl (.tmp 5) (.tmp 6) 26 3 .i64 8 rfl Tryz.underlying26 info3 (by omega) _ [] xs (some ad) xs.length c rfl rfl (own_lit w w.heap.size 3 .i64 [] (Nat.le_refl _) (by simp)) (readsInt_of (Kd.C_below HA.out (below_alloc (Below.refl _ _) _))) (below_alloc (Below.refl _ _) _) (by rw [alloc_sz]; omega) (by simp; omega) ?_); intro v1 w6 hown hbel hgr hat; have HO6 := Aside0.mk hown; have HB6 := Aside0.mk hbel; clear hown hbel hgr hat)
    exact HQ.out _ _ HO6.out HB6.out
end Go.Proofs.YtflolfbkpjgjaaaGreatDoor
end
section
namespace Go.Proofs.YtflolfbkpjgjaaaGreatDoor
open Go.RowKit Go.Proofs.YtflolfbkpjgjaaaGreatDoorW.PrintWords
open Go.Proofs.YtflolfbkpjgjaaaGreatDoorW.PrintMore
theorem turnsE_ok {r : Ros} {l : List Int} (h : turnsE r l = 0) : Valid r ∧ l.any (outB r) = false := by
  unfold turnsE at h
  cases hc : (checkE r != 0)
  · rw [hc, if_neg (by simp)] at h
    refine ⟨(checkE_ne r).1 hc, ?_⟩
    cases ho : l.any (outB r)
    · rfl
    · rw [ho] at h; simp at h
  · rw [hc, if_pos rfl] at h
    rw [h] at hc
    simp at hc
def beginsV (r : Ros) (i : Int) : Bool := if turnsE r [i] != 0 then false else begB r i
set_option maxHeartbeats 2000000 in
set_option maxRecDepth 100000 in
theorem begins_calls (v : Value) (r : Ros) (i : Int) (w : World) (hv : RosAt w v r) :
    Calls Tryz.prog 37 #[v, .int .i64 i] w fun e w' => e = .returned (.tuple #[.bool (beginsV r i), .int .i64 (turnsE r [i])]) ∧ Below w.heap.size w w' := by
  have hR := Aside0.mk hv
  obtain ⟨A, c, T, d, rfl, h1, h2, h3, h4⟩ := hv
  clear h3 h4
  have hturns := fun (w : World) (h : RosAt (w.alloc (.cells (([i] : List Int).map (Value.int .i64)).toArray 3)) (.agg (rosC r A c T d)) r) => turns_calls (.agg (rosC r A c T d)) (.slice (some ⟨w.heap.size, 0, none⟩) 1 1) r [i] (w.alloc (.cells (([i] : List Int).map (Value.int .i64)).toArray 3)) h ⟨some ⟨w.heap.size, 0, none⟩, 1, rfl, by simp, ci_alloc w [i] 3 (by simp)⟩
  have hf := fun (V : Valid r) (ho : [i].any (outB r) = false) w (h : RosAt w (.agg (rosC r A c T d)) r) => begin_calls (.agg (rosC r A c T d)) r i w h V (outB_all ho i (by simp)).1 (outB_all ho i (by simp)).2
  have hnev := fun (w : World) (s : Bool) => never_calls (begLate r i) s w
  change ∀ w s, Calls _ _ _ _ fun e w' => e = .returned (.bool (begB r i)) ∧ _ at hnev
  have hte := turnsE_ok (r := r) (l := [i])
  unfold beginsV
  generalize hge : turnsE r [i] = ge at *
  generalize begB r i = m at *
  cases hc : (ge != 0)
  · have e0 : ge = 0 := by simpa using hc
    subst e0
    have hf2 := hf (hte rfl).1 (hte rfl).2
    clear hf hte hc
    have hf := hf2
    clear hf2
    go_enter Tryz.func37, Tryz.ntmps37
    go_wp2_with (first | ((with_reducible refine gate_dst (N := 2) rfl ?_); refine box_event ?hg (N := 2) ?hd (cs := rosC r A c T d) (t := 25) ?hr ?_; (case hd => rfl); (case hg => rfl); (case hr => first | (go_simp; done) | (go_simp; rfl)); intro g hg w3 hbox_ hb_; have BK := Aside0.mk hbox_; have Hg := Aside0.mk hg; have HB := Aside0.mk hb_; obtain ⟨q0, q1, q2, q3, q4⟩ := rosC_cells hbox_; have pq := blk_lt hbox_; clear hbox_ hb_ hg) | (go_at_call 89; refine (hturns _ (hR.out.below (below_alloc HB.out _))).mono ?_; rintro e w4 ⟨rfl, hb_⟩; have HB4 := Aside0.mk (below_step (below_alloc HB.out _) hb_); have BK4 := Aside0.mk (blk_below (blk_alloc BK.out _) hb_); clear q0 q1 q2 q3 q4; obtain ⟨q0, q1, q2, q3, q4⟩ := rosC_cells BK4.out; clear hb_) | (go_at_call 96; refine (hf _ (hR.out.below HB4.out)).mono ?_; rintro e w5 ⟨rfl, hb_⟩; have HB5 := Aside0.mk (below_step HB4.out hb_); clear hb_) | (go_at_call 97; refine (hnev _ _).mono ?_; rintro e w6 ⟨rfl, hb_⟩; have HB6 := Aside0.mk (below_step HB5.out hb_); clear hb_))
    go_ret2
    exact ⟨rfl, HB6.out⟩
  · clear hf hte
    go_enter Tryz.func37, Tryz.ntmps37
    go_wp2_with (first | ((with_reducible refine gate_dst (N := 2) rfl ?_); refine box_event ?hg (N := 2) ?hd (cs := rosC r A c T d) (t := 25) ?hr ?_; (case hd => rfl); (case hg => rfl); (case hr => first | (go_simp; done) | (go_simp; rfl)); intro g hg w3 hbox_ hb_; have BK := Aside0.mk hbox_; have Hg := Aside0.mk hg; have HB := Aside0.mk hb_; obtain ⟨q0, q1, q2, q3, q4⟩ := rosC_cells hbox_; have pq := blk_lt hbox_; clear hbox_ hb_ hg) | (go_at_call 89; refine (hturns _ (hR.out.below (below_alloc HB.out _))).mono ?_; rintro e w4 ⟨rfl, hb_⟩; have HB4 := Aside0.mk (below_step (below_alloc HB.out _) hb_); have BK4 := Aside0.mk (blk_below (blk_alloc BK.out _) hb_); clear q0 q1 q2 q3 q4; obtain ⟨q0, q1, q2, q3, q4⟩ := rosC_cells BK4.out; clear hb_))
    go_ret2
    exact ⟨rfl, HB4.out⟩
def endsV (r : Ros) (i : Int) : Bool := if turnsE r [i] != 0 then false else endB r i
set_option maxHeartbeats 2000000 in
set_option maxRecDepth 100000 in
theorem ends_calls (v : Value) (r : Ros) (i : Int) (w : World) (hv : RosAt w v r) :
    Calls Tryz.prog 38 #[v, .int .i64 i] w fun e w' => e = .returned (.tuple #[.bool (endsV r i), .int .i64 (turnsE r [i])]) ∧ Below w.heap.size w w' := by
  have hR := Aside0.mk hv
  obtain ⟨A, c, T, d, rfl, h1, h2, h3, h4⟩ := hv
  clear h3 h4
  have hturns := fun (w : World) (h : RosAt (w.alloc (.cells (([i] : List Int).map (Value.int .i64)).toArray 3)) (.agg (rosC r A c T d)) r) => turns_calls (.agg (rosC r A c T d)) (.slice (some ⟨w.heap.size, 0, none⟩) 1 1) r [i] (w.alloc (.cells (([i] : List Int).map (Value.int .i64)).toArray 3)) h ⟨some ⟨w.heap.size, 0, none⟩, 1, rfl, by simp, ci_alloc w [i] 3 (by simp)⟩
  have hf := fun (V : Valid r) (ho : [i].any (outB r) = false) w (h : RosAt w (.agg (rosC r A c T d)) r) => end_calls (.agg (rosC r A c T d)) r i w h V (outB_all ho i (by simp)).1 (outB_all ho i (by simp)).2
  have hnev := fun (w : World) (s : Bool) => never_calls (endLate r i) s w
  change ∀ w s, Calls _ _ _ _ fun e w' => e = .returned (.bool (endB r i)) ∧ _ at hnev
  have hte := turnsE_ok (r := r) (l := [i])
  unfold endsV
  generalize hge : turnsE r [i] = ge at *
  generalize endB r i = m at *
  cases hc : (ge != 0)
  · have e0 : ge = 0 := by simpa using hc
    subst e0
    have hf2 := hf (hte rfl).1 (hte rfl).2
    clear hf hte hc
    have hf := hf2
    clear hf2
    go_enter Tryz.func38, Tryz.ntmps38
    go_wp2_with (first | ((with_reducible refine gate_dst (N := 2) rfl ?_); refine box_event ?hg (N := 2) ?hd (cs := rosC r A c T d) (t := 25) ?hr ?_; (case hd => rfl); (case hg => rfl); (case hr => first | (go_simp; done) | (go_simp; rfl)); intro g hg w3 hbox_ hb_; have BK := Aside0.mk hbox_; have Hg := Aside0.mk hg; have HB := Aside0.mk hb_; obtain ⟨q0, q1, q2, q3, q4⟩ := rosC_cells hbox_; have pq := blk_lt hbox_; clear hbox_ hb_ hg) | (go_at_call 89; refine (hturns _ (hR.out.below (below_alloc HB.out _))).mono ?_; rintro e w4 ⟨rfl, hb_⟩; have HB4 := Aside0.mk (below_step (below_alloc HB.out _) hb_); have BK4 := Aside0.mk (blk_below (blk_alloc BK.out _) hb_); clear q0 q1 q2 q3 q4; obtain ⟨q0, q1, q2, q3, q4⟩ := rosC_cells BK4.out; clear hb_) | (go_at_call 106; refine (hf _ (hR.out.below HB4.out)).mono ?_; rintro e w5 ⟨rfl, hb_⟩; have HB5 := Aside0.mk (below_step HB4.out hb_); clear hb_) | (go_at_call 97; refine (hnev _ _).mono ?_; rintro e w6 ⟨rfl, hb_⟩; have HB6 := Aside0.mk (below_step HB5.out hb_); clear hb_))
    go_ret2
    exact ⟨rfl, HB6.out⟩
  · clear hf hte
    go_enter Tryz.func38, Tryz.ntmps38
    go_wp2_with (first | ((with_reducible refine gate_dst (N := 2) rfl ?_); refine box_event ?hg (N := 2) ?hd (cs := rosC r A c T d) (t := 25) ?hr ?_; (case hd => rfl); (case hg => rfl); (case hr => first | (go_simp; done) | (go_simp; rfl)); intro g hg w3 hbox_ hb_; have BK := Aside0.mk hbox_; have Hg := Aside0.mk hg; have HB := Aside0.mk hb_; obtain ⟨q0, q1, q2, q3, q4⟩ := rosC_cells hbox_; have pq := blk_lt hbox_; clear hbox_ hb_ hg) | (go_at_call 89; refine (hturns _ (hR.out.below (below_alloc HB.out _))).mono ?_; rintro e w4 ⟨rfl, hb_⟩; have HB4 := Aside0.mk (below_step (below_alloc HB.out _) hb_); have BK4 := Aside0.mk (blk_below (blk_alloc BK.out _) hb_); clear q0 q1 q2 q3 q4; obtain ⟨q0, q1, q2, q3, q4⟩ := rosC_cells BK4.out; clear hb_))
    go_ret2
    exact ⟨rfl, HB4.out⟩
def meetsV (r : Ros) (i j : Int) : Bool := if turnsE r [i, j] != 0 then false else folB r i j
set_option maxHeartbeats 2000000 in
set_option maxRecDepth 100000 in
theorem meets_calls (v : Value) (r : Ros) (i j : Int) (w : World) (hv : RosAt w v r) :
    Calls Tryz.prog 39 #[v, .int .i64 i, .int .i64 j] w fun e w' => e = .returned (.tuple #[.bool (meetsV r i j), .int .i64 (turnsE r [i, j])]) ∧ Below w.heap.size w w' := by
  have hR := Aside0.mk hv
  obtain ⟨A, c, T, d, rfl, h1, h2, h3, h4⟩ := hv
  clear h3 h4
  have hturns := fun (w : World) (h : RosAt (w.alloc (.cells (([i, j] : List Int).map (Value.int .i64)).toArray 3)) (.agg (rosC r A c T d)) r) => turns_calls (.agg (rosC r A c T d)) (.slice (some ⟨w.heap.size, 0, none⟩) 2 2) r [i, j] (w.alloc (.cells (([i, j] : List Int).map (Value.int .i64)).toArray 3)) h ⟨some ⟨w.heap.size, 0, none⟩, 2, rfl, by simp, ci_alloc w [i, j] 3 (by simp)⟩
  have hf := fun (V : Valid r) (ho : [i, j].any (outB r) = false) w (h : RosAt w (.agg (rosC r A c T d)) r) => follows_calls (.agg (rosC r A c T d)) r i j w h V (outB_all ho i (by simp)).1 (outB_all ho i (by simp)).2 (outB_all ho j (by simp)).1 (outB_all ho j (by simp)).2
  have hte := turnsE_ok (r := r) (l := [i, j])
  unfold meetsV
  generalize hge : turnsE r [i, j] = ge at *
  generalize folB r i j = m at *
  cases hc : (ge != 0)
  · have e0 : ge = 0 := by simpa using hc
    subst e0
    have hf2 := hf (hte rfl).1 (hte rfl).2
    clear hf hte hc
    have hf := hf2
    clear hf2
    go_enter Tryz.func39, Tryz.ntmps39
    go_wp2_with (first | ((with_reducible refine gate_dst (N := 3) rfl ?_); refine box_event ?hg (N := 3) ?hd (cs := rosC r A c T d) (t := 25) ?hr ?_; (case hd => rfl); (case hg => rfl); (case hr => first | (go_simp; done) | (go_simp; rfl)); intro g hg w3 hbox_ hb_; have BK := Aside0.mk hbox_; have Hg := Aside0.mk hg; have HB := Aside0.mk hb_; obtain ⟨q0, q1, q2, q3, q4⟩ := rosC_cells hbox_; have pq := blk_lt hbox_; clear hbox_ hb_ hg) | (go_at_call 89; refine (hturns _ (hR.out.below (below_alloc HB.out _))).mono ?_; rintro e w4 ⟨rfl, hb_⟩; have HB4 := Aside0.mk (below_step (below_alloc HB.out _) hb_); have BK4 := Aside0.mk (blk_below (blk_alloc BK.out _) hb_); clear q0 q1 q2 q3 q4; obtain ⟨q0, q1, q2, q3, q4⟩ := rosC_cells BK4.out; clear hb_) | (go_at_call 99; refine (hf _ (hR.out.below HB4.out)).mono ?_; rintro e w5 ⟨rfl, hb_⟩; have HB6 := Aside0.mk (below_step HB4.out hb_); clear hb_))
    go_ret2
    exact ⟨rfl, HB6.out⟩
  · clear hf hte
    go_enter Tryz.func39, Tryz.ntmps39
    go_wp2_with (first | ((with_reducible refine gate_dst (N := 3) rfl ?_); refine box_event ?hg (N := 3) ?hd (cs := rosC r A c T d) (t := 25) ?hr ?_; (case hd => rfl); (case hg => rfl); (case hr => first | (go_simp; done) | (go_simp; rfl)); intro g hg w3 hbox_ hb_; have BK := Aside0.mk hbox_; have Hg := Aside0.mk hg; have HB := Aside0.mk hb_; obtain ⟨q0, q1, q2, q3, q4⟩ := rosC_cells hbox_; have pq := blk_lt hbox_; clear hbox_ hb_ hg) | (go_at_call 89; refine (hturns _ (hR.out.below (below_alloc HB.out _))).mono ?_; rintro e w4 ⟨rfl, hb_⟩; have HB4 := Aside0.mk (below_step (below_alloc HB.out _) hb_); have BK4 := Aside0.mk (blk_below (blk_alloc BK.out _) hb_); clear q0 q1 q2 q3 q4; obtain ⟨q0, q1, q2, q3, q4⟩ := rosC_cells BK4.out; clear hb_))
    go_ret2
    exact ⟨rfl, HB4.out⟩
end Go.Proofs.YtflolfbkpjgjaaaGreatDoor
end
section
namespace Go.Proofs.YtflolfbkpjgjaaaGreatDoor
open Go.RowKit Go.Proofs.YtflolfbkpjgjaaaGreatDoorW.PrintWords
open Go.Proofs.YtflolfbkpjgjaaaGreatDoorW.PrintMore
def costE (r : Ros) (l : List Int) : Int := if turnsE r l != 0 then turnsE r l else if diffB l then 0 else 1
def costV (r : Ros) (l : List Int) : Int := if turnsE r l != 0 then 0 else if diffB l then costL r l else 0
set_option maxHeartbeats 2000000 in
set_option maxRecDepth 100000 in
theorem costOf_calls (v lv : Value) (r : Ros) (l : List Int) (w : World) (hv : RosAt w v r) (hl : IntsAt w lv l) :
    Calls Tryz.prog 54 #[v, lv] w fun e w' => e = .returned (.tuple #[.int .i64 (costV r l), .int .i64 (costE r l)]) ∧ Below w.heap.size w w' := by
  have hR := Aside0.mk hv
  obtain ⟨A, c, T, d, rfl, h1, h2, h3, h4⟩ := hv
  clear h3 h4
  have hL := Aside0.mk hl
  have hturns := fun w (h : RosAt w (.agg (rosC r A c T d)) r) (h2 : IntsAt w lv l) => turns_calls (.agg (rosC r A c T d)) lv r l w h h2
  have hdiff := fun w (h : IntsAt w lv l) => different_calls lv l w h
  have hcost := fun (V : Valid r) (ho : l.any (outB r) = false) (hd : diffB l = true) w (h : RosAt w (.agg (rosC r A c T d)) r) (h2 : IntsAt w lv l) => cost_calls (.agg (rosC r A c T d)) lv r l w V h h2 (outB_all ho) (by have := diff_len hd (outB_all ho); have := V.turns; omega)
  have hte := turnsE_ok (r := r) (l := l)
  unfold costV costE
  generalize hge : turnsE r l = ge at *
  generalize hdd : diffB l = dd at *
  generalize costL r l = m at *
  cases hc : (ge != 0)
  · have e0 : ge = 0 := by simpa using hc
    subst e0
    have hcost2 := hcost (hte rfl).1 (hte rfl).2
    clear hcost hte hc
    cases dd
    · clear hcost2
      go_enter Tryz.func54, Tryz.ntmps54
      go_wp2_with (first | ((with_reducible refine gate_dst (N := 2) rfl ?_); refine box_event ?hg (N := 2) ?hd (cs := rosC r A c T d) (t := 25) ?hr ?_; (case hd => rfl); (case hg => rfl); (case hr => first | (go_simp; done) | (go_simp; rfl)); intro g hg w3 hbox_ hb_; have BK := Aside0.mk hbox_; have Hg := Aside0.mk hg; have HB := Aside0.mk hb_; obtain ⟨q0, q1, q2, q3, q4⟩ := rosC_cells hbox_; clear hbox_ hb_ hg) | (go_at_call 89; refine (hturns _ (hR.out.below HB.out) (IntsAt.below hL.out HB.out)).mono ?_; rintro e w4 ⟨rfl, hb_⟩; have HB4 := Aside0.mk (below_step HB.out hb_); have BK4 := Aside0.mk (blk_below BK.out hb_); clear q0 q1 q2 q3 q4; obtain ⟨q0, q1, q2, q3, q4⟩ := rosC_cells BK4.out; clear hb_) | (go_at_call 90; refine (hdiff _ (IntsAt.below hL.out HB4.out)).mono ?_; rintro e w' ⟨rfl, rfl⟩))
      go_ret2
      exact ⟨rfl, HB4.out⟩
    · have hcost := hcost2 rfl
      clear hcost2
      go_enter Tryz.func54, Tryz.ntmps54
      go_wp2_with (first | ((with_reducible refine gate_dst (N := 2) rfl ?_); refine box_event ?hg (N := 2) ?hd (cs := rosC r A c T d) (t := 25) ?hr ?_; (case hd => rfl); (case hg => rfl); (case hr => first | (go_simp; done) | (go_simp; rfl)); intro g hg w3 hbox_ hb_; have BK := Aside0.mk hbox_; have Hg := Aside0.mk hg; have HB := Aside0.mk hb_; obtain ⟨q0, q1, q2, q3, q4⟩ := rosC_cells hbox_; clear hbox_ hb_ hg) | (go_at_call 89; refine (hturns _ (hR.out.below HB.out) (IntsAt.below hL.out HB.out)).mono ?_; rintro e w4 ⟨rfl, hb_⟩; have HB4 := Aside0.mk (below_step HB.out hb_); have BK4 := Aside0.mk (blk_below BK.out hb_); clear q0 q1 q2 q3 q4; obtain ⟨q0, q1, q2, q3, q4⟩ := rosC_cells BK4.out; clear hb_) | (go_at_call 90; refine (hdiff _ (IntsAt.below hL.out HB4.out)).mono ?_; rintro e w' ⟨rfl, rfl⟩) | (go_at_call 86; refine (hcost _ (hR.out.below HB4.out) (IntsAt.below hL.out HB4.out)).mono ?_; rintro e w5 ⟨rfl, hb_⟩; have HB5 := Aside0.mk (below_step HB4.out hb_); clear hb_))
      go_ret2
      exact ⟨rfl, HB5.out⟩
  · clear hcost hte
    go_enter Tryz.func54, Tryz.ntmps54
    go_wp2_with (first | ((with_reducible refine gate_dst (N := 2) rfl ?_); refine box_event ?hg (N := 2) ?hd (cs := rosC r A c T d) (t := 25) ?hr ?_; (case hd => rfl); (case hg => rfl); (case hr => first | (go_simp; done) | (go_simp; rfl)); intro g hg w3 hbox_ hb_; have BK := Aside0.mk hbox_; have Hg := Aside0.mk hg; have HB := Aside0.mk hb_; obtain ⟨q0, q1, q2, q3, q4⟩ := rosC_cells hbox_; clear hbox_ hb_ hg) | (go_at_call 89; refine (hturns _ (hR.out.below HB.out) (IntsAt.below hL.out HB.out)).mono ?_; rintro e w4 ⟨rfl, hb_⟩; have HB4 := Aside0.mk (below_step HB.out hb_); have BK4 := Aside0.mk (blk_below BK.out hb_); clear q0 q1 q2 q3 q4; obtain ⟨q0, q1, q2, q3, q4⟩ := rosC_cells BK4.out; clear hb_))
    go_ret2
    exact ⟨rfl, HB4.out⟩
end Go.Proofs.YtflolfbkpjgjaaaGreatDoor
end
section
namespace Go.Proofs.YtflolfbkpjgjaaaGreatDoor
theorem folB_iff (r : Ros) (i j : Int) : folB r i j = true ↔ i ≠ j ∧ (tn r i).gate = (tn r j).gate ∧ meetLate r i j ≤ 0 := by
  unfold folB
  simp only [Bool.and_eq_true, decide_eq_true_eq, and_assoc]
theorem kin_gr (r : Ros) (gate : Int) : Kin (grOf r gate) := by
  intro i j hi hf
  have hi' : ((tn r (i : Int)).gate == gate) = true := hi
  have hf' : folB r i j = true := hf
  obtain ⟨_, h2, _⟩ := (folB_iff r i j).1 hf'
  show ((tn r (j : Int)).gate == gate) = true
  rw [beq_iff_eq] at hi' ⊢
  rw [← h2]; exact hi'
theorem mem_reachL {r : Ros} (V : Valid r) {gate wo : Int} {x : Int} : x ∈ reachL r gate wo ↔ ∃ i : Nat, x = (i : Int) ∧ Rch (grOf r gate) wo i := by
  unfold reachL
  rw [reach_own, List.mem_map]
  constructor
  · rintro ⟨i, hi, rfl⟩
    exact ⟨i, rfl, (mem_reachR (kin_gr r gate) (metB_some V gate wo) i).1 hi⟩
  · rintro ⟨i, rfl, hi⟩
    exact ⟨i, (mem_reachR (kin_gr r gate) (metB_some V gate wo) i).2 hi, rfl⟩
theorem reach_late {r : Ros} (V : Valid r) {gate wo : Int} : (reachL r gate wo).any (endB r) = true ↔ ∃ p, Plan (grOf r gate) p ∧ ∀ x ∈ p, (x : Int) ≠ wo := by
  rw [plan_iff_rch (kin_gr r gate), List.any_eq_true]
  constructor
  · rintro ⟨x, hx, he⟩
    obtain ⟨i, rfl, hi⟩ := (mem_reachL V).1 hx
    exact ⟨i, hi, he⟩
  · rintro ⟨i, hi, he⟩
    exact ⟨(i : Int), (mem_reachL V).2 ⟨i, rfl, hi⟩, he⟩
theorem reach_late_all {r : Ros} (V : Valid r) {gate : Int} : (reachL r gate (-1)).any (endB r) = true ↔ ∃ p, Plan (grOf r gate) p := by
  rw [reach_late V]
  exact ⟨fun ⟨p, h, _⟩ => ⟨p, h⟩, fun ⟨p, h⟩ => ⟨p, h, fun x _ => by omega⟩⟩
theorem chn_at {f : Nat → Nat → Bool} : ∀ l : List Nat, Chn f l ↔ ∀ j, j + 1 < l.length → f (l.getD j 0) (l.getD (j + 1) 0) = true
  | [] => by simp [Chn]
  | [_] => by simp [Chn]
  | a :: b :: l => by
    have ih := chn_at (f := f) (b :: l)
    show f a b = true ∧ Chn f (b :: l) ↔ _
    rw [ih]
    constructor
    · rintro ⟨h1, h2⟩ j hj
      cases j with
      | zero => exact h1
      | succ j => exact h2 j (by simp only [List.length_cons] at hj ⊢; omega)
    · intro h
      exact ⟨h 0 (by simp only [List.length_cons]; omega), fun j hj => h (j + 1) (by simp only [List.length_cons] at hj ⊢; omega)⟩
theorem lags_all (r : Ros) (l : List Int) : ((lagsL r l).all fun x => decide (x.1 ≤ 0)) = true ↔ begLate r (l.getD 0 0) ≤ 0 ∧ (∀ j, j + 1 < l.length → meetLate r (l.getD j 0) (l.getD (j + 1) 0) ≤ 0) ∧ endLate r (l.getD (l.length - 1) 0) ≤ 0 := by
  unfold lagsL lagsN begL meetL endL
  rw [List.all_append, List.all_cons, List.all_map]
  simp only [Bool.and_eq_true, List.all_eq_true, List.mem_range, Function.comp_apply, decide_eq_true_eq, List.all_cons, List.all_nil, Bool.and_true]
  constructor
  · rintro ⟨⟨h1, h2⟩, h3⟩
    exact ⟨h1, fun j hj => h2 j (by omega), h3⟩
  · rintro ⟨h1, h2, h3⟩
    exact ⟨⟨h1, fun j hj => h2 j (by omega)⟩, h3⟩
theorem getD_ints (p : List Nat) (j : Nat) (h : j < p.length) : (intsN p).getD j 0 = ((p.getD j 0 : Nat) : Int) := by
  simp [intsN, List.getD_eq_getElem?_getD, List.getElem?_eq_getElem h]
theorem mem_ints {p : List Nat} {x : Int} : x ∈ intsN p ↔ ∃ i ∈ p, x = (i : Int) := by
  unfold intsN
  rw [List.mem_map]
  exact ⟨fun ⟨i, h, e⟩ => ⟨i, h, e.symm⟩, fun ⟨i, h, e⟩ => ⟨i, h, e.symm⟩⟩
theorem getD_mem {p : List Nat} {j : Nat} (h : j < p.length) : p.getD j 0 ∈ p := by
  rw [List.getD_eq_getElem?_getD, List.getElem?_eq_getElem h]
  exact List.getElem_mem h
theorem head_getD {p : List Nat} {x : Nat} (h : p.head? = some x) : p.getD 0 0 = x := by
  cases p with
  | nil => simp at h
  | cons a p => simpa using h
theorem last_getD {p : List Nat} {x : Nat} (h : p.getLast? = some x) : p.getD (p.length - 1) 0 = x := by
  rw [List.getLast?_eq_getElem?] at h
  rw [List.getD_eq_getElem?_getD, h]
  rfl
theorem nodup_at {p : List Nat} (h : p.Nodup) {i j : Nat} (hi : i < p.length) (hj : j < p.length) (hne : i ≠ j) : p.getD i 0 ≠ p.getD j 0 := by
  rw [List.getD_eq_getElem?_getD, List.getElem?_eq_getElem hi, List.getD_eq_getElem?_getD, List.getElem?_eq_getElem hj]
  exact fun e => hne ((List.getElem_inj h).1 e)
theorem planB_ints {r : Ros} (gate : Int) {p : List Nat} (hp : ∀ x ∈ p, x < r.turns.length) : planB r gate (intsN p) = true ↔ Plan (grOf r gate) p := by
  unfold planB
  rw [Bool.and_eq_true, Bool.and_eq_true, Bool.and_eq_true, Bool.and_eq_true, lags_all, diffB_iff, Bool.not_eq_true', Bool.not_eq_true', Bool.not_eq_true', beq_eq_false_iff_ne, List.any_eq_false, List.any_eq_false]
  unfold intsN at *
  rw [nodup_cast, List.length_map]
  change _ ∧ _ ∧ _ ∧ _ ∧ begLate r ((intsN p).getD 0 0) ≤ 0 ∧ (∀ j, j + 1 < _ → meetLate r ((intsN p).getD j 0) ((intsN p).getD (j + 1) 0) ≤ 0) ∧ endLate r ((intsN p).getD (p.length - 1) 0) ≤ 0 ↔ _
  constructor
  · rintro ⟨h0, h1, h2, h3, h4, h5, h6⟩
    have hl : 0 < p.length := by omega
    rw [getD_ints p 0 hl] at h4
    rw [getD_ints p _ (by omega)] at h6
    have hown : ∀ x ∈ p, (tn r (x : Int)).gate = gate := fun x hx => by
      have := h3 (x : Int) (List.mem_map.2 ⟨x, hx, rfl⟩)
      simpa using this
    refine ⟨⟨fun e => by rw [e] at hl; simp at hl, fun x hx => ⟨hp x hx, beq_iff_eq.2 (hown x hx)⟩, h1, fun x hx => ?_, (chn_at p).2 fun j hj => ?_⟩, fun x hx => ?_⟩
    · rw [head_getD hx] at h4
      exact decide_eq_true h4
    · have h := h5 j hj
      rw [getD_ints p j (by omega), getD_ints p (j + 1) hj] at h
      refine (folB_iff r _ _).2 ⟨fun e => nodup_at h1 (by omega : j < p.length) hj (by omega) (by omega), ?_, h⟩
      rw [hown _ (getD_mem (by omega)), hown _ (getD_mem hj)]
    · rw [last_getD hx] at h6
      exact decide_eq_true h6
  · intro h
    have hl : 0 < p.length := by have := h.way.ne; cases p with | nil => exact absurd rfl this | cons => simp
    have hc := (chn_at p).1 h.way.chn
    refine ⟨by omega, h.way.nd, fun x hx => ?_, fun x hx => ?_, ?_, fun j hj => ?_, ?_⟩
    · obtain ⟨i, hi, rfl⟩ := List.mem_map.1 hx
      rw [Bool.not_eq_true]
      exact (outB_iff r _).2 ⟨by omega, by have := hp i hi; omega⟩
    · obtain ⟨i, hi, rfl⟩ := List.mem_map.1 hx
      have : ((tn r (i : Int)).gate == gate) = true := (h.way.own i hi).2
      simpa using this
    · rw [getD_ints p 0 hl]
      have : begB r ((p.getD 0 0 : Nat) : Int) = true := h.way.beg _ (by cases p with | nil => simp at hl | cons a p => rfl)
      exact of_decide_eq_true this
    · rw [getD_ints p j (by omega), getD_ints p (j + 1) hj]
      exact ((folB_iff r _ _).1 (hc j hj)).2.2
    · rw [getD_ints p _ (by omega)]
      have : endB r ((p.getD (p.length - 1) 0 : Nat) : Int) = true := h.fin _ (by rw [List.getLast?_eq_getElem?, List.getD_eq_getElem?_getD, List.getElem?_eq_getElem (show p.length - 1 < p.length by omega)]; rfl)
      exact of_decide_eq_true this
theorem planB_iff {r : Ros} (V : Valid r) (gate : Int) (l : List Int) : planB r gate l = true ↔ ∃ p, l = intsN p ∧ Plan (grOf r gate) p := by
  constructor
  · intro h
    obtain ⟨p, rfl, hp⟩ := cast_nats (planB_ok V h).1
    exact ⟨p, rfl, (planB_ints gate hp).1 h⟩
  · rintro ⟨p, rfl, h⟩
    exact (planB_ints gate (fun x hx => (h.way.own x hx).1)).2 h
theorem gatedE_good {r : Ros} {gate : Int} (V : Valid r) (h0 : 0 ≤ gate) (h1 : gate < r.gates) : gatedE r gate = 0 := by
  unfold gatedE
  rw [checkE_valid V, (inB_iff _ _ _).2 ⟨h0, by omega⟩]
  rfl
theorem checkPlanE_zero {r : Ros} {gate : Int} (V : Valid r) (h0 : 0 ≤ gate) (h1 : gate < r.gates) (l : List Int) : checkPlanE r gate l = if planB r gate l then 0 else 71 := by
  unfold checkPlanE
  rw [gatedE_good V h0 h1]
  rfl
theorem ownL_up (r : Ros) (gate : Int) (p : Int → Bool) : (ownL r gate p).Pairwise (· < ·) := by
  unfold ownL ownN
  rw [List.pairwise_map]
  exact (List.pairwise_lt_range.filter _).imp (fun h => by omega)
structure IsGap (r : Ros) (gate : Int) (l : List Int) : Prop where
  inn : ∀ x ∈ l, 0 ≤ x ∧ x < r.turns.length
  up : l.Pairwise (· < ·)
  own : ∀ x ∈ l, (tn r x).gate = gate
  late : ∀ x ∈ l, endB r x = false
  clos : ∀ i : Nat, i < r.turns.length → (tn r (i : Int)).gate = gate → (begB r (i : Int) = true ∨ ∃ k ∈ l, folB r k (i : Int) = true) → (i : Int) ∈ l
theorem sortedB_iff (l : List Int) : sortedB l = true ↔ ∀ j, j + 1 < l.length → l.getD j 0 ≤ l.getD (j + 1) 0 := by
  unfold sortedB
  rw [List.all_eq_true]
  constructor
  · intro h j hj
    have := h j (List.mem_range.2 (by omega))
    simp only [Bool.not_eq_true', decide_eq_false_iff_not] at this
    omega
  · intro h j hj
    have := h j (by have := List.mem_range.1 hj; omega)
    simp only [Bool.not_eq_true', decide_eq_false_iff_not]
    omega
theorem up_of {l : List Int} (h : ∀ j, j + 1 < l.length → l.getD j 0 ≤ l.getD (j + 1) 0) : l.Nodup → l.Pairwise (· < ·) := by
  induction l with
  | nil => exact fun _ => .nil
  | cons a l ih =>
    intro hn
    have hn' := List.nodup_cons.1 hn
    have ih' := ih (fun j hj => h (j + 1) (by simp only [List.length_cons]; omega)) hn'.2
    refine List.pairwise_cons.2 ⟨fun x hx => ?_, ih'⟩
    cases l with
    | nil => simp at hx
    | cons b l =>
      have hab : a ≤ b := h 0 (by simp only [List.length_cons]; omega)
      have hne : a ≠ b := fun e => hn'.1 (by rw [e]; exact List.mem_cons_self ..)
      rcases List.mem_cons.1 hx with rfl | hx
      · omega
      · have := (List.pairwise_cons.1 ih').1 x hx
        omega
theorem up_at {l : List Int} (h : l.Pairwise (· < ·)) (j : Nat) (hj : j + 1 < l.length) : l.getD j 0 ≤ l.getD (j + 1) 0 := by
  have := List.pairwise_iff_getElem.1 h j (j + 1) (by omega) hj (by omega)
  rw [List.getD_eq_getElem?_getD, List.getElem?_eq_getElem (show j < l.length by omega), List.getD_eq_getElem?_getD, List.getElem?_eq_getElem hj]
  simp only [Option.getD_some]
  omega
theorem up_nodup {l : List Int} (h : l.Pairwise (· < ·)) : l.Nodup := h.imp (fun h e => by omega)
theorem listB_iff (r : Ros) (gate : Int) (l : List Int) : listB r gate l = true ↔ (∀ x ∈ l, 0 ≤ x ∧ x < r.turns.length) ∧ l.Pairwise (· < ·) ∧ ∀ x ∈ l, (tn r x).gate = gate := by
  unfold listB
  rw [Bool.and_eq_true, Bool.and_eq_true, Bool.and_eq_true, diffB_iff, sortedB_iff, Bool.not_eq_true', Bool.not_eq_true', List.any_eq_false, List.any_eq_false]
  constructor
  · rintro ⟨h1, h2, h3, h4⟩
    exact ⟨fun x hx => (outB_iff r x).1 (by simpa using h1 x hx), up_of h3 h2, fun x hx => by simpa using h4 x hx⟩
  · rintro ⟨h1, h2, h3⟩
    exact ⟨fun x hx => by rw [Bool.not_eq_true]; exact (outB_iff r x).2 (h1 x hx), up_nodup h2, up_at h2, fun x hx => by simpa using h3 x hx⟩
theorem proofB_iff (r : Ros) (gate : Int) (l : List Int) : proofB r gate l = true ↔ (∀ x ∈ l, endB r x = false) ∧ ∀ i : Nat, i < r.turns.length → (tn r (i : Int)).gate = gate → (begB r (i : Int) = true ∨ ∃ k ∈ l, folB r k (i : Int) = true) → (i : Int) ∈ l := by
  unfold proofB
  rw [Bool.and_eq_true, Bool.not_eq_true', Bool.not_eq_true', List.any_eq_false, decide_eq_false_iff_not]
  refine and_congr ⟨fun h x hx => by simpa using h x hx, fun h x hx => by simpa using h x hx⟩ ?_
  have he : ¬ ((0 : Int) < ((ownL r gate (missB r l)).length : Int)) ↔ ∀ x, x ∉ ownL r gate (missB r l) := by
    rw [← List.eq_nil_iff_forall_not_mem, ← List.length_eq_zero_iff]
    omega
  rw [he]
  constructor
  · intro h i hi hg hb
    apply Classical.byContradiction
    intro hn
    refine h (i : Int) (mem_ownL.2 ⟨⟨by omega, by omega⟩, hg, ?_⟩)
    unfold missB
    rw [Bool.and_eq_true, Bool.or_eq_true, Bool.not_eq_true', List.any_eq_false, List.any_eq_true]
    exact ⟨fun x hx e => hn (by rw [beq_iff_eq] at e; rw [e]; exact hx), hb⟩
  · intro h x hx
    obtain ⟨⟨h0, h1⟩, hg, hm⟩ := mem_ownL.1 hx
    obtain ⟨i, rfl⟩ := Int.eq_ofNat_of_zero_le h0
    unfold missB at hm
    rw [Bool.and_eq_true, Bool.or_eq_true, Bool.not_eq_true', List.any_eq_false, List.any_eq_true] at hm
    exact hm.1 _ (h i (by omega) hg hm.2) (beq_iff_eq.2 rfl)
theorem checkGapE_zero {r : Ros} {gate : Int} (V : Valid r) (h0 : 0 ≤ gate) (h1 : gate < r.gates) (l : List Int) : checkGapE r gate l = 0 ↔ IsGap r gate l := by
  unfold checkGapE
  rw [gatedE_good V h0 h1]
  simp only [bne_self_eq_false, Bool.false_eq_true, if_false]
  constructor
  · intro h
    split at h
    · rename_i h2
      split at h
      · rename_i h3
        obtain ⟨a, b, c⟩ := (listB_iff r gate l).1 h2
        obtain ⟨d, e⟩ := (proofB_iff r gate l).1 h3
        exact ⟨a, b, c, d, e⟩
      · cases h
    · cases h
  · intro h
    rw [if_pos ((listB_iff r gate l).2 ⟨h.inn, h.up, h.own⟩), if_pos ((proofB_iff r gate l).2 ⟨h.late, h.clos⟩)]
theorem IsGap.rch {r : Ros} {gate : Int} {l : List Int} (h : IsGap r gate l) {wo : Int} {i : Nat} (hi : Rch (grOf r gate) wo i) : (i : Int) ∈ l := by
  have hall := fun j hj => mem_all.1 (Rch.all (kin_gr r gate) (wo := wo) (i := j) hj)
  induction hi with
  | start i h1 h2 h3 =>
    obtain ⟨a, b⟩ := mem_all.1 h1
    exact h.clos i a (beq_iff_eq.1 b) (.inl h2)
  | next i j hi h2 h3 h4 ih =>
    obtain ⟨a, b⟩ := hall j (.next i j hi h2 h3 h4)
    exact h.clos j a (beq_iff_eq.1 b) (.inr ⟨(i : Int), ih, h3⟩)
theorem IsGap.none {r : Ros} {gate : Int} {l : List Int} (h : IsGap r gate l) (p : List Nat) : ¬ Plan (grOf r gate) p := by
  intro hp
  obtain ⟨i, hi, hf⟩ := (plan_iff_rch (wo := -1) (kin_gr r gate)).1 ⟨p, hp, fun x _ => by omega⟩
  have h1 := h.late _ (h.rch hi)
  have h2 : endB r (i : Int) = true := hf
  rw [h1] at h2
  cases h2
theorem reach_gap {r : Ros} (V : Valid r) {gate : Int} (h : ∀ p, ¬ Plan (grOf r gate) p) : IsGap r gate (reachL r gate (-1)) where
  inn := reachL_in
  up := ownL_up _ _ _
  own := fun x hx => (mem_ownL.1 hx).2.1
  late := fun x hx => by
    cases he : endB r x with
    | false => rfl
    | true =>
      obtain ⟨p, hp⟩ := (reach_late_all V).1 (List.any_eq_true.2 ⟨x, hx, he⟩)
      exact absurd hp (h p)
  clos := fun i hi hg hb => by
    refine (mem_reachL V).2 ⟨i, rfl, ?_⟩
    rcases hb with hb | ⟨k, hk, hf⟩
    · exact .start i (mem_all.2 ⟨hi, beq_iff_eq.2 hg⟩) hb (by omega)
    · obtain ⟨j, rfl, hj⟩ := (mem_reachL V).1 hk
      exact .next j i hj hi hf (by omega)
theorem key_costs {r : Ros} (V : Valid r) {gate : Int} {p q : List Nat} (hp : Way (grOf r gate) p) (hq : Way (grOf r gate) q) (h : key (wtBy r) p ≤ key (wtBy r) q) : costL r (intsN p) ≤ costL r (intsN q) := by
  have O := by_ord V gate
  have l1 := hp.lex O
  have l2 := hq.lex O
  have n1 := hp.len O
  have n2 := hq.len O
  have c1 := costL_ints V p (fun x hx => (hp.own x hx).1)
  have c2 := costL_ints V q (fun x hx => (hq.own x hx).1)
  unfold key at h
  have h' := (key_cmp l1 l2).2.1 h
  rw [wsum_by, wsum_by] at h'
  omega
theorem best_ne {r : Ros} {gate : Int} {wt : Nat → Nat} {P : List Nat} (h : Best (grOf r gate) wt P) : P ≠ [] ↔ ∃ p, Plan (grOf r gate) p :=
  ⟨fun e => ⟨P, h.plan.resolve_left e⟩, fun ⟨p, hp⟩ => (h.least p hp).1⟩
end Go.Proofs.YtflolfbkpjgjaaaGreatDoor
end
section
namespace Go.Proofs.YtflolfbkpjgjaaaGreatDoor
def ah (A : List (List Int)) (a b : Nat) : Int := (A.getD a []).getD b 0
structure Tri (A : List (List Int)) : Prop where
  len : A.length ≤ 8
  pos : 0 < A.length
  row : ∀ a, a < A.length → (A.getD a []).length = A.length
  zero : ∀ a, a < A.length → ah A a a = 0
  bnd : ∀ a b, a < A.length → b < A.length → -1048576 ≤ ah A a b ∧ ah A a b ≤ 1048576
  tri : ∀ a b c, a < A.length → b < A.length → c < A.length → ah A a c ≤ ah A a b + ah A b c
def lowest (A : List (List Int)) (lo : List Int) (c : Nat) : Int := (List.range A.length).foldl (fun n a => max n (lo.getD a 0 - ah A a c)) (-33554432)
def momP (A : List (List Int)) (lo hi : List Int) : Nat → Option (List Int)
  | 0 => some []
  | c + 1 => (momP A lo hi c).bind fun out => if lowest A lo c > hi.getD c 0 then none else some (out ++ [lowest A lo c])
structure Tc where
  c : Nat
  f : Int
  d : Nat
  t : Int
def idleP (A : List (List Int)) : List Tc → List Int → List Int → Option (List Int)
  | [], lo, hi => momP A lo hi A.length
  | t :: l, lo, hi =>
    match idleP A l lo (hi.set t.c (min (hi.getD t.c 0) (t.f - 1))) with
    | some out => some out
    | none => idleP A l (lo.set t.d (max (lo.getD t.d 0) t.t)) hi
theorem Valid.tri_ah {r : Ros} (V : Valid r) : Tri r.ahead where
  len := V.clocks.2
  pos := V.clocks.1
  row := fun a ha => V.row (a : Int) (by omega) (by omega)
  zero := fun a ha => V.zero (a : Int) (by omega) (by omega)
  bnd := fun a b ha hb => V.bnd (a : Int) (b : Int) (by omega) (by omega) (by omega) (by omega)
  tri := fun a b c ha hb hc => V.tri (a : Int) (b : Int) (c : Int) (by omega) (by omega) (by omega) (by omega) (by omega) (by omega)
def sh (shown : List Int) (c : Int) : Int := shown.getD c.toNat 0
def guardB (t : Trn) (shown : List Int) : Bool := !decide (sh shown t.clock < t.frm) && decide (sh shown t.clock2 < t.til)
end Go.Proofs.YtflolfbkpjgjaaaGreatDoor
end
section
namespace Go.Proofs.YtflolfbkpjgjaaaGreatDoor
open Go.RowKit Go.Proofs.YtflolfbkpjgjaaaGreatDoorW.PrintWords
open Go.Proofs.YtflolfbkpjgjaaaGreatDoorW.PrintMore
def trnC (t : Trn) : Array Value := #[.int .i64 t.gate, .int .i64 t.clock, .int .i64 t.frm, .int .i64 t.clock2, .int .i64 t.til, .int .i64 t.cost]
theorem trnC_cells {w : World} {g : Nat} {t : Trn} (h : w.heap[g]? = some (.cells (trnC t) 45 (0, 0))) :
    w.cell? ⟨g, 0, none⟩ = some (.int .i64 t.gate) ∧ w.cell? ⟨g, 1, none⟩ = some (.int .i64 t.clock) ∧ w.cell? ⟨g, 2, none⟩ = some (.int .i64 t.frm) ∧ w.cell? ⟨g, 3, none⟩ = some (.int .i64 t.clock2) ∧ w.cell? ⟨g, 4, none⟩ = some (.int .i64 t.til) ∧ w.cell? ⟨g, 5, none⟩ = some (.int .i64 t.cost) :=
  ⟨(blk_cell h 0).trans rfl, (blk_cell h 1).trans rfl, (blk_cell h 2).trans rfl, (blk_cell h 3).trans rfl, (blk_cell h 4).trans rfl, (blk_cell h 5).trans rfl⟩
theorem guardB_of (t : Trn) (shown : List Int) : guardB t shown = (decide (t.frm ≤ sh shown t.clock) && decide (sh shown t.clock2 < t.til)) := by
  unfold guardB
  congr 1
  rw [Bool.eq_iff_iff]
  simp only [Bool.not_eq_true', decide_eq_false_iff_not, decide_eq_true_eq]
  omega
set_option maxHeartbeats 2000000 in
set_option maxRecDepth 100000 in
theorem guards_calls (t : Trn) (lv : Value) (shown : List Int) (w : World) (hl : IntsAt w lv shown) (c0 : 0 ≤ t.clock) (c1 : t.clock < shown.length) (d0 : 0 ≤ t.clock2) (d1 : t.clock2 < shown.length) :
    Calls Tryz.prog 119 #[.agg (trnC t), lv] w fun e w' => e = .returned (.bool (guardB t shown)) ∧ Below w.heap.size w w' := by
  obtain ⟨A1, cap, rfl, hc1, hl1⟩ := hl
  obtain ⟨ad, hAd, g1⟩ := CI_at hl1 t.clock c0 c1
  cases hAd
  obtain ⟨ad', hAd', g2⟩ := CI_at hl1 t.clock2 d0 d1
  cases hAd'
  change w.cell? _ = some (.int .i64 (sh shown t.clock)) at g1
  change w.cell? _ = some (.int .i64 (sh shown t.clock2)) at g2
  have p1 := World.block_lt_of_cell? w _ g1
  have p2 := World.block_lt_of_cell? w _ g2
  clear hl1
  rw [guardB_of]
  unfold trnC
  generalize sh shown t.clock = x at *
  generalize sh shown t.clock2 = y at *
  obtain ⟨tg, tc, tf, td, tt, tk⟩ := t
  dsimp only at *
  generalize shown.length = n at *
  cases e1 : decide (tf ≤ x)
  · go_enter Tryz.func119, Tryz.ntmps119
    go_wp2_with fail
    go_quiet (fail)
    go_wp2
    go_ret
    exact ⟨rfl, by repeat (first | exact Below.refl _ _ | apply below_alloc | apply pw_below_drewN | apply below_drew)⟩
  · cases e2 : decide (y < tt)
    all_goals
      go_enter Tryz.func119, Tryz.ntmps119
      go_wp2_with fail
      go_quiet (fail)
      go_wp2
      go_ret
      exact ⟨rfl, by repeat (first | exact Below.refl _ _ | apply below_alloc | apply pw_below_drewN | apply below_drew)⟩
end Go.Proofs.YtflolfbkpjgjaaaGreatDoor
end
section
namespace Go.Proofs.YtflolfbkpjgjaaaGreatDoor
open Go.RowKit Go.Proofs.YtflolfbkpjgjaaaGreatDoorW.PrintWords
open Go.Proofs.YtflolfbkpjgjaaaGreatDoorW.PrintMore
def momC (r : Ros) (shown : List Int) (a b : Nat) : Bool := !decide (ahd r a b < sh shown a - sh shown b)
def momB (r : Ros) (shown : List Int) : Bool := (List.range r.ahead.length).all fun a => (List.range r.ahead.length).all fun b => momC r shown a b
set_option maxHeartbeats 2000000 in
set_option maxRecDepth 100000 in
theorem isMoment_calls (v lv : Value) (r : Ros) (shown : List Int) (w : World) (V : Valid r) (hv : RosAt w v r) (hl : IntsAt w lv shown) (hlen : shown.length = r.ahead.length) (hb : ∀ x ∈ shown, -33554432 ≤ x ∧ x ≤ 33554432) :
    Calls Tryz.prog 117 #[v, lv] w fun e w' => e = .returned (.bool (momB r shown)) ∧ Below w.heap.size w w' := by
  obtain ⟨A, c, T, d, rfl, h1, h2, h3, h4⟩ := hv
  have H3 := Aside0.mk h3
  obtain ⟨A1, c1, rfl, hc1, hl1⟩ := hl
  rw [hlen] at hl1 hc1 ⊢
  have HL := Aside0.mk hl1
  have HB0 := Aside0.mk hb
  have HLN := Aside0.mk hlen
  have HV := Aside0.mk V
  have hn8 := V.clocks.2
  have HSH : Aside0 (∀ k : Nat, k < r.ahead.length → -33554432 ≤ sh shown k ∧ sh shown k ≤ 33554432) := ⟨fun k hk => by
    unfold sh
    rw [List.getD_eq_getElem?_getD, Int.toNat_natCast, List.getElem?_eq_getElem (by rw [hlen]; exact hk)]
    exact hb _ (List.getElem_mem _)⟩
  clear h3 h4 hl1 hb hlen V
  go_enter Tryz.func117, Tryz.ntmps117
  go_wp2_with (first | ((with_reducible refine gate_dst (N := 2) rfl ?_); refine box_event ?hg (N := 2) ?hd (cs := rosC r A c T d) (t := 25) ?hr ?_; (case hd => rfl); (case hg => rfl); (case hr => first | (go_simp; done) | (go_simp; rfl)); intro g hg w3 hbox_ hb_; have BK := Aside0.mk hbox_; have Hg := Aside0.mk hg; have HB := Aside0.mk hb_; obtain ⟨q0, q1, q2, q3, q4⟩ := rosC_cells hbox_; clear hbox_ hb_ hg))
  clear q0 q1 q2 q3 q4
  go_loopw [12] (fun i wr => ∃ k : Nat, k ≤ r.ahead.length ∧ i = .int .i64 k ∧ Aside0 (((List.range k).all fun a => (List.range r.ahead.length).all fun b => momC r shown a b) = true) ∧ Aside0 (Below w.heap.size w wr)) (fun i _ => r.ahead.length - (intOf i).toNat)
  case atStart => exact ⟨0, Nat.zero_le _, rfl, ⟨rfl⟩, HB⟩
  case round =>
    clear BK HB
    obtain ⟨k, hk, rfl, HO, HB⟩ := hrel
    by_cases hlt : k < r.ahead.length
    · obtain ⟨ad, A0, c0, hA, g1, g2, g3⟩ := CII_at H3.out k (by omega) (by omega)
      cases hA
      rw [show ((k : Int)).toNat = k from rfl] at g1 g2 g3
      have hrl : (r.ahead.getD k []).length = r.ahead.length := HV.out.row k (by omega) (by omega)
      rw [hrl] at g1 g2 g3
      have g1' := (HB.out.cell (World.block_lt_of_cell? w _ g1)).trans g1
      have HX := Aside0.mk g3
      clear g1 g3 hrl
      obtain ⟨ads, hAs, s1⟩ := CI_at HL.out k (by omega) (by omega)
      cases hAs
      change w.cell? _ = some (.int .i64 (sh shown k)) at s1
      rw [show ((k : Int)).toNat = k from rfl] at s1
      have S1 := Aside0.mk s1
      clear s1
      obtain ⟨xk1, xk2⟩ := HSH.out k hlt
      have HF : Aside0 (((List.range r.ahead.length).all fun b => momC r shown k b) = false → momB r shown = false) := ⟨fun h => by unfold momB; rw [all_range_false hlt h]⟩
      have HO' : Aside0 (((List.range r.ahead.length).all fun b => momC r shown k b) = true → ((List.range (k + 1)).all fun a => (List.range r.ahead.length).all fun b => momC r shown a b) = true) := ⟨fun h => by rw [all_range_succ, HO.out, h]; rfl⟩
      go_wp2
      obtain ⟨wo, rfl⟩ : ∃ wo : World, wo = wr := ⟨_, rfl⟩
      go_loopw [19] (fun i wr => ∃ j : Nat, j ≤ r.ahead.length ∧ i = .int .i64 j ∧ Aside0 (((List.range j).all fun b => momC r shown k b) = true) ∧ Aside0 (Below w.heap.size w wr)) (fun i _ => r.ahead.length - (intOf i).toNat)
      case atStart => exact ⟨0, Nat.zero_le _, rfl, ⟨rfl⟩, HB⟩
      case round =>
        clear HB g1'
        obtain ⟨j, hj, rfl, HOj, HB⟩ := hrel
        by_cases hlt1 : j < r.ahead.length
        · obtain ⟨ad', hA', g4⟩ := CI_at HX.out j (by omega) (by omega)
          cases hA'
          change w.cell? _ = some (.int .i64 (ahd r k j)) at g4
          rw [show ((j : Int)).toNat = j from rfl] at g4
          have g4' := (HB.out.cell (World.block_lt_of_cell? w _ g4)).trans g4
          obtain ⟨ads', hAs', s2⟩ := CI_at HL.out j (by omega) (by omega)
          cases hAs'
          change w.cell? _ = some (.int .i64 (sh shown j)) at s2
          rw [show ((j : Int)).toNat = j from rfl] at s2
          have s1' := (HB.out.cell (World.block_lt_of_cell? w _ S1.out)).trans S1.out
          have s2' := (HB.out.cell (World.block_lt_of_cell? w _ s2)).trans s2
          obtain ⟨xj1, xj2⟩ := HSH.out j hlt1
          have vb := HV.out.bnd k j (by omega) (by omega) (by omega) (by omega)
          have HM : Aside0 (momC r shown k j = !decide (ahd r k j < sh shown k - sh shown j)) := ⟨rfl⟩
          have HS : Aside0 (momC r shown k j = true → ((List.range (j + 1)).all fun b => momC r shown k b) = true) := ⟨fun h => by rw [all_range_succ, HOj.out, h]; rfl⟩
          have HE : Aside0 (momC r shown k j = false → momB r shown = false) := ⟨fun h => HF.out (all_range_false hlt1 h)⟩
          clear g4 s2
          generalize momC r shown k j = mm at *
          generalize sh shown k = xk at *
          generalize sh shown j = xj at *
          generalize ahd r k j = dd at *
          have ik0 : (0 : Int) ≤ (k : Int) := by omega
          have ij0 : (0 : Int) ≤ (j : Int) := by omega
          have ik1 : (k : Int) < (r.ahead.length : Int) := by omega
          have ij1 : (j : Int) < (r.ahead.length : Int) := by omega
          have hw : IntKind.i64.wrap (xk - xj) = xk - xj := IntWalk.i64_in _ (by omega)
          cases e1 : decide (dd < xk - xj)
          · have HQ := Aside0.mk (HS.out (by rw [HM.out, e1]; rfl))
            go_wp2_with fail
            go_quiet (fail)
            go_wp2
            go_roundw
            case rel => exact ⟨j + 1, by omega, by go_num, HQ, ⟨pw_below_drewN HB.out _⟩⟩
            case measure => simp [intOf]; omega
          · have HQ := Aside0.mk (HE.out (by rw [HM.out, e1]; rfl))
            go_wp2_with fail
            go_quiet (fail)
            go_wp2
            go_ret
            exact ⟨by rw [HQ.out]; rfl, pw_below_drewN HB.out _⟩
        · have HQ : Aside0 (((List.range (k + 1)).all fun a => (List.range r.ahead.length).all fun b => momC r shown a b) = true) := ⟨HO'.out (by
            have e : j = r.ahead.length := by omega
            rw [← e]
            exact HOj.out)⟩
          go_wp2
          go_roundw
          case rel => exact ⟨k + 1, by omega, by go_num, HQ, HB⟩
          case measure => simp [intOf]; omega
    · have HQ : Aside0 (momB r shown = true) := ⟨by
        have e : k = r.ahead.length := by omega
        rw [e] at HO
        exact HO.out⟩
      go_wp2
      go_ret
      exact ⟨by rw [HQ.out]; rfl, HB.out⟩
end Go.Proofs.YtflolfbkpjgjaaaGreatDoor
end
section
namespace Go.Proofs.YtflolfbkpjgjaaaGreatDoor
open Go.RowKit Go.Proofs.YtflolfbkpjgjaaaGreatDoorW.PrintWords
open Go.Proofs.YtflolfbkpjgjaaaGreatDoorW.PrintMore
def outS (n : Int) : Bool := !inB n (-33554432) 33554432
set_option maxHeartbeats 2000000 in
set_option maxRecDepth 100000 in
theorem shown1_calls (n : Int) (w : World) : Calls Tryz.prog 159 #[.int .i64 n] w fun e w' => e = .returned (.bool (outS n)) ∧ w = w' := by
  unfold outS
  go_enter Tryz.func159, Tryz.ntmps159
  go_wp2_with (go_at_call 103; refine (within_in _ _ _ _).mono ?_; rintro e w' ⟨rfl, rfl⟩)
  go_ret
  exact ⟨rfl, rfl⟩
theorem shown1_pred (D : Int → Prop) (w : World) : PredIn 159 #[] outS D w :=
  fun W x _ hW => (shown1_calls x W).mono fun e w' ⟨he, hw⟩ => ⟨he, hw ▸ Below.refl _ _⟩
theorem enter159 : CanEnter 159 := Go.Proofs.enters_of Tryz.func159 (by kernel_rfl) rfl
def shownB (r : Ros) (shown : List Int) : Bool := ((shown.length : Int) == (r.ahead.length : Int)) && !(shown.any outS)
theorem shownB_iff (r : Ros) (shown : List Int) : shownB r shown = true ↔ shown.length = r.ahead.length ∧ ∀ x ∈ shown, -33554432 ≤ x ∧ x ≤ 33554432 := by
  unfold shownB
  rw [Bool.and_eq_true, beq_iff_eq, Bool.not_eq_true', List.any_eq_false]
  refine and_congr (by omega) (forall_congr' fun x => forall_congr' fun _ => ?_)
  unfold outS
  rw [Bool.not_eq_true, Bool.not_eq_false', inB_iff]
set_option maxHeartbeats 2000000 in
set_option maxRecDepth 100000 in
theorem isShown_calls (v lv : Value) (r : Ros) (shown : List Int) (w : World) (hv : RosAt w v r) (hl : IntsAt w lv shown) :
    Calls Tryz.prog 116 #[v, lv] w fun e w' => e = .returned (.bool (shownB r shown)) ∧ Below w.heap.size w w' := by
  obtain ⟨A, c, T, d, rfl, h1, h2, h3, h4⟩ := hv
  have hcon := fun W (hW : Below w.heap.size w W) => containsL_calls lv shown 159 #[] outS W enter159 (IntsAt.below hl hW) (shown1_pred _ W)
  obtain ⟨A1, c1, rfl, hc1, hl1⟩ := hl
  have hbig := hl1.2.1
  have hbig2 := h3.2.1
  clear h3 h4 hl1
  unfold shownB
  generalize shown.any outS = m at *
  generalize shown.length = n at *
  generalize r.ahead.length = na at *
  cases e1 : ((n : Int) == (na : Int))
  all_goals
    go_enter Tryz.func116, Tryz.ntmps116
    go_wp2_with (go_at_call 43; refine (hcon _ (below_alloc (Below.refl _ _) _)).mono ?_; rintro e w5 ⟨rfl, hb5⟩; have HB5 := Aside0.mk (below_step (below_alloc (Below.refl _ _) _) hb5); clear hb5)
    go_ret
    exact ⟨rfl, by first | exact HB5.out | exact below_alloc (Below.refl _ _) _⟩
def whoN (r : Ros) (shown : List Int) (k : Nat) : List Int := ((List.range k).filter fun i : Nat => guardB (tn r (i : Int)) shown).map fun i : Nat => (i : Int)
def whoL (r : Ros) (shown : List Int) : List Int := whoN r shown r.turns.length
theorem whoN_succ (r : Ros) (shown : List Int) (k : Nat) : whoN r shown (k + 1) = if guardB (tn r (k : Int)) shown then whoN r shown k ++ [(k : Int)] else whoN r shown k := by
  unfold whoN
  rw [List.range_succ, List.filter_append, List.map_append]
  cases h : guardB (tn r (k : Int)) shown <;> simp [h]
theorem whoN_len (r : Ros) (shown : List Int) (k : Nat) : (whoN r shown k).length ≤ k := by
  unfold whoN
  rw [List.length_map]
  have := List.length_filter_le (fun i : Nat => guardB (tn r (i : Int)) shown) (List.range k)
  simpa using this
def whoE (r : Ros) (shown : List Int) : Int := if checkE r != 0 then checkE r else if shownB r shown then if momB r shown then 0 else 61 else 1
def whoO (r : Ros) (shown : List Int) : List Int := if checkE r != 0 then [] else if shownB r shown then if momB r shown then whoL r shown else [] else []
set_option maxHeartbeats 4000000 in
set_option maxRecDepth 100000 in
theorem who_calls (v lv : Value) (r : Ros) (shown : List Int) (w : World) (hv : RosAt w v r) (hl : IntsAt w lv shown) :
    Calls Tryz.prog 41 #[v, lv] w fun e w' => ∃ ov, e = .returned (.tuple #[ov, .int .i64 (whoE r shown)]) ∧ w'.ownsRow w.heap.size 3 1 ov (whoO r shown).length (nums .i64 (whoO r shown)) ∧ Below w.heap.size w w' := by
  have hR := Aside0.mk hv
  obtain ⟨A, c, T, d, rfl, h1, h2, h3, h4⟩ := hv
  clear h3 h4
  have hL := Aside0.mk hl
  generalize hPost : (fun (e : Ending) (w' : World) => ∃ ov, e = .returned (.tuple #[ov, .int .i64 (whoE r shown)]) ∧ w'.ownsRow w.heap.size 3 1 ov (whoO r shown).length (nums .i64 (whoO r shown)) ∧ Below w.heap.size w w') = Post
  have HQ : Aside0 (∀ ov w', w'.ownsRow w.heap.size 3 1 ov (whoO r shown).length (nums .i64 (whoO r shown)) → Below w.heap.size w w' → Post (.returned (.tuple #[ov, .int .i64 (whoE r shown)])) w') := ⟨fun ov w' a b => hPost ▸ ⟨ov, rfl, a, b⟩⟩
  clear hPost
  have hcheck := fun w (h : RosAt w (.agg (rosC r A c T d)) r) => check_calls (.agg (rosC r A c T d)) r w h
  have hshown := fun w (h : RosAt w (.agg (rosC r A c T d)) r) (h2 : IntsAt w lv shown) => isShown_calls (.agg (rosC r A c T d)) lv r shown w h h2
  have hmom := fun (V : Valid r) (h : shownB r shown = true) w (h1 : RosAt w (.agg (rosC r A c T d)) r) (h2 : IntsAt w lv shown) => isMoment_calls (.agg (rosC r A c T d)) lv r shown w V h1 h2 ((shownB_iff r shown).1 h).1 ((shownB_iff r shown).1 h).2
  have hval := (checkE_ne r).1
  have HLEN : Aside0 (shownB r shown = true → shown.length = r.ahead.length) := ⟨fun h => ((shownB_iff r shown).1 h).1⟩
  unfold whoE whoO at HQ
  generalize hce : checkE r = ce at *
  cases hc : (ce != 0)
  · have e0 : ce = 0 := by simpa using hc
    subst e0
    have V := hval hc
    have hmom2 := hmom V
    clear hval hmom
    cases hs : shownB r shown
    · rw [hs] at hshown HQ
      have HQ' : Aside0 (∀ w', Below w.heap.size w w' → Post (.returned (.tuple #[.slice none 0 0, .int .i64 1])) w') := ⟨fun w' hb => HQ.out (.slice none 0 0) w' (own_nil _ _ _ _) hb⟩
      clear HQ HLEN V hc hs hmom2
      go_enter Tryz.func41, Tryz.ntmps41
      go_wp2_with (first | ((with_reducible refine gate_dst (N := 2) rfl ?_); refine box_event ?hg (N := 2) ?hd (cs := rosC r A c T d) (t := 25) ?hr ?_; (case hd => rfl); (case hg => rfl); (case hr => first | (go_simp; done) | (go_simp; rfl)); intro g hg w3 hbox_ hb_; have BK := Aside0.mk hbox_; have Hg := Aside0.mk hg; have HB := Aside0.mk hb_; obtain ⟨q0, q1, q2, q3, q4⟩ := rosC_cells hbox_; clear hbox_ hb_ hg) | (go_at_call 48; refine (hcheck _ (hR.out.below HB.out)).mono ?_; rintro e w4 ⟨rfl, hb_⟩; have HB4 := Aside0.mk (below_step HB.out hb_); have BK4 := Aside0.mk (blk_below BK.out hb_); clear q0 q1 q2 q3 q4; obtain ⟨q0, q1, q2, q3, q4⟩ := rosC_cells BK4.out; clear hb_) | (go_at_call 116; refine (hshown _ (hR.out.below HB4.out) (IntsAt.below hL.out HB4.out)).mono ?_; rintro e w5 ⟨rfl, hb_⟩; have HB5 := Aside0.mk (below_step HB4.out hb_); have BK5 := Aside0.mk (blk_below BK4.out hb_); clear q0 q1 q2 q3 q4; obtain ⟨q0, q1, q2, q3, q4⟩ := rosC_cells BK5.out; clear hb_))
      exact HQ'.out _ HB5.out
    · have hmom := hmom2 hs
      have HLEN2 := Aside0.mk (HLEN.out hs)
      rw [hs] at hshown HQ
      clear hmom2 HLEN hs hc
      cases hm : momB r shown
      · rw [hm] at hmom HQ
        have HQ' : Aside0 (∀ w', Below w.heap.size w w' → Post (.returned (.tuple #[.slice none 0 0, .int .i64 61])) w') := ⟨fun w' hb => HQ.out (.slice none 0 0) w' (own_nil _ _ _ _) hb⟩
        clear HQ V hm HLEN2
        go_enter Tryz.func41, Tryz.ntmps41
        go_wp2_with (first | ((with_reducible refine gate_dst (N := 2) rfl ?_); refine box_event ?hg (N := 2) ?hd (cs := rosC r A c T d) (t := 25) ?hr ?_; (case hd => rfl); (case hg => rfl); (case hr => first | (go_simp; done) | (go_simp; rfl)); intro g hg w3 hbox_ hb_; have BK := Aside0.mk hbox_; have Hg := Aside0.mk hg; have HB := Aside0.mk hb_; obtain ⟨q0, q1, q2, q3, q4⟩ := rosC_cells hbox_; clear hbox_ hb_ hg) | (go_at_call 48; refine (hcheck _ (hR.out.below HB.out)).mono ?_; rintro e w4 ⟨rfl, hb_⟩; have HB4 := Aside0.mk (below_step HB.out hb_); have BK4 := Aside0.mk (blk_below BK.out hb_); clear q0 q1 q2 q3 q4; obtain ⟨q0, q1, q2, q3, q4⟩ := rosC_cells BK4.out; clear hb_) | (go_at_call 116; refine (hshown _ (hR.out.below HB4.out) (IntsAt.below hL.out HB4.out)).mono ?_; rintro e w5 ⟨rfl, hb_⟩; have HB5 := Aside0.mk (below_step HB4.out hb_); have BK5 := Aside0.mk (blk_below BK4.out hb_); clear q0 q1 q2 q3 q4; obtain ⟨q0, q1, q2, q3, q4⟩ := rosC_cells BK5.out; clear hb_) | (go_at_call 117; refine (hmom _ (hR.out.below HB5.out) (IntsAt.below hL.out HB5.out)).mono ?_; rintro e w6 ⟨rfl, hb_⟩; have HB6 := Aside0.mk (below_step HB5.out hb_); have BK6 := Aside0.mk (blk_below BK5.out hb_); clear q0 q1 q2 q3 q4; obtain ⟨q0, q1, q2, q3, q4⟩ := rosC_cells BK6.out; clear hb_))
        exact HQ'.out _ HB6.out
      · rw [hm] at hmom HQ
        have HQ' : Aside0 (∀ ov w', w'.ownsRow w.heap.size 3 1 ov (whoL r shown).length (nums .i64 (whoL r shown)) → Below w.heap.size w w' → Post (.returned (.tuple #[ov, .int .i64 0])) w') := ⟨fun ov w' ho hb => HQ.out ov w' ho hb⟩
        have HV := Aside0.mk V
        have h24 := V.turns
        clear HQ V hm
        have HT := Aside0.mk hR.out
        obtain ⟨A', c', T', d', e', k1, k2, k3, k4⟩ := HT.out
        cases e'
        have H4 := Aside0.mk k4
        clear HT k3 k4 k1
        go_enter Tryz.func41, Tryz.ntmps41
        go_wp2_with (first | ((with_reducible refine gate_dst (N := 2) rfl ?_); refine box_event ?hg (N := 2) ?hd (cs := rosC r A c T d) (t := 25) ?hr ?_; (case hd => rfl); (case hg => rfl); (case hr => first | (go_simp; done) | (go_simp; rfl)); intro g hg w3 hbox_ hb_; have BK := Aside0.mk hbox_; have Hg := Aside0.mk hg; have HB := Aside0.mk hb_; obtain ⟨q0, q1, q2, q3, q4⟩ := rosC_cells hbox_; clear hbox_ hb_ hg) | (go_at_call 48; refine (hcheck _ (hR.out.below HB.out)).mono ?_; rintro e w4 ⟨rfl, hb_⟩; have HB4 := Aside0.mk (below_step HB.out hb_); have BK4 := Aside0.mk (blk_below BK.out hb_); clear q0 q1 q2 q3 q4; obtain ⟨q0, q1, q2, q3, q4⟩ := rosC_cells BK4.out; clear hb_) | (go_at_call 116; refine (hshown _ (hR.out.below HB4.out) (IntsAt.below hL.out HB4.out)).mono ?_; rintro e w5 ⟨rfl, hb_⟩; have HB5 := Aside0.mk (below_step HB4.out hb_); have BK5 := Aside0.mk (blk_below BK4.out hb_); clear q0 q1 q2 q3 q4; obtain ⟨q0, q1, q2, q3, q4⟩ := rosC_cells BK5.out; clear hb_) | (go_at_call 117; refine (hmom _ (hR.out.below HB5.out) (IntsAt.below hL.out HB5.out)).mono ?_; rintro e w6 ⟨rfl, hb_⟩; have HB6 := Aside0.mk (below_step HB5.out hb_); have BK6 := Aside0.mk (blk_below BK5.out hb_); clear q0 q1 q2 q3 q4; obtain ⟨q0, q1, q2, q3, q4⟩ := rosC_cells BK6.out; clear hb_))
        clear q0 q1 q2 q3 q4
        clear BK BK4 BK5 HB HB4 HB5 hcheck hshown hmom
        go_loopw [7, 26] (fun u i wr => ∃ k : Nat, k ≤ r.turns.length ∧ i = .int .i64 k ∧ Aside0 (wr.ownsRow w.heap.size 3 1 u (whoN r shown k).length (nums .i64 (whoN r shown k))) ∧ Aside0 (Below w.heap.size w wr)) (fun _ i _ => r.turns.length - (intOf i).toNat)
        case atStart => exact ⟨0, Nat.zero_le _, rfl, ⟨own_nil _ _ _ _⟩, HB6⟩
        case round =>
          clear BK6 HB6
          obtain ⟨k, hk, rfl, HO, HB⟩ := hrel
          by_cases hlt : k < r.turns.length
          · obtain ⟨ad, hA, g0, g1, g2, g3, g4, g5⟩ := CT_at (Kd.C_below H4.out HB.out) k (by omega) (by omega)
            cases hA
            have p0 := World.block_lt_of_cell? wr _ g0
            have HT : Aside0 (r.turns.getD ((k : Int)).toNat Trn.z = tn r k) := ⟨rfl⟩
            rw [HT.out] at g0 g1 g2 g3 g4 g5
            rw [show ((k : Int)).toNat = k from rfl] at g0 g1 g2 g3 g4 g5 p0
            clear HT
            have vt := HV.out.turn k (by omega) (by omega)
            have hg := fun W (hW : Below w.heap.size w W) => guards_calls (tn r k) lv shown W (IntsAt.below hL.out hW) vt.2.1.1 (by rw [HLEN2.out]; exact vt.2.1.2) vt.2.2.1.1 (by rw [HLEN2.out]; exact vt.2.2.1.2)
            have HS := Aside0.mk (whoN_succ r shown k)
            have HL := Aside0.mk (whoN_len r shown k)
            clear vt
            generalize hxs : whoN r shown k = xs at *
            clear hxs
            generalize guardB (tn r (k : Int)) shown = gb at *
            generalize tn r (k : Int) = tt at *
            cases gb
            · have HO' : Aside0 (wr.ownsRow w.heap.size 3 1 u7 (whoN r shown (k + 1)).length (nums .i64 (whoN r shown (k + 1)))) := ⟨by rw [HS.out]; exact HO.out⟩
              go_wp2_with (go_at_call 119; refine (hg _ (below_alloc HB.out _)).mono ?_; rintro e w7 ⟨rfl, hb7⟩; have HO7 := Aside0.mk (pw_own_below ((HO'.out).alloc _) hb7); have HB7 := Aside0.mk (below_step (below_alloc HB.out _) hb7); clear hb7)
              go_roundw
              case rel => exact ⟨k + 1, by omega, by go_num, HO7, HB7⟩
              case measure => simp [intOf]; omega
            · go_wp2_with (first | (go_at_call 119; refine (hg _ (below_alloc HB.out _)).mono ?_; rintro e w7 ⟨rfl, hb7⟩; have HO7 := Aside0.mk (pw_own_below ((HO.out).alloc _) hb7); have HB7 := Aside0.mk (below_step (below_alloc HB.out _) hb7); clear hb7) | (at_builtin; refine print_append_num w.heap.size rfl (.tmp 34) (.tmp 36) 26 3 .i64 8 rfl Tryz.underlying26 info3 (by omega) u7 xs (k : Int) rfl rfl HO7.out HB7.out HB7.out.size (by have := HL.out; omega) ?_; intro v1 w8 hown hbel hgr hat; have HO8 := Aside0.mk hown; have HB8 := Aside0.mk hbel; clear hown hbel hgr hat))
              go_roundw
              case rel => exact ⟨k + 1, by omega, by go_num, ⟨by rw [HS.out]; exact HO8.out⟩, HB8⟩
              case measure => simp [intOf]; omega
          · have hkn : k = r.turns.length := by omega
            rw [hkn] at HO
            go_wp2
            exact HQ'.out _ _ HO.out HB.out
  · rw [hc] at HQ
    simp only [if_true] at HQ
    have HQ' : Aside0 (∀ w', Below w.heap.size w w' → Post (.returned (.tuple #[.slice none 0 0, .int .i64 ce])) w') := ⟨fun w' hb => HQ.out (.slice none 0 0) w' (own_nil _ _ _ _) hb⟩
    clear HQ HLEN hval hmom hshown
    go_enter Tryz.func41, Tryz.ntmps41
    go_wp2_with (first | ((with_reducible refine gate_dst (N := 2) rfl ?_); refine box_event ?hg (N := 2) ?hd (cs := rosC r A c T d) (t := 25) ?hr ?_; (case hd => rfl); (case hg => rfl); (case hr => first | (go_simp; done) | (go_simp; rfl)); intro g hg w3 hbox_ hb_; have BK := Aside0.mk hbox_; have Hg := Aside0.mk hg; have HB := Aside0.mk hb_; obtain ⟨q0, q1, q2, q3, q4⟩ := rosC_cells hbox_; clear hbox_ hb_ hg) | (go_at_call 48; refine (hcheck _ (hR.out.below HB.out)).mono ?_; rintro e w4 ⟨rfl, hb_⟩; have HB4 := Aside0.mk (below_step HB.out hb_); have BK4 := Aside0.mk (blk_below BK.out hb_); clear q0 q1 q2 q3 q4; obtain ⟨q0, q1, q2, q3, q4⟩ := rosC_cells BK4.out; clear hb_))
    exact HQ'.out _ HB4.out
end Go.Proofs.YtflolfbkpjgjaaaGreatDoor
end
section
namespace Go.Proofs.YtflolfbkpjgjaaaGreatDoor
open Go.RowKit Go.Proofs.YtflolfbkpjgjaaaGreatDoorW.PrintWords
open Go.Proofs.YtflolfbkpjgjaaaGreatDoorW.PrintMore
set_option maxHeartbeats 2000000 in
set_option maxRecDepth 100000 in
theorem gate2_calls (i : Int) (bb bg : Nat) (r : Ros) (gate : Int) (w : World) (hb : BoxAt w bb r) (hg : w.heap[bg]? = some (.cells #[.int .i64 gate] 3 (0, 0))) (i0 : 0 ≤ i) (i1 : i < r.turns.length) :
    Calls Tryz.prog 156 #[.int .i64 i, .pointer (some ⟨bb, 0, none⟩), .pointer (some ⟨bg, 0, none⟩)] w fun e w' => e = .returned (.bool ((tn r i).gate != gate)) ∧ Below w.heap.size w w' := by
  obtain ⟨A, c, T, d, h1, h2⟩ := hb.ex
  obtain ⟨q0, q1, q2, q3, q4⟩ := rosC_cells h1
  have q5 : w.cell? ⟨bg, 0, none⟩ = some (.int .i64 gate) := (blk_cell hg 0).trans rfl
  have H2 := Aside0.mk h2
  obtain ⟨A', c', T', d', e, h21, h22, h23, h24⟩ := h2
  cases e
  obtain ⟨ad, hAd, g0, _⟩ := CT_at h24 i i0 i1
  cases hAd
  change w.cell? _ = some (.int .i64 (tn r i).gate) at g0
  clear h1 h23 h24 hb hg
  generalize tn r i = t at *
  go_enter Tryz.func156, Tryz.ntmps156
  go_wp2
  go_still_tail 8, (by kernel_rfl)
  change wpList _ _ _ _ _ w.drew
  go_wp2
  go_ret
  exact ⟨rfl, below_drew (Below.refl _ _)⟩
theorem enter156 : CanEnter 156 := Go.Proofs.enters_of Tryz.func156 (by kernel_rfl) rfl
theorem gate2_pred {bb bg : Nat} {r : Ros} {gate : Int} {w : World} (hb : BoxAt w bb r) (hg : w.heap[bg]? = some (.cells #[.int .i64 gate] 3 (0, 0))) : PredIn 156 #[.pointer (some ⟨bb, 0, none⟩), .pointer (some ⟨bg, 0, none⟩)] (fun i => (tn r i).gate != gate) (fun x => 0 ≤ x ∧ x < r.turns.length) w :=
  fun W x hx hW => gate2_calls x bb bg r gate W (hb.below hW) (blk_below hg hW) hx.1 hx.2
def bareB (r : Ros) (gate : Int) (l : List Int) : Bool := !(l.any (outB r)) && (diffB l && !(l.any fun i => (tn r i).gate != gate))
def bareE (r : Ros) (gate : Int) (l : List Int) : Int := if gatedE r gate != 0 then gatedE r gate else if bareB r gate l then if decide ((8 : Int) < (l.length : Int)) then 2 else 0 else 1
set_option maxHeartbeats 4000000 in
set_option maxRecDepth 100000 in
theorem bareE_calls (v lv : Value) (r : Ros) (gate : Int) (l : List Int) (w : World) (hv : RosAt w v r) (hl : IntsAt w lv l) :
    Calls Tryz.prog 108 #[v, .int .i64 gate, lv] w fun e w' => e = .returned (.int .i64 (bareE r gate l)) ∧ Below w.heap.size w w' := by
  have hR := Aside0.mk hv
  obtain ⟨A, c, T, d, rfl, h1, h2, h3, h4⟩ := hv
  clear h3 h4
  have hL := Aside0.mk hl
  have hgat := fun w (h : RosAt w (.agg (rosC r A c T d)) r) => gated_calls (.agg (rosC r A c T d)) r gate w h
  have hturns := fun (V : Valid r) w (h : RosAt w (.agg (rosC r A c T d)) r) (h2 : IntsAt w lv l) => (turnsE_of V l ▸ turns_calls (.agg (rosC r A c T d)) lv r l w h h2 : Calls Tryz.prog 89 #[.agg (rosC r A c T d), lv] w fun e w' => e = .returned (.int .i64 (if l.any (outB r) then 1 else 0)) ∧ Below w.heap.size w w')
  have hdiff := fun w (h : IntsAt w lv l) => different_calls lv l w h
  have hgate := fun (hin : ∀ x ∈ l, 0 ≤ x ∧ x < r.turns.length) w b bg (h : IntsAt w lv l) (h2 : BoxAt w b r) (h3 : w.heap[bg]? = some (.cells #[.int .i64 gate] 3 (0, 0))) => containsL_calls lv l 156 #[.pointer (some ⟨b, 0, none⟩), .pointer (some ⟨bg, 0, none⟩)] (fun i => (tn r i).gate != gate) w enter156 h ((gate2_pred h2 h3).mono hin)
  have hz := fun h => gatedE_zero (r := r) (gate := gate) h
  have hin := fun h => outB_all (r := r) (l := l) h
  obtain ⟨A1, c1, rfl, hc1, hl1⟩ := hl
  have hbig := hl1.2.1
  clear hl1
  have hmf : ∀ (fn : Fn) (first cap : Array Value) (w : World), (Instr.makeFunc fn first cap).run Tryz.prog w = .ok (.func fn first cap) w := fun _ _ _ _ => rfl
  unfold bareE bareB
  generalize hge : gatedE r gate = ge at *
  cases hc : (ge != 0)
  · have e0 : ge = 0 := by simpa using hc
    subst e0
    have V := (hz rfl).1
    have hturns2 := hturns V
    clear hturns hz hc V
    have hturns := hturns2
    clear hturns2
    generalize hm1 : l.any (outB r) = m1 at *
    generalize diffB l = m2 at *
    generalize (l.any fun i => (tn r i).gate != gate) = m4 at *
    cases m1
    · have hin2 := hin rfl
      have hgate2 := hgate hin2
      clear hgate hin hin2
      have hgate := hgate2
      clear hgate2
      cases m2
      · go_enter Tryz.func108, Tryz.ntmps108
        go_wp2_with (first | ((with_reducible refine gate_dst (N := 3) rfl ?_); refine box_event ?hg (N := 3) ?hd (cs := rosC r A c T d) (t := 25) ?hr ?_; (case hd => rfl); (case hg => rfl); (case hr => first | (go_simp; done) | (go_simp; rfl)); intro gr hgr w1 hbox_ hb_; have BR1 := Aside0.mk hbox_; have Hgr := Aside0.mk hgr; have HB1 := Aside0.mk hb_; clear hbox_ hb_ hgr) | ((with_reducible refine gate_dst (N := 4) rfl ?_); refine box_event ?hg (N := 4) ?hd (cs := #[.int .i64 gate]) (t := 3) ?hr ?_; (case hd => rfl); (case hg => rfl); (case hr => first | (go_simp; done) | (go_simp; rfl)); intro gg hgg w3 hbox_ hb_; have BG3 := Aside0.mk hbox_; have Hgg := Aside0.mk hgg; have HB3 := Aside0.mk (below_step HB1.out hb_); have BR3 := Aside0.mk (blk_below BR1.out hb_); obtain ⟨q0, q1, q2, q3, q4⟩ := rosC_cells BR3.out; have q5 : w3.cell? ⟨gg, 0, none⟩ = some (.int .i64 gate) := (blk_cell hbox_ 0).trans rfl; clear hbox_ hb_ hgg) | (go_at_call 77; refine (hgat _ (hR.out.below HB3.out)).mono ?_; rintro e w4 ⟨rfl, hb_⟩; have HB4 := Aside0.mk (below_step HB3.out hb_); have BR4 := Aside0.mk (blk_below BR3.out hb_); have BG4 := Aside0.mk (blk_below BG3.out hb_); clear q0 q1 q2 q3 q4 q5; obtain ⟨q0, q1, q2, q3, q4⟩ := rosC_cells BR4.out; have q5 : w4.cell? ⟨gg, 0, none⟩ = some (.int .i64 gate) := (blk_cell BG4.out 0).trans rfl; clear hb_) | (go_at_call 89; refine (hturns _ (hR.out.below HB4.out) (IntsAt.below hL.out HB4.out)).mono ?_; rintro e w5 ⟨rfl, hb_⟩; have HB5 := Aside0.mk (below_step HB4.out hb_); have BR5 := Aside0.mk (blk_below BR4.out hb_); have BG5 := Aside0.mk (blk_below BG4.out hb_); clear q0 q1 q2 q3 q4 q5; obtain ⟨q0, q1, q2, q3, q4⟩ := rosC_cells BR5.out; have q5 : w5.cell? ⟨gg, 0, none⟩ = some (.int .i64 gate) := (blk_cell BG5.out 0).trans rfl; clear hb_) | (go_at_call 90; refine (hdiff _ (IntsAt.below hL.out HB5.out)).mono ?_; rintro e w' ⟨rfl, rfl⟩) | (go_at_call 43; refine (hgate _ gr gg (IntsAt.below hL.out HB5.out) ⟨A, c, T, d, BR5.out, hR.out.below HB5.out⟩ BG5.out).mono ?_; rintro e w6 ⟨rfl, hb_⟩; have HB6 := Aside0.mk (below_step HB5.out hb_); have BR6 := Aside0.mk (blk_below BR5.out hb_); have BG6 := Aside0.mk (blk_below BG5.out hb_); clear q0 q1 q2 q3 q4 q5; obtain ⟨q0, q1, q2, q3, q4⟩ := rosC_cells BR6.out; have q5 : w6.cell? ⟨gg, 0, none⟩ = some (.int .i64 gate) := (blk_cell BG6.out 0).trans rfl; clear hb_))
        go_ret
        exact ⟨rfl, HB5.out⟩
      · cases m4
        · cases e8 : decide ((8 : Int) < (l.length : Int))
          · go_enter Tryz.func108, Tryz.ntmps108
            go_wp2_with (first | ((with_reducible refine gate_dst (N := 3) rfl ?_); refine box_event ?hg (N := 3) ?hd (cs := rosC r A c T d) (t := 25) ?hr ?_; (case hd => rfl); (case hg => rfl); (case hr => first | (go_simp; done) | (go_simp; rfl)); intro gr hgr w1 hbox_ hb_; have BR1 := Aside0.mk hbox_; have Hgr := Aside0.mk hgr; have HB1 := Aside0.mk hb_; clear hbox_ hb_ hgr) | ((with_reducible refine gate_dst (N := 4) rfl ?_); refine box_event ?hg (N := 4) ?hd (cs := #[.int .i64 gate]) (t := 3) ?hr ?_; (case hd => rfl); (case hg => rfl); (case hr => first | (go_simp; done) | (go_simp; rfl)); intro gg hgg w3 hbox_ hb_; have BG3 := Aside0.mk hbox_; have Hgg := Aside0.mk hgg; have HB3 := Aside0.mk (below_step HB1.out hb_); have BR3 := Aside0.mk (blk_below BR1.out hb_); obtain ⟨q0, q1, q2, q3, q4⟩ := rosC_cells BR3.out; have q5 : w3.cell? ⟨gg, 0, none⟩ = some (.int .i64 gate) := (blk_cell hbox_ 0).trans rfl; clear hbox_ hb_ hgg) | (go_at_call 77; refine (hgat _ (hR.out.below HB3.out)).mono ?_; rintro e w4 ⟨rfl, hb_⟩; have HB4 := Aside0.mk (below_step HB3.out hb_); have BR4 := Aside0.mk (blk_below BR3.out hb_); have BG4 := Aside0.mk (blk_below BG3.out hb_); clear q0 q1 q2 q3 q4 q5; obtain ⟨q0, q1, q2, q3, q4⟩ := rosC_cells BR4.out; have q5 : w4.cell? ⟨gg, 0, none⟩ = some (.int .i64 gate) := (blk_cell BG4.out 0).trans rfl; clear hb_) | (go_at_call 89; refine (hturns _ (hR.out.below HB4.out) (IntsAt.below hL.out HB4.out)).mono ?_; rintro e w5 ⟨rfl, hb_⟩; have HB5 := Aside0.mk (below_step HB4.out hb_); have BR5 := Aside0.mk (blk_below BR4.out hb_); have BG5 := Aside0.mk (blk_below BG4.out hb_); clear q0 q1 q2 q3 q4 q5; obtain ⟨q0, q1, q2, q3, q4⟩ := rosC_cells BR5.out; have q5 : w5.cell? ⟨gg, 0, none⟩ = some (.int .i64 gate) := (blk_cell BG5.out 0).trans rfl; clear hb_) | (go_at_call 90; refine (hdiff _ (IntsAt.below hL.out HB5.out)).mono ?_; rintro e w' ⟨rfl, rfl⟩) | (go_at_call 43; refine (hgate _ gr gg (IntsAt.below hL.out HB5.out) ⟨A, c, T, d, BR5.out, hR.out.below HB5.out⟩ BG5.out).mono ?_; rintro e w6 ⟨rfl, hb_⟩; have HB6 := Aside0.mk (below_step HB5.out hb_); have BR6 := Aside0.mk (blk_below BR5.out hb_); have BG6 := Aside0.mk (blk_below BG5.out hb_); clear q0 q1 q2 q3 q4 q5; obtain ⟨q0, q1, q2, q3, q4⟩ := rosC_cells BR6.out; have q5 : w6.cell? ⟨gg, 0, none⟩ = some (.int .i64 gate) := (blk_cell BG6.out 0).trans rfl; clear hb_))
            go_ret
            exact ⟨rfl, HB6.out⟩
          · go_enter Tryz.func108, Tryz.ntmps108
            go_wp2_with (first | ((with_reducible refine gate_dst (N := 3) rfl ?_); refine box_event ?hg (N := 3) ?hd (cs := rosC r A c T d) (t := 25) ?hr ?_; (case hd => rfl); (case hg => rfl); (case hr => first | (go_simp; done) | (go_simp; rfl)); intro gr hgr w1 hbox_ hb_; have BR1 := Aside0.mk hbox_; have Hgr := Aside0.mk hgr; have HB1 := Aside0.mk hb_; clear hbox_ hb_ hgr) | ((with_reducible refine gate_dst (N := 4) rfl ?_); refine box_event ?hg (N := 4) ?hd (cs := #[.int .i64 gate]) (t := 3) ?hr ?_; (case hd => rfl); (case hg => rfl); (case hr => first | (go_simp; done) | (go_simp; rfl)); intro gg hgg w3 hbox_ hb_; have BG3 := Aside0.mk hbox_; have Hgg := Aside0.mk hgg; have HB3 := Aside0.mk (below_step HB1.out hb_); have BR3 := Aside0.mk (blk_below BR1.out hb_); obtain ⟨q0, q1, q2, q3, q4⟩ := rosC_cells BR3.out; have q5 : w3.cell? ⟨gg, 0, none⟩ = some (.int .i64 gate) := (blk_cell hbox_ 0).trans rfl; clear hbox_ hb_ hgg) | (go_at_call 77; refine (hgat _ (hR.out.below HB3.out)).mono ?_; rintro e w4 ⟨rfl, hb_⟩; have HB4 := Aside0.mk (below_step HB3.out hb_); have BR4 := Aside0.mk (blk_below BR3.out hb_); have BG4 := Aside0.mk (blk_below BG3.out hb_); clear q0 q1 q2 q3 q4 q5; obtain ⟨q0, q1, q2, q3, q4⟩ := rosC_cells BR4.out; have q5 : w4.cell? ⟨gg, 0, none⟩ = some (.int .i64 gate) := (blk_cell BG4.out 0).trans rfl; clear hb_) | (go_at_call 89; refine (hturns _ (hR.out.below HB4.out) (IntsAt.below hL.out HB4.out)).mono ?_; rintro e w5 ⟨rfl, hb_⟩; have HB5 := Aside0.mk (below_step HB4.out hb_); have BR5 := Aside0.mk (blk_below BR4.out hb_); have BG5 := Aside0.mk (blk_below BG4.out hb_); clear q0 q1 q2 q3 q4 q5; obtain ⟨q0, q1, q2, q3, q4⟩ := rosC_cells BR5.out; have q5 : w5.cell? ⟨gg, 0, none⟩ = some (.int .i64 gate) := (blk_cell BG5.out 0).trans rfl; clear hb_) | (go_at_call 90; refine (hdiff _ (IntsAt.below hL.out HB5.out)).mono ?_; rintro e w' ⟨rfl, rfl⟩) | (go_at_call 43; refine (hgate _ gr gg (IntsAt.below hL.out HB5.out) ⟨A, c, T, d, BR5.out, hR.out.below HB5.out⟩ BG5.out).mono ?_; rintro e w6 ⟨rfl, hb_⟩; have HB6 := Aside0.mk (below_step HB5.out hb_); have BR6 := Aside0.mk (blk_below BR5.out hb_); have BG6 := Aside0.mk (blk_below BG5.out hb_); clear q0 q1 q2 q3 q4 q5; obtain ⟨q0, q1, q2, q3, q4⟩ := rosC_cells BR6.out; have q5 : w6.cell? ⟨gg, 0, none⟩ = some (.int .i64 gate) := (blk_cell BG6.out 0).trans rfl; clear hb_))
            go_ret
            exact ⟨rfl, HB6.out⟩
        · go_enter Tryz.func108, Tryz.ntmps108
          go_wp2_with (first | ((with_reducible refine gate_dst (N := 3) rfl ?_); refine box_event ?hg (N := 3) ?hd (cs := rosC r A c T d) (t := 25) ?hr ?_; (case hd => rfl); (case hg => rfl); (case hr => first | (go_simp; done) | (go_simp; rfl)); intro gr hgr w1 hbox_ hb_; have BR1 := Aside0.mk hbox_; have Hgr := Aside0.mk hgr; have HB1 := Aside0.mk hb_; clear hbox_ hb_ hgr) | ((with_reducible refine gate_dst (N := 4) rfl ?_); refine box_event ?hg (N := 4) ?hd (cs := #[.int .i64 gate]) (t := 3) ?hr ?_; (case hd => rfl); (case hg => rfl); (case hr => first | (go_simp; done) | (go_simp; rfl)); intro gg hgg w3 hbox_ hb_; have BG3 := Aside0.mk hbox_; have Hgg := Aside0.mk hgg; have HB3 := Aside0.mk (below_step HB1.out hb_); have BR3 := Aside0.mk (blk_below BR1.out hb_); obtain ⟨q0, q1, q2, q3, q4⟩ := rosC_cells BR3.out; have q5 : w3.cell? ⟨gg, 0, none⟩ = some (.int .i64 gate) := (blk_cell hbox_ 0).trans rfl; clear hbox_ hb_ hgg) | (go_at_call 77; refine (hgat _ (hR.out.below HB3.out)).mono ?_; rintro e w4 ⟨rfl, hb_⟩; have HB4 := Aside0.mk (below_step HB3.out hb_); have BR4 := Aside0.mk (blk_below BR3.out hb_); have BG4 := Aside0.mk (blk_below BG3.out hb_); clear q0 q1 q2 q3 q4 q5; obtain ⟨q0, q1, q2, q3, q4⟩ := rosC_cells BR4.out; have q5 : w4.cell? ⟨gg, 0, none⟩ = some (.int .i64 gate) := (blk_cell BG4.out 0).trans rfl; clear hb_) | (go_at_call 89; refine (hturns _ (hR.out.below HB4.out) (IntsAt.below hL.out HB4.out)).mono ?_; rintro e w5 ⟨rfl, hb_⟩; have HB5 := Aside0.mk (below_step HB4.out hb_); have BR5 := Aside0.mk (blk_below BR4.out hb_); have BG5 := Aside0.mk (blk_below BG4.out hb_); clear q0 q1 q2 q3 q4 q5; obtain ⟨q0, q1, q2, q3, q4⟩ := rosC_cells BR5.out; have q5 : w5.cell? ⟨gg, 0, none⟩ = some (.int .i64 gate) := (blk_cell BG5.out 0).trans rfl; clear hb_) | (go_at_call 90; refine (hdiff _ (IntsAt.below hL.out HB5.out)).mono ?_; rintro e w' ⟨rfl, rfl⟩) | (go_at_call 43; refine (hgate _ gr gg (IntsAt.below hL.out HB5.out) ⟨A, c, T, d, BR5.out, hR.out.below HB5.out⟩ BG5.out).mono ?_; rintro e w6 ⟨rfl, hb_⟩; have HB6 := Aside0.mk (below_step HB5.out hb_); have BR6 := Aside0.mk (blk_below BR5.out hb_); have BG6 := Aside0.mk (blk_below BG5.out hb_); clear q0 q1 q2 q3 q4 q5; obtain ⟨q0, q1, q2, q3, q4⟩ := rosC_cells BR6.out; have q5 : w6.cell? ⟨gg, 0, none⟩ = some (.int .i64 gate) := (blk_cell BG6.out 0).trans rfl; clear hb_))
          go_ret
          exact ⟨rfl, HB6.out⟩
    · clear hgate hin
      go_enter Tryz.func108, Tryz.ntmps108
      go_wp2_with (first | ((with_reducible refine gate_dst (N := 3) rfl ?_); refine box_event ?hg (N := 3) ?hd (cs := rosC r A c T d) (t := 25) ?hr ?_; (case hd => rfl); (case hg => rfl); (case hr => first | (go_simp; done) | (go_simp; rfl)); intro gr hgr w1 hbox_ hb_; have BR1 := Aside0.mk hbox_; have Hgr := Aside0.mk hgr; have HB1 := Aside0.mk hb_; clear hbox_ hb_ hgr) | ((with_reducible refine gate_dst (N := 4) rfl ?_); refine box_event ?hg (N := 4) ?hd (cs := #[.int .i64 gate]) (t := 3) ?hr ?_; (case hd => rfl); (case hg => rfl); (case hr => first | (go_simp; done) | (go_simp; rfl)); intro gg hgg w3 hbox_ hb_; have BG3 := Aside0.mk hbox_; have Hgg := Aside0.mk hgg; have HB3 := Aside0.mk (below_step HB1.out hb_); have BR3 := Aside0.mk (blk_below BR1.out hb_); obtain ⟨q0, q1, q2, q3, q4⟩ := rosC_cells BR3.out; have q5 : w3.cell? ⟨gg, 0, none⟩ = some (.int .i64 gate) := (blk_cell hbox_ 0).trans rfl; clear hbox_ hb_ hgg) | (go_at_call 77; refine (hgat _ (hR.out.below HB3.out)).mono ?_; rintro e w4 ⟨rfl, hb_⟩; have HB4 := Aside0.mk (below_step HB3.out hb_); have BR4 := Aside0.mk (blk_below BR3.out hb_); have BG4 := Aside0.mk (blk_below BG3.out hb_); clear q0 q1 q2 q3 q4 q5; obtain ⟨q0, q1, q2, q3, q4⟩ := rosC_cells BR4.out; have q5 : w4.cell? ⟨gg, 0, none⟩ = some (.int .i64 gate) := (blk_cell BG4.out 0).trans rfl; clear hb_) | (go_at_call 89; refine (hturns _ (hR.out.below HB4.out) (IntsAt.below hL.out HB4.out)).mono ?_; rintro e w5 ⟨rfl, hb_⟩; have HB5 := Aside0.mk (below_step HB4.out hb_); have BR5 := Aside0.mk (blk_below BR4.out hb_); have BG5 := Aside0.mk (blk_below BG4.out hb_); clear q0 q1 q2 q3 q4 q5; obtain ⟨q0, q1, q2, q3, q4⟩ := rosC_cells BR5.out; have q5 : w5.cell? ⟨gg, 0, none⟩ = some (.int .i64 gate) := (blk_cell BG5.out 0).trans rfl; clear hb_) | (go_at_call 90; refine (hdiff _ (IntsAt.below hL.out HB5.out)).mono ?_; rintro e w' ⟨rfl, rfl⟩) | (go_at_call 43; refine (hgate _ gr gg (IntsAt.below hL.out HB5.out) ⟨A, c, T, d, BR5.out, hR.out.below HB5.out⟩ BG5.out).mono ?_; rintro e w6 ⟨rfl, hb_⟩; have HB6 := Aside0.mk (below_step HB5.out hb_); have BR6 := Aside0.mk (blk_below BR5.out hb_); have BG6 := Aside0.mk (blk_below BG5.out hb_); clear q0 q1 q2 q3 q4 q5; obtain ⟨q0, q1, q2, q3, q4⟩ := rosC_cells BR6.out; have q5 : w6.cell? ⟨gg, 0, none⟩ = some (.int .i64 gate) := (blk_cell BG6.out 0).trans rfl; clear hb_))
      go_ret
      exact ⟨rfl, HB5.out⟩
  · clear hgate hin hturns
    go_enter Tryz.func108, Tryz.ntmps108
    go_wp2_with (first | ((with_reducible refine gate_dst (N := 3) rfl ?_); refine box_event ?hg (N := 3) ?hd (cs := rosC r A c T d) (t := 25) ?hr ?_; (case hd => rfl); (case hg => rfl); (case hr => first | (go_simp; done) | (go_simp; rfl)); intro gr hgr w1 hbox_ hb_; have BR1 := Aside0.mk hbox_; have Hgr := Aside0.mk hgr; have HB1 := Aside0.mk hb_; clear hbox_ hb_ hgr) | ((with_reducible refine gate_dst (N := 4) rfl ?_); refine box_event ?hg (N := 4) ?hd (cs := #[.int .i64 gate]) (t := 3) ?hr ?_; (case hd => rfl); (case hg => rfl); (case hr => first | (go_simp; done) | (go_simp; rfl)); intro gg hgg w3 hbox_ hb_; have BG3 := Aside0.mk hbox_; have Hgg := Aside0.mk hgg; have HB3 := Aside0.mk (below_step HB1.out hb_); have BR3 := Aside0.mk (blk_below BR1.out hb_); obtain ⟨q0, q1, q2, q3, q4⟩ := rosC_cells BR3.out; have q5 : w3.cell? ⟨gg, 0, none⟩ = some (.int .i64 gate) := (blk_cell hbox_ 0).trans rfl; clear hbox_ hb_ hgg) | (go_at_call 77; refine (hgat _ (hR.out.below HB3.out)).mono ?_; rintro e w4 ⟨rfl, hb_⟩; have HB4 := Aside0.mk (below_step HB3.out hb_); have BR4 := Aside0.mk (blk_below BR3.out hb_); have BG4 := Aside0.mk (blk_below BG3.out hb_); clear q0 q1 q2 q3 q4 q5; obtain ⟨q0, q1, q2, q3, q4⟩ := rosC_cells BR4.out; have q5 : w4.cell? ⟨gg, 0, none⟩ = some (.int .i64 gate) := (blk_cell BG4.out 0).trans rfl; clear hb_) | (go_at_call 89; refine (hturns _ (hR.out.below HB4.out) (IntsAt.below hL.out HB4.out)).mono ?_; rintro e w5 ⟨rfl, hb_⟩; have HB5 := Aside0.mk (below_step HB4.out hb_); have BR5 := Aside0.mk (blk_below BR4.out hb_); have BG5 := Aside0.mk (blk_below BG4.out hb_); clear q0 q1 q2 q3 q4 q5; obtain ⟨q0, q1, q2, q3, q4⟩ := rosC_cells BR5.out; have q5 : w5.cell? ⟨gg, 0, none⟩ = some (.int .i64 gate) := (blk_cell BG5.out 0).trans rfl; clear hb_) | (go_at_call 90; refine (hdiff _ (IntsAt.below hL.out HB5.out)).mono ?_; rintro e w' ⟨rfl, rfl⟩) | (go_at_call 43; refine (hgate _ gr gg (IntsAt.below hL.out HB5.out) ⟨A, c, T, d, BR5.out, hR.out.below HB5.out⟩ BG5.out).mono ?_; rintro e w6 ⟨rfl, hb_⟩; have HB6 := Aside0.mk (below_step HB5.out hb_); have BR6 := Aside0.mk (blk_below BR5.out hb_); have BG6 := Aside0.mk (blk_below BG5.out hb_); clear q0 q1 q2 q3 q4 q5; obtain ⟨q0, q1, q2, q3, q4⟩ := rosC_cells BR6.out; have q5 : w6.cell? ⟨gg, 0, none⟩ = some (.int .i64 gate) := (blk_cell BG6.out 0).trans rfl; clear hb_))
    go_ret
    exact ⟨rfl, HB4.out⟩
end Go.Proofs.YtflolfbkpjgjaaaGreatDoor
end
section
namespace Go.Proofs.YtflolfbkpjgjaaaGreatDoor
open Go.RowKit Go.Proofs.YtflolfbkpjgjaaaGreatDoorW.PrintWords
open Go.Proofs.YtflolfbkpjgjaaaGreatDoorW.PrintMore
set_option maxHeartbeats 2000000 in
set_option maxRecDepth 100000 in
theorem gd1_calls (i : Int) (bb bs : Nat) (r : Ros) (lv : Value) (shown : List Int) (w : World) (V : Valid r) (hb : BoxAt w bb r) (hs : w.heap[bs]? = some (.cells #[lv] 26 (0, 0))) (hl : IntsAt w lv shown) (hlen : shown.length = r.ahead.length) (i0 : 0 ≤ i) (i1 : i < r.turns.length) :
    Calls Tryz.prog 118 #[.int .i64 i, .pointer (some ⟨bb, 0, none⟩), .pointer (some ⟨bs, 0, none⟩)] w fun e w' => e = .returned (.bool (guardB (tn r i) shown)) ∧ Below w.heap.size w w' := by
  obtain ⟨A, c, T, d, h1, h2⟩ := hb.ex
  obtain ⟨q0, q1, q2, q3, q4⟩ := rosC_cells h1
  obtain ⟨A', c', T', d', e, h21, h22, h23, h24⟩ := h2
  cases e
  obtain ⟨ad, hAd, g0, g1, g2, g3, g4, g5⟩ := CT_at h24 i i0 i1
  cases hAd
  have vt := V.turn i i0 i1
  have HT : Aside0 (r.turns.getD i.toNat Trn.z = tn r i) := ⟨rfl⟩
  rw [HT.out] at g0 g1 g2 g3 g4 g5
  clear HT
  have HBK := Aside0.mk h1
  have HBS := Aside0.mk hs
  have hg := fun W (hW : Below w.heap.size w W) => guards_calls (tn r i) lv shown W (IntsAt.below hl hW) vt.2.1.1 (by rw [hlen]; exact vt.2.1.2) vt.2.2.1.1 (by rw [hlen]; exact vt.2.2.1.2)
  obtain ⟨A1, c1, rfl, hc1, hl1⟩ := hl
  have q5 : w.cell? ⟨bs, 0, none⟩ = some (.slice A1 shown.length c1) := (blk_cell hs 0).trans rfl
  clear h1 h23 h24 hb hl1 V vt hs hlen
  generalize guardB (tn r i) shown = gb at *
  generalize tn r i = t at *
  generalize shown.length = n at *
  go_enter Tryz.func118, Tryz.ntmps118
  go_wp2
  go_region_held3 (fun w' => w'.cell? ⟨bb, 4, none⟩ = some (.slice (some ad) r.turns.length d) ∧ w'.cell? ⟨bs, 0, none⟩ = some (.slice A1 n c1) ∧ w'.cell? (ad.add (i.toNat * 6)) = some (.int .i64 t.gate) ∧ w'.cell? ⟨(ad.add (i.toNat * 6)).block, (ad.add (i.toNat * 6)).off + 1, none⟩ = some (.int .i64 t.clock) ∧ w'.cell? ⟨(ad.add (i.toNat * 6)).block, (ad.add (i.toNat * 6)).off + 2, none⟩ = some (.int .i64 t.frm) ∧ w'.cell? ⟨(ad.add (i.toNat * 6)).block, (ad.add (i.toNat * 6)).off + 3, none⟩ = some (.int .i64 t.clock2) ∧ w'.cell? ⟨(ad.add (i.toNat * 6)).block, (ad.add (i.toNat * 6)).off + 4, none⟩ = some (.int .i64 t.til) ∧ w'.cell? ⟨(ad.add (i.toNat * 6)).block, (ad.add (i.toNat * 6)).off + 5, none⟩ = some (.int .i64 t.cost)) (go_keep) (first | (go_at_call 119; refine (hg _ (below_drew (Below.refl _ _))).mono ?_; rintro e w5 ⟨rfl, hb_⟩; have HB5 := Aside0.mk (below_step (below_drew (Below.refl _ w)) hb_); obtain ⟨s0, s1, s2, s3, s4⟩ := rosC_cells (blk_below (w := w.drew) HBK.out hb_); have s5 : w5.cell? ⟨bs, 0, none⟩ = some (.slice A1 n c1) := (blk_cell (blk_below (w := w.drew) HBS.out hb_) 0).trans rfl; have t0 := pw_cell_below (w := w.drew) hb_ g0; have t1 := pw_cell_below (w := w.drew) hb_ g1; have t2 := pw_cell_below (w := w.drew) hb_ g2; have t3 := pw_cell_below (w := w.drew) hb_ g3; have t4 := pw_cell_below (w := w.drew) hb_ g4; have t5 := pw_cell_below (w := w.drew) hb_ g5; clear hb_))
  go_wp2
  go_ret
  exact ⟨rfl, HB5.out⟩
theorem enter118 : CanEnter 118 := Go.Proofs.enters_of Tryz.func118 (by kernel_rfl) rfl
theorem gd1_pred {bb bs : Nat} {r : Ros} {lv : Value} {shown : List Int} {w : World} (V : Valid r) (hb : BoxAt w bb r) (hs : w.heap[bs]? = some (.cells #[lv] 26 (0, 0))) (hl : IntsAt w lv shown) (hlen : shown.length = r.ahead.length) :
    PredIn 118 #[.pointer (some ⟨bb, 0, none⟩), .pointer (some ⟨bs, 0, none⟩)] (fun i => guardB (tn r i) shown) (fun x => 0 ≤ x ∧ x < r.turns.length) w :=
  fun W x hx hW => gd1_calls x bb bs r lv shown W V (hb.below hW) (blk_below hs hW) (hl.below hW) hlen hx.1 hx.2
end Go.Proofs.YtflolfbkpjgjaaaGreatDoor
end
section
namespace Go.Proofs.YtflolfbkpjgjaaaGreatDoor
open Go.RowKit Go.Proofs.YtflolfbkpjgjaaaGreatDoorW.PrintWords
open Go.Proofs.YtflolfbkpjgjaaaGreatDoorW.PrintMore
theorem bareE_zero {r : Ros} {gate : Int} {l : List Int} (h : bareE r gate l = 0) : Valid r ∧ inB gate 0 (r.gates - 1) = true ∧ (∀ x ∈ l, 0 ≤ x ∧ x < r.turns.length) ∧ bareB r gate l = true ∧ l.length ≤ 8 := by
  unfold bareE at h
  cases hc : (gatedE r gate != 0)
  · obtain ⟨V, hg⟩ := gatedE_zero hc
    rw [hc, if_neg (by simp)] at h
    cases hb : bareB r gate l
    · rw [hb] at h; cases h
    · rw [hb, if_pos rfl] at h
      refine ⟨V, hg, ?_, rfl, ?_⟩
      · unfold bareB at hb
        rw [Bool.and_eq_true, Bool.not_eq_true'] at hb
        exact outB_all hb.1
      · cases h8 : decide ((8 : Int) < (l.length : Int))
        · have := of_decide_eq_false h8
          omega
        · rw [h8] at h; cases h
  · rw [hc, if_pos rfl] at h
    rw [h] at hc
    cases hc
def caseB (r : Ros) (l shown : List Int) : Bool := momB r shown && (inB (sh shown 0) r.frm (r.til - 1) && !(l.any fun i => guardB (tn r i) shown))
def checkBareE (r : Ros) (gate : Int) (l shown : List Int) : Int := if bareE r gate l != 0 then bareE r gate l else if shownB r shown then if caseB r l shown then 0 else 61 else 1
set_option maxHeartbeats 4000000 in
set_option maxRecDepth 100000 in
theorem checkBare_calls (v lv sv : Value) (r : Ros) (gate : Int) (l shown : List Int) (w : World) (hv : RosAt w v r) (hl : IntsAt w lv l) (hs : IntsAt w sv shown) :
    Calls Tryz.prog 33 #[v, .int .i64 gate, lv, sv] w fun e w' => e = .returned (.int .i64 (checkBareE r gate l shown)) ∧ Below w.heap.size w w' := by
  have hR := Aside0.mk hv
  obtain ⟨A, c, T, d, rfl, h1, h2, h3, h4⟩ := hv
  clear h3 h4
  have hL := Aside0.mk hl
  have hS := Aside0.mk hs
  have hbare := fun w (h : RosAt w (.agg (rosC r A c T d)) r) (h2 : IntsAt w lv l) => bareE_calls (.agg (rosC r A c T d)) lv r gate l w h h2
  have hshown := fun w (h : RosAt w (.agg (rosC r A c T d)) r) (h2 : IntsAt w sv shown) => isShown_calls (.agg (rosC r A c T d)) sv r shown w h h2
  have hmom := fun (V : Valid r) (h : shownB r shown = true) w (h1 : RosAt w (.agg (rosC r A c T d)) r) (h2 : IntsAt w sv shown) => isMoment_calls (.agg (rosC r A c T d)) sv r shown w V h1 h2 ((shownB_iff r shown).1 h).1 ((shownB_iff r shown).1 h).2
  have hguard := fun (V : Valid r) (h : shownB r shown = true) (hin : ∀ x ∈ l, 0 ≤ x ∧ x < r.turns.length) w b bs (h1 : IntsAt w lv l) (h2 : IntsAt w sv shown) (h3 : BoxAt w b r) (h4 : w.heap[bs]? = some (.cells #[sv] 26 (0, 0))) => containsL_calls lv l 118 #[.pointer (some ⟨b, 0, none⟩), .pointer (some ⟨bs, 0, none⟩)] (fun i => guardB (tn r i) shown) w enter118 h1 ((gd1_pred V h3 h4 h2 ((shownB_iff r shown).1 h).1).mono hin)
  have hz := fun h => bareE_zero (r := r) (gate := gate) (l := l) h
  have hsi := (shownB_iff r shown).1
  obtain ⟨A1, c1, rfl, hc1, hl1⟩ := hs
  have hbig := hl1.2.1
  have hmf : ∀ (fn : Fn) (first cap : Array Value) (w : World), (Instr.makeFunc fn first cap).run Tryz.prog w = .ok (.func fn first cap) w := fun _ _ _ _ => rfl
  unfold checkBareE
  generalize hge : bareE r gate l = ge at *
  cases hc : (ge != 0)
  · have e0 : ge = 0 := by simpa using hc
    subst e0
    obtain ⟨V, hg, hin, _, _⟩ := hz rfl
    have hmom2 := hmom V
    have hguard2 := fun h => hguard V h hin
    have vf := V.frm
    have vt := V.til
    have vft := V.frmtil
    have vc := V.clocks
    clear hz hc hg hin hmom hguard hge
    cases hsh : shownB r shown
    · rw [hsh] at hshown
      clear hmom2 hguard2 V hsi
      go_enter Tryz.func33, Tryz.ntmps33
      go_wp2_with (first | ((with_reducible refine gate_dst (N := 4) rfl ?_); refine box_event ?hg (N := 4) ?hd (cs := rosC r A c T d) (t := 25) ?hr ?_; (case hd => rfl); (case hg => rfl); (case hr => first | (go_simp; done) | (go_simp; rfl)); intro gr hgr w1 hbox_ hb_; have BR1 := Aside0.mk hbox_; have Hgr := Aside0.mk hgr; have HB1 := Aside0.mk hb_; clear hbox_ hb_ hgr) | ((with_reducible refine gate_dst (N := 7) rfl ?_); refine box_event ?hg (N := 7) ?hd (cs := #[.slice A1 shown.length c1]) (t := 26) ?hr ?_; (case hd => rfl); (case hg => rfl); (case hr => first | (go_simp; done) | (go_simp; rfl)); intro gs hgs w3 hbox_ hb_; have BS3 := Aside0.mk hbox_; have Hgs := Aside0.mk hgs; have HB3 := Aside0.mk (below_step HB1.out hb_); have BR3 := Aside0.mk (blk_below BR1.out hb_); obtain ⟨q0, q1, q2, q3, q4⟩ := rosC_cells BR3.out; have q5 : w3.cell? ⟨gs, 0, none⟩ = some (.slice A1 shown.length c1) := (blk_cell hbox_ 0).trans rfl; clear hbox_ hb_ hgs) | (go_at_call 108; refine (hbare _ (hR.out.below HB3.out) (IntsAt.below hL.out HB3.out)).mono ?_; rintro e w4 ⟨rfl, hb_⟩; have HB4 := Aside0.mk (below_step HB3.out hb_); have BR4 := Aside0.mk (blk_below BR3.out hb_); have BS4 := Aside0.mk (blk_below BS3.out hb_); clear q0 q1 q2 q3 q4 q5; obtain ⟨q0, q1, q2, q3, q4⟩ := rosC_cells BR4.out; have q5 : w4.cell? ⟨gs, 0, none⟩ = some (.slice A1 shown.length c1) := (blk_cell BS4.out 0).trans rfl; clear hb_) | (go_at_call 116; refine (hshown _ (hR.out.below HB4.out) (IntsAt.below hS.out HB4.out)).mono ?_; rintro e w5 ⟨rfl, hb_⟩; have HB5 := Aside0.mk (below_step HB4.out hb_); have BR5 := Aside0.mk (blk_below BR4.out hb_); have BS5 := Aside0.mk (blk_below BS4.out hb_); clear q0 q1 q2 q3 q4 q5; obtain ⟨q0, q1, q2, q3, q4⟩ := rosC_cells BR5.out; have q5 : w5.cell? ⟨gs, 0, none⟩ = some (.slice A1 shown.length c1) := (blk_cell BS5.out 0).trans rfl; clear hb_))
      go_ret
      exact ⟨rfl, HB5.out⟩
    · have hmom := hmom2 hsh
      have hguard := hguard2 hsh
      have hlen := (hsi hsh).1
      rw [hsh] at hshown
      clear hmom2 hguard2 hsi hsh
      have n1 : 0 < shown.length := by rw [hlen]; omega
      have n0 : (0 : Int) < (shown.length : Int) := by rw [hlen]; omega
      obtain ⟨ads, hAs, s1⟩ := CI_at hl1 0 (Int.le_refl _) n0
      cases hAs
      rw [show ((0 : Int)).toNat = 0 from rfl] at s1
      rw [show ads.add 0 = ads by simp [Addr.add]] at s1
      change w.cell? ads = some (.int .i64 (sh shown 0)) at s1
      have SB := Aside0.mk (World.block_lt_of_cell? w _ s1)
      have SC := Aside0.mk s1
      clear hl1 s1 V hlen
      unfold caseB
      generalize momB r shown = m1 at *
      generalize sh shown 0 = s0 at *
      have hw1 : IntKind.i64.wrap (r.til - 1) = r.til - 1 := IntWalk.i64_in _ (by omega)
      have hwit := fun w => within_in s0 r.frm (r.til - 1) w
      generalize inB s0 r.frm (r.til - 1) = m2 at *
      generalize (l.any fun i => guardB (tn r i) shown) = m3 at *
      cases m1
      · go_enter Tryz.func33, Tryz.ntmps33
        go_wp2_with (first | ((with_reducible refine gate_dst (N := 4) rfl ?_); refine box_event ?hg (N := 4) ?hd (cs := rosC r A c T d) (t := 25) ?hr ?_; (case hd => rfl); (case hg => rfl); (case hr => first | (go_simp; done) | (go_simp; rfl)); intro gr hgr w1 hbox_ hb_; have BR1 := Aside0.mk hbox_; have Hgr := Aside0.mk hgr; have HB1 := Aside0.mk hb_; clear hbox_ hb_ hgr) | ((with_reducible refine gate_dst (N := 7) rfl ?_); refine box_event ?hg (N := 7) ?hd (cs := #[.slice (some ads) shown.length c1]) (t := 26) ?hr ?_; (case hd => rfl); (case hg => rfl); (case hr => first | (go_simp; done) | (go_simp; rfl)); intro gs hgs w3 hbox_ hb_; have BS3 := Aside0.mk hbox_; have Hgs := Aside0.mk hgs; have HB3 := Aside0.mk (below_step HB1.out hb_); have BR3 := Aside0.mk (blk_below BR1.out hb_); obtain ⟨q0, q1, q2, q3, q4⟩ := rosC_cells BR3.out; have q5 : w3.cell? ⟨gs, 0, none⟩ = some (.slice (some ads) shown.length c1) := (blk_cell hbox_ 0).trans rfl; clear hbox_ hb_ hgs) | (go_at_call 108; refine (hbare _ (hR.out.below HB3.out) (IntsAt.below hL.out HB3.out)).mono ?_; rintro e w4 ⟨rfl, hb_⟩; have HB4 := Aside0.mk (below_step HB3.out hb_); have BR4 := Aside0.mk (blk_below BR3.out hb_); have BS4 := Aside0.mk (blk_below BS3.out hb_); clear q0 q1 q2 q3 q4 q5; obtain ⟨q0, q1, q2, q3, q4⟩ := rosC_cells BR4.out; have q5 : w4.cell? ⟨gs, 0, none⟩ = some (.slice (some ads) shown.length c1) := (blk_cell BS4.out 0).trans rfl; clear hb_) | (go_at_call 116; refine (hshown _ (hR.out.below HB4.out) (IntsAt.below hS.out HB4.out)).mono ?_; rintro e w5 ⟨rfl, hb_⟩; have HB5 := Aside0.mk (below_step HB4.out hb_); have BR5 := Aside0.mk (blk_below BR4.out hb_); have BS5 := Aside0.mk (blk_below BS4.out hb_); clear q0 q1 q2 q3 q4 q5; obtain ⟨q0, q1, q2, q3, q4⟩ := rosC_cells BR5.out; have q5 : w5.cell? ⟨gs, 0, none⟩ = some (.slice (some ads) shown.length c1) := (blk_cell BS5.out 0).trans rfl; clear hb_))
        have p_ := (HB5.out.cell SB.out).trans SC.out
        refine wp_region_held_drew (S := (fun w' => (w'.cell? ⟨gr, 0, none⟩ = some (.int .i64 r.gates) ∧ w'.cell? ⟨gr, 1, none⟩ = some (.int .i64 r.frm) ∧ w'.cell? ⟨gr, 2, none⟩ = some (.int .i64 r.til) ∧ w'.cell? ⟨gr, 3, none⟩ = some (.slice A r.ahead.length c) ∧ w'.cell? ⟨gr, 4, none⟩ = some (.slice T r.turns.length d)) ∧ w'.cell? ⟨gs, 0, none⟩ = some (.slice (some ads) shown.length c1) ∧ w'.cell? ads = some (.int .i64 s0))) (by kernel_rfl) ?_ (fun hH0 => ?_)
        · go_keep
        refine wpAnyH_take (i := 0) (oi := { dst := some 21, op := Op.load 25 (Operand.tmp 4), type := 25, pos := "plan.go:358", after := #[], guard := none }) (v := ?_) rfl (by kernel_rfl) (by kernel_rfl) (by kernel_rfl) (fun _ _ _ h => h) (Or.inl ⟨by rfl, ?_⟩) hH0 ?_
        rotate_left
        · (intro w hSw; (try dsimp only at hSw); go_simp <;> (with_reducible rfl))
        try simp only [Act.put, List.setIfInBounds_toArray, List.set_cons_zero, List.set_cons_succ]
        refine wpAnyH_take (i := 1) (oi := { dst := some 22, op := Op.load 26 (Operand.tmp 7), type := 26, pos := "plan.go:358", after := #[], guard := none }) (v := ?_) rfl (by kernel_rfl) (by kernel_rfl) (by kernel_rfl) (fun _ _ _ h => h) (Or.inl ⟨by rfl, ?_⟩) hH0 ?_
        rotate_left
        · (intro w hSw; (try dsimp only at hSw); go_simp <;> (with_reducible rfl))
        try simp only [Act.put, List.setIfInBounds_toArray, List.set_cons_zero, List.set_cons_succ]
        refine wpAnyH_ready (rs := [2]) (by kernel_rfl) (by simp) (AllReadyH.cons (o := { dst := some 23, op := Op.call { callee := Callee.value (Operand.func 117), args := #[Operand.tmp 21, Operand.tmp 22], argTypes := #[25, 26] }, type := 4, pos := "plan.go:358", after := #[{ on := 0, ground := Ground.data }, { on := 1, ground := Ground.data }], guard := none }) rfl (fun K' hK' => ?_) AllReadyH.nil)
        go_simp
        go_at_call 117; refine (hmom _ (hR.out.below (below_drew HB5.out)) (IntsAt.below hS.out (below_drew HB5.out))).mono ?_; rintro e w6 ⟨rfl, hb_⟩; have HB6 := Aside0.mk (below_step (below_drew HB5.out) hb_); have BR6 := Aside0.mk (blk_below (w := w5.drew) BR5.out hb_); have BS6 := Aside0.mk (blk_below (w := w5.drew) BS5.out hb_); obtain ⟨u0, u1, u2, u3, u4⟩ := rosC_cells BR6.out; have u5 : w6.cell? ⟨gs, 0, none⟩ = some (.slice (some ads) shown.length c1) := (blk_cell BS6.out 0).trans rfl; have u6 := (HB6.out.cell SB.out).trans SC.out; clear hb_
        refine hK'.out _ _ (by go_keep) (fun hH1 => ?_)
        clear hK' K'
        try simp only [Act.put, List.setIfInBounds_toArray, List.set_cons_zero, List.set_cons_succ]
        refine wpAnyH_take (i := 3) (oi := { dst := some 24, op := Op.unOp UnOp.not 4 (Operand.tmp 23), type := 4, pos := "plan.go:358", after := #[{ on := 2, ground := Ground.data }], guard := none }) (v := ?_) rfl (by kernel_rfl) (by kernel_rfl) (by kernel_rfl) (fun _ _ _ h => h) (Or.inl ⟨by rfl, ?_⟩) hH1 ?_
        rotate_left
        · (intro w hSw; (try dsimp only at hSw); go_simp <;> (with_reducible rfl))
        try simp only [Act.put, List.setIfInBounds_toArray, List.set_cons_zero, List.set_cons_succ]
        refine wpAnyH_take (i := 4) (oi := { dst := some 25, op := Op.move (Operand.tmp 24), type := 4, pos := "plan.go:358", after := #[{ on := 3, ground := Ground.data }, { on := 2, ground := Ground.chain }], guard := none }) (v := ?_) rfl (by kernel_rfl) (by kernel_rfl) (by kernel_rfl) (fun _ _ _ h => h) (Or.inl ⟨by rfl, ?_⟩) hH1 ?_
        rotate_left
        · (intro w hSw; (try dsimp only at hSw); go_simp <;> (with_reducible rfl))
        try simp only [Act.put, List.setIfInBounds_toArray, List.set_cons_zero, List.set_cons_succ]
        refine wpAnyH_take (i := 5) (oi := { dst := some 26, op := Op.load 26 (Operand.tmp 7), type := 26, pos := "plan.go:358", after := #[{ on := 4, ground := Ground.guard }], guard := some (4, false) }) (v := undef) rfl (by kernel_rfl) (by kernel_rfl) (by kernel_rfl) (fun _ _ _ h => h) (Or.inr ⟨by rfl, rfl⟩) hH1 ?_
        try simp only [Act.put, List.setIfInBounds_toArray, List.set_cons_zero, List.set_cons_succ]
        refine wpAnyH_take (i := 6) (oi := { dst := some 27, op := Op.indexAddr 26 (Operand.tmp 26) (Operand.const (Value.int IntKind.i64 0)), type := 0, pos := "plan.go:358", after := #[{ on := 5, ground := Ground.data }, { on := 4, ground := Ground.guard }], guard := some (4, false) }) (v := undef) rfl (by kernel_rfl) (by kernel_rfl) (by kernel_rfl) (fun _ _ _ h => h) (Or.inr ⟨by rfl, rfl⟩) hH1 ?_
        try simp only [Act.put, List.setIfInBounds_toArray, List.set_cons_zero, List.set_cons_succ]
        refine wpAnyH_take (i := 7) (oi := { dst := some 28, op := Op.load 3 (Operand.tmp 27), type := 3, pos := "plan.go:358", after := #[{ on := 6, ground := Ground.data }, { on := 4, ground := Ground.guard }], guard := some (4, false) }) (v := undef) rfl (by kernel_rfl) (by kernel_rfl) (by kernel_rfl) (fun _ _ _ h => h) (Or.inr ⟨by rfl, rfl⟩) hH1 ?_
        try simp only [Act.put, List.setIfInBounds_toArray, List.set_cons_zero, List.set_cons_succ]
        refine wpAnyH_take (i := 8) (oi := { dst := some 29, op := Op.fieldAddr 25 (Operand.tmp 4) 1, type := 0, pos := "plan.go:358", after := #[{ on := 4, ground := Ground.guard }], guard := some (4, false) }) (v := undef) rfl (by kernel_rfl) (by kernel_rfl) (by kernel_rfl) (fun _ _ _ h => h) (Or.inr ⟨by rfl, rfl⟩) hH1 ?_
        try simp only [Act.put, List.setIfInBounds_toArray, List.set_cons_zero, List.set_cons_succ]
        refine wpAnyH_take (i := 9) (oi := { dst := some 30, op := Op.load 3 (Operand.tmp 29), type := 3, pos := "plan.go:358", after := #[{ on := 8, ground := Ground.data }, { on := 4, ground := Ground.guard }], guard := some (4, false) }) (v := undef) rfl (by kernel_rfl) (by kernel_rfl) (by kernel_rfl) (fun _ _ _ h => h) (Or.inr ⟨by rfl, rfl⟩) hH1 ?_
        try simp only [Act.put, List.setIfInBounds_toArray, List.set_cons_zero, List.set_cons_succ]
        refine wpAnyH_take (i := 10) (oi := { dst := some 31, op := Op.fieldAddr 25 (Operand.tmp 4) 2, type := 0, pos := "plan.go:358", after := #[{ on := 4, ground := Ground.guard }], guard := some (4, false) }) (v := undef) rfl (by kernel_rfl) (by kernel_rfl) (by kernel_rfl) (fun _ _ _ h => h) (Or.inr ⟨by rfl, rfl⟩) hH1 ?_
        try simp only [Act.put, List.setIfInBounds_toArray, List.set_cons_zero, List.set_cons_succ]
        refine wpAnyH_take (i := 11) (oi := { dst := some 32, op := Op.load 3 (Operand.tmp 31), type := 3, pos := "plan.go:358", after := #[{ on := 10, ground := Ground.data }, { on := 4, ground := Ground.guard }], guard := some (4, false) }) (v := undef) rfl (by kernel_rfl) (by kernel_rfl) (by kernel_rfl) (fun _ _ _ h => h) (Or.inr ⟨by rfl, rfl⟩) hH1 ?_
        try simp only [Act.put, List.setIfInBounds_toArray, List.set_cons_zero, List.set_cons_succ]
        refine wpAnyH_take (i := 12) (oi := { dst := some 33, op := Op.binOp BinOp.sub 3 (Operand.tmp 32) (Operand.const (Value.int IntKind.i64 1)) 3, type := 3, pos := "plan.go:358", after := #[{ on := 11, ground := Ground.data }, { on := 4, ground := Ground.guard }], guard := some (4, false) }) (v := undef) rfl (by kernel_rfl) (by kernel_rfl) (by kernel_rfl) (fun _ _ _ h => h) (Or.inr ⟨by rfl, rfl⟩) hH1 ?_
        try simp only [Act.put, List.setIfInBounds_toArray, List.set_cons_zero, List.set_cons_succ]
        refine wpAnyH_take (i := 13) (oi := { dst := some 34, op := Op.call { callee := Callee.value (Operand.func 103), args := #[Operand.tmp 28, Operand.tmp 30, Operand.tmp 33], argTypes := #[3, 3, 3] }, type := 4, pos := "plan.go:358", after := #[{ on := 7, ground := Ground.data }, { on := 9, ground := Ground.data }, { on := 12, ground := Ground.data }, { on := 4, ground := Ground.chain }, { on := 4, ground := Ground.guard }], guard := some (4, false) }) (v := undef) rfl (by kernel_rfl) (by kernel_rfl) (by kernel_rfl) (fun _ _ _ h => h) (Or.inr ⟨by rfl, rfl⟩) hH1 ?_
        try simp only [Act.put, List.setIfInBounds_toArray, List.set_cons_zero, List.set_cons_succ]
        refine wpAnyH_take (i := 14) (oi := { dst := some 35, op := Op.unOp UnOp.not 4 (Operand.tmp 34), type := 4, pos := "plan.go:358", after := #[{ on := 13, ground := Ground.data }, { on := 4, ground := Ground.guard }], guard := some (4, false) }) (v := undef) rfl (by kernel_rfl) (by kernel_rfl) (by kernel_rfl) (fun _ _ _ h => h) (Or.inr ⟨by rfl, rfl⟩) hH1 ?_
        try simp only [Act.put, List.setIfInBounds_toArray, List.set_cons_zero, List.set_cons_succ]
        refine wpAnyH_take (i := 15) (oi := { dst := some 36, op := Op.pick (Operand.tmp 25) (Operand.const (Value.bool true)) (Operand.tmp 35), type := 4, pos := "plan.go:358", after := #[{ on := 4, ground := Ground.data }, { on := 14, ground := Ground.data }], guard := none }) (v := ?_) rfl (by kernel_rfl) (by kernel_rfl) (by kernel_rfl) (fun _ _ _ h => h) (Or.inl ⟨by rfl, ?_⟩) hH1 ?_
        rotate_left
        · (intro w hSw; (try dsimp only at hSw); go_simp <;> (with_reducible rfl))
        try simp only [Act.put, List.setIfInBounds_toArray, List.set_cons_zero, List.set_cons_succ]
        refine wpAnyH_take (i := 16) (oi := { dst := some 37, op := Op.move (Operand.tmp 36), type := 4, pos := "plan.go:358", after := #[{ on := 15, ground := Ground.data }, { on := 13, ground := Ground.chain }], guard := none }) (v := ?_) rfl (by kernel_rfl) (by kernel_rfl) (by kernel_rfl) (fun _ _ _ h => h) (Or.inl ⟨by rfl, ?_⟩) hH1 ?_
        rotate_left
        · (intro w hSw; (try dsimp only at hSw); go_simp <;> (with_reducible rfl))
        try simp only [Act.put, List.setIfInBounds_toArray, List.set_cons_zero, List.set_cons_succ]
        refine wpAnyH_take (i := 17) (oi := { dst := some 38, op := Op.move (Operand.tmp 2), type := 26, pos := "plan.go:358", after := #[{ on := 16, ground := Ground.guard }], guard := some (16, false) }) (v := undef) rfl (by kernel_rfl) (by kernel_rfl) (by kernel_rfl) (fun _ _ _ h => h) (Or.inr ⟨by rfl, rfl⟩) hH1 ?_
        try simp only [Act.put, List.setIfInBounds_toArray, List.set_cons_zero, List.set_cons_succ]
        refine wpAnyH_take (i := 18) (oi := { dst := some 39, op := Op.makeFunc (Fn.func 118) #[] #[Operand.tmp 4, Operand.tmp 7], type := 55, pos := "plan.go:358", after := #[{ on := 16, ground := Ground.guard }], guard := some (16, false) }) (v := undef) rfl (by kernel_rfl) (by kernel_rfl) (by kernel_rfl) (fun _ _ _ h => h) (Or.inr ⟨by rfl, rfl⟩) hH1 ?_
        try simp only [Act.put, List.setIfInBounds_toArray, List.set_cons_zero, List.set_cons_succ]
        refine wpAnyH_take (i := 19) (oi := { dst := some 40, op := Op.call { callee := Callee.value (Operand.func 43), args := #[Operand.tmp 38, Operand.tmp 39], argTypes := #[26, 55] }, type := 4, pos := "plan.go:358", after := #[{ on := 17, ground := Ground.data }, { on := 18, ground := Ground.data }, { on := 16, ground := Ground.chain }, { on := 16, ground := Ground.guard }], guard := some (16, false) }) (v := undef) rfl (by kernel_rfl) (by kernel_rfl) (by kernel_rfl) (fun _ _ _ h => h) (Or.inr ⟨by rfl, rfl⟩) hH1 ?_
        try simp only [Act.put, List.setIfInBounds_toArray, List.set_cons_zero, List.set_cons_succ]
        refine wpAnyH_take (i := 20) (oi := { dst := some 41, op := Op.pick (Operand.tmp 37) (Operand.const (Value.bool true)) (Operand.tmp 40), type := 4, pos := "plan.go:358", after := #[{ on := 16, ground := Ground.data }, { on := 19, ground := Ground.data }], guard := none }) (v := ?_) rfl (by kernel_rfl) (by kernel_rfl) (by kernel_rfl) (fun _ _ _ h => h) (Or.inl ⟨by rfl, ?_⟩) hH1 ?_
        rotate_left
        · (intro w hSw; (try dsimp only at hSw); go_simp <;> (with_reducible rfl))
        try simp only [Act.put, List.setIfInBounds_toArray, List.set_cons_zero, List.set_cons_succ]
        refine wpAnyH_done (by kernel_rfl) ?_ _
        go_wp2
        go_ret
        exact ⟨rfl, HB6.out⟩
      · cases m2
        · go_enter Tryz.func33, Tryz.ntmps33
          go_wp2_with (first | ((with_reducible refine gate_dst (N := 4) rfl ?_); refine box_event ?hg (N := 4) ?hd (cs := rosC r A c T d) (t := 25) ?hr ?_; (case hd => rfl); (case hg => rfl); (case hr => first | (go_simp; done) | (go_simp; rfl)); intro gr hgr w1 hbox_ hb_; have BR1 := Aside0.mk hbox_; have Hgr := Aside0.mk hgr; have HB1 := Aside0.mk hb_; clear hbox_ hb_ hgr) | ((with_reducible refine gate_dst (N := 7) rfl ?_); refine box_event ?hg (N := 7) ?hd (cs := #[.slice (some ads) shown.length c1]) (t := 26) ?hr ?_; (case hd => rfl); (case hg => rfl); (case hr => first | (go_simp; done) | (go_simp; rfl)); intro gs hgs w3 hbox_ hb_; have BS3 := Aside0.mk hbox_; have Hgs := Aside0.mk hgs; have HB3 := Aside0.mk (below_step HB1.out hb_); have BR3 := Aside0.mk (blk_below BR1.out hb_); obtain ⟨q0, q1, q2, q3, q4⟩ := rosC_cells BR3.out; have q5 : w3.cell? ⟨gs, 0, none⟩ = some (.slice (some ads) shown.length c1) := (blk_cell hbox_ 0).trans rfl; clear hbox_ hb_ hgs) | (go_at_call 108; refine (hbare _ (hR.out.below HB3.out) (IntsAt.below hL.out HB3.out)).mono ?_; rintro e w4 ⟨rfl, hb_⟩; have HB4 := Aside0.mk (below_step HB3.out hb_); have BR4 := Aside0.mk (blk_below BR3.out hb_); have BS4 := Aside0.mk (blk_below BS3.out hb_); clear q0 q1 q2 q3 q4 q5; obtain ⟨q0, q1, q2, q3, q4⟩ := rosC_cells BR4.out; have q5 : w4.cell? ⟨gs, 0, none⟩ = some (.slice (some ads) shown.length c1) := (blk_cell BS4.out 0).trans rfl; clear hb_) | (go_at_call 116; refine (hshown _ (hR.out.below HB4.out) (IntsAt.below hS.out HB4.out)).mono ?_; rintro e w5 ⟨rfl, hb_⟩; have HB5 := Aside0.mk (below_step HB4.out hb_); have BR5 := Aside0.mk (blk_below BR4.out hb_); have BS5 := Aside0.mk (blk_below BS4.out hb_); clear q0 q1 q2 q3 q4 q5; obtain ⟨q0, q1, q2, q3, q4⟩ := rosC_cells BR5.out; have q5 : w5.cell? ⟨gs, 0, none⟩ = some (.slice (some ads) shown.length c1) := (blk_cell BS5.out 0).trans rfl; clear hb_))
          have p_ := (HB5.out.cell SB.out).trans SC.out
          refine wp_region_held_drew (S := (fun w' => (w'.cell? ⟨gr, 0, none⟩ = some (.int .i64 r.gates) ∧ w'.cell? ⟨gr, 1, none⟩ = some (.int .i64 r.frm) ∧ w'.cell? ⟨gr, 2, none⟩ = some (.int .i64 r.til) ∧ w'.cell? ⟨gr, 3, none⟩ = some (.slice A r.ahead.length c) ∧ w'.cell? ⟨gr, 4, none⟩ = some (.slice T r.turns.length d)) ∧ w'.cell? ⟨gs, 0, none⟩ = some (.slice (some ads) shown.length c1) ∧ w'.cell? ads = some (.int .i64 s0))) (by kernel_rfl) ?_ (fun hH0 => ?_)
          · go_keep
          refine wpAnyH_take (i := 0) (oi := { dst := some 21, op := Op.load 25 (Operand.tmp 4), type := 25, pos := "plan.go:358", after := #[], guard := none }) (v := ?_) rfl (by kernel_rfl) (by kernel_rfl) (by kernel_rfl) (fun _ _ _ h => h) (Or.inl ⟨by rfl, ?_⟩) hH0 ?_
          rotate_left
          · (intro w hSw; (try dsimp only at hSw); go_simp <;> (with_reducible rfl))
          try simp only [Act.put, List.setIfInBounds_toArray, List.set_cons_zero, List.set_cons_succ]
          refine wpAnyH_take (i := 1) (oi := { dst := some 22, op := Op.load 26 (Operand.tmp 7), type := 26, pos := "plan.go:358", after := #[], guard := none }) (v := ?_) rfl (by kernel_rfl) (by kernel_rfl) (by kernel_rfl) (fun _ _ _ h => h) (Or.inl ⟨by rfl, ?_⟩) hH0 ?_
          rotate_left
          · (intro w hSw; (try dsimp only at hSw); go_simp <;> (with_reducible rfl))
          try simp only [Act.put, List.setIfInBounds_toArray, List.set_cons_zero, List.set_cons_succ]
          refine wpAnyH_ready (rs := [2]) (by kernel_rfl) (by simp) (AllReadyH.cons (o := { dst := some 23, op := Op.call { callee := Callee.value (Operand.func 117), args := #[Operand.tmp 21, Operand.tmp 22], argTypes := #[25, 26] }, type := 4, pos := "plan.go:358", after := #[{ on := 0, ground := Ground.data }, { on := 1, ground := Ground.data }], guard := none }) rfl (fun K' hK' => ?_) AllReadyH.nil)
          go_simp
          go_at_call 117; refine (hmom _ (hR.out.below (below_drew HB5.out)) (IntsAt.below hS.out (below_drew HB5.out))).mono ?_; rintro e w6 ⟨rfl, hb_⟩; have HB6 := Aside0.mk (below_step (below_drew HB5.out) hb_); have BR6 := Aside0.mk (blk_below (w := w5.drew) BR5.out hb_); have BS6 := Aside0.mk (blk_below (w := w5.drew) BS5.out hb_); obtain ⟨u0, u1, u2, u3, u4⟩ := rosC_cells BR6.out; have u5 : w6.cell? ⟨gs, 0, none⟩ = some (.slice (some ads) shown.length c1) := (blk_cell BS6.out 0).trans rfl; have u6 := (HB6.out.cell SB.out).trans SC.out; clear hb_
          refine hK'.out _ _ (by go_keep) (fun hH1 => ?_)
          clear hK' K'
          try simp only [Act.put, List.setIfInBounds_toArray, List.set_cons_zero, List.set_cons_succ]
          refine wpAnyH_take (i := 3) (oi := { dst := some 24, op := Op.unOp UnOp.not 4 (Operand.tmp 23), type := 4, pos := "plan.go:358", after := #[{ on := 2, ground := Ground.data }], guard := none }) (v := ?_) rfl (by kernel_rfl) (by kernel_rfl) (by kernel_rfl) (fun _ _ _ h => h) (Or.inl ⟨by rfl, ?_⟩) hH1 ?_
          rotate_left
          · (intro w hSw; (try dsimp only at hSw); go_simp <;> (with_reducible rfl))
          try simp only [Act.put, List.setIfInBounds_toArray, List.set_cons_zero, List.set_cons_succ]
          refine wpAnyH_take (i := 4) (oi := { dst := some 25, op := Op.move (Operand.tmp 24), type := 4, pos := "plan.go:358", after := #[{ on := 3, ground := Ground.data }, { on := 2, ground := Ground.chain }], guard := none }) (v := ?_) rfl (by kernel_rfl) (by kernel_rfl) (by kernel_rfl) (fun _ _ _ h => h) (Or.inl ⟨by rfl, ?_⟩) hH1 ?_
          rotate_left
          · (intro w hSw; (try dsimp only at hSw); go_simp <;> (with_reducible rfl))
          try simp only [Act.put, List.setIfInBounds_toArray, List.set_cons_zero, List.set_cons_succ]
          refine wpAnyH_take (i := 5) (oi := { dst := some 26, op := Op.load 26 (Operand.tmp 7), type := 26, pos := "plan.go:358", after := #[{ on := 4, ground := Ground.guard }], guard := some (4, false) }) (v := ?_) rfl (by kernel_rfl) (by kernel_rfl) (by kernel_rfl) (fun _ _ _ h => h) (Or.inl ⟨by rfl, ?_⟩) hH1 ?_
          rotate_left
          · (intro w hSw; (try dsimp only at hSw); go_simp <;> (with_reducible rfl))
          try simp only [Act.put, List.setIfInBounds_toArray, List.set_cons_zero, List.set_cons_succ]
          refine wpAnyH_take (i := 6) (oi := { dst := some 27, op := Op.indexAddr 26 (Operand.tmp 26) (Operand.const (Value.int IntKind.i64 0)), type := 0, pos := "plan.go:358", after := #[{ on := 5, ground := Ground.data }, { on := 4, ground := Ground.guard }], guard := some (4, false) }) (v := ?_) rfl (by kernel_rfl) (by kernel_rfl) (by kernel_rfl) (fun _ _ _ h => h) (Or.inl ⟨by rfl, ?_⟩) hH1 ?_
          rotate_left
          · (intro w hSw; (try dsimp only at hSw); go_simp <;> (with_reducible rfl))
          try simp only [Act.put, List.setIfInBounds_toArray, List.set_cons_zero, List.set_cons_succ]
          refine wpAnyH_take (i := 7) (oi := { dst := some 28, op := Op.load 3 (Operand.tmp 27), type := 3, pos := "plan.go:358", after := #[{ on := 6, ground := Ground.data }, { on := 4, ground := Ground.guard }], guard := some (4, false) }) (v := ?_) rfl (by kernel_rfl) (by kernel_rfl) (by kernel_rfl) (fun _ _ _ h => h) (Or.inl ⟨by rfl, ?_⟩) hH1 ?_
          rotate_left
          · (intro w hSw; (try dsimp only at hSw); go_simp <;> (with_reducible rfl))
          try simp only [Act.put, List.setIfInBounds_toArray, List.set_cons_zero, List.set_cons_succ]
          refine wpAnyH_take (i := 8) (oi := { dst := some 29, op := Op.fieldAddr 25 (Operand.tmp 4) 1, type := 0, pos := "plan.go:358", after := #[{ on := 4, ground := Ground.guard }], guard := some (4, false) }) (v := ?_) rfl (by kernel_rfl) (by kernel_rfl) (by kernel_rfl) (fun _ _ _ h => h) (Or.inl ⟨by rfl, ?_⟩) hH1 ?_
          rotate_left
          · (intro w hSw; (try dsimp only at hSw); go_simp <;> (with_reducible rfl))
          try simp only [Act.put, List.setIfInBounds_toArray, List.set_cons_zero, List.set_cons_succ]
          refine wpAnyH_take (i := 9) (oi := { dst := some 30, op := Op.load 3 (Operand.tmp 29), type := 3, pos := "plan.go:358", after := #[{ on := 8, ground := Ground.data }, { on := 4, ground := Ground.guard }], guard := some (4, false) }) (v := ?_) rfl (by kernel_rfl) (by kernel_rfl) (by kernel_rfl) (fun _ _ _ h => h) (Or.inl ⟨by rfl, ?_⟩) hH1 ?_
          rotate_left
          · (intro w hSw; (try dsimp only at hSw); go_simp <;> (with_reducible rfl))
          try simp only [Act.put, List.setIfInBounds_toArray, List.set_cons_zero, List.set_cons_succ]
          refine wpAnyH_take (i := 10) (oi := { dst := some 31, op := Op.fieldAddr 25 (Operand.tmp 4) 2, type := 0, pos := "plan.go:358", after := #[{ on := 4, ground := Ground.guard }], guard := some (4, false) }) (v := ?_) rfl (by kernel_rfl) (by kernel_rfl) (by kernel_rfl) (fun _ _ _ h => h) (Or.inl ⟨by rfl, ?_⟩) hH1 ?_
          rotate_left
          · (intro w hSw; (try dsimp only at hSw); go_simp <;> (with_reducible rfl))
          try simp only [Act.put, List.setIfInBounds_toArray, List.set_cons_zero, List.set_cons_succ]
          refine wpAnyH_take (i := 11) (oi := { dst := some 32, op := Op.load 3 (Operand.tmp 31), type := 3, pos := "plan.go:358", after := #[{ on := 10, ground := Ground.data }, { on := 4, ground := Ground.guard }], guard := some (4, false) }) (v := ?_) rfl (by kernel_rfl) (by kernel_rfl) (by kernel_rfl) (fun _ _ _ h => h) (Or.inl ⟨by rfl, ?_⟩) hH1 ?_
          rotate_left
          · (intro w hSw; (try dsimp only at hSw); go_simp <;> (with_reducible rfl))
          try simp only [Act.put, List.setIfInBounds_toArray, List.set_cons_zero, List.set_cons_succ]
          refine wpAnyH_take (i := 12) (oi := { dst := some 33, op := Op.binOp BinOp.sub 3 (Operand.tmp 32) (Operand.const (Value.int IntKind.i64 1)) 3, type := 3, pos := "plan.go:358", after := #[{ on := 11, ground := Ground.data }, { on := 4, ground := Ground.guard }], guard := some (4, false) }) (v := ?_) rfl (by kernel_rfl) (by kernel_rfl) (by kernel_rfl) (fun _ _ _ h => h) (Or.inl ⟨by rfl, ?_⟩) hH1 ?_
          rotate_left
          · (intro w hSw; (try dsimp only at hSw); go_simp <;> (with_reducible rfl))
          try simp only [Act.put, List.setIfInBounds_toArray, List.set_cons_zero, List.set_cons_succ]
          refine wpAnyH_ready (rs := [13]) (by kernel_rfl) (by simp) (AllReadyH.cons (o := { dst := some 34, op := Op.call { callee := Callee.value (Operand.func 103), args := #[Operand.tmp 28, Operand.tmp 30, Operand.tmp 33], argTypes := #[3, 3, 3] }, type := 4, pos := "plan.go:358", after := #[{ on := 7, ground := Ground.data }, { on := 9, ground := Ground.data }, { on := 12, ground := Ground.data }, { on := 4, ground := Ground.chain }, { on := 4, ground := Ground.guard }], guard := some (4, false) }) rfl (fun K' hK' => ?_) AllReadyH.nil)
          go_simp
          go_at_call 103; (with_reducible refine (hwit _).mono ?_); rintro e w' ⟨rfl, rfl⟩
          refine hK'.out _ _ (by go_keep) (fun hH2 => ?_)
          clear hK' K'
          try simp only [Act.put, List.setIfInBounds_toArray, List.set_cons_zero, List.set_cons_succ]
          refine wpAnyH_take (i := 14) (oi := { dst := some 35, op := Op.unOp UnOp.not 4 (Operand.tmp 34), type := 4, pos := "plan.go:358", after := #[{ on := 13, ground := Ground.data }, { on := 4, ground := Ground.guard }], guard := some (4, false) }) (v := ?_) rfl (by kernel_rfl) (by kernel_rfl) (by kernel_rfl) (fun _ _ _ h => h) (Or.inl ⟨by rfl, ?_⟩) hH2 ?_
          rotate_left
          · (intro w hSw; (try dsimp only at hSw); go_simp <;> (with_reducible rfl))
          try simp only [Act.put, List.setIfInBounds_toArray, List.set_cons_zero, List.set_cons_succ]
          refine wpAnyH_take (i := 15) (oi := { dst := some 36, op := Op.pick (Operand.tmp 25) (Operand.const (Value.bool true)) (Operand.tmp 35), type := 4, pos := "plan.go:358", after := #[{ on := 4, ground := Ground.data }, { on := 14, ground := Ground.data }], guard := none }) (v := ?_) rfl (by kernel_rfl) (by kernel_rfl) (by kernel_rfl) (fun _ _ _ h => h) (Or.inl ⟨by rfl, ?_⟩) hH2 ?_
          rotate_left
          · (intro w hSw; (try dsimp only at hSw); go_simp <;> (with_reducible rfl))
          try simp only [Act.put, List.setIfInBounds_toArray, List.set_cons_zero, List.set_cons_succ]
          refine wpAnyH_take (i := 16) (oi := { dst := some 37, op := Op.move (Operand.tmp 36), type := 4, pos := "plan.go:358", after := #[{ on := 15, ground := Ground.data }, { on := 13, ground := Ground.chain }], guard := none }) (v := ?_) rfl (by kernel_rfl) (by kernel_rfl) (by kernel_rfl) (fun _ _ _ h => h) (Or.inl ⟨by rfl, ?_⟩) hH2 ?_
          rotate_left
          · (intro w hSw; (try dsimp only at hSw); go_simp <;> (with_reducible rfl))
          try simp only [Act.put, List.setIfInBounds_toArray, List.set_cons_zero, List.set_cons_succ]
          refine wpAnyH_take (i := 17) (oi := { dst := some 38, op := Op.move (Operand.tmp 2), type := 26, pos := "plan.go:358", after := #[{ on := 16, ground := Ground.guard }], guard := some (16, false) }) (v := undef) rfl (by kernel_rfl) (by kernel_rfl) (by kernel_rfl) (fun _ _ _ h => h) (Or.inr ⟨by rfl, rfl⟩) hH2 ?_
          try simp only [Act.put, List.setIfInBounds_toArray, List.set_cons_zero, List.set_cons_succ]
          refine wpAnyH_take (i := 18) (oi := { dst := some 39, op := Op.makeFunc (Fn.func 118) #[] #[Operand.tmp 4, Operand.tmp 7], type := 55, pos := "plan.go:358", after := #[{ on := 16, ground := Ground.guard }], guard := some (16, false) }) (v := undef) rfl (by kernel_rfl) (by kernel_rfl) (by kernel_rfl) (fun _ _ _ h => h) (Or.inr ⟨by rfl, rfl⟩) hH2 ?_
          try simp only [Act.put, List.setIfInBounds_toArray, List.set_cons_zero, List.set_cons_succ]
          refine wpAnyH_take (i := 19) (oi := { dst := some 40, op := Op.call { callee := Callee.value (Operand.func 43), args := #[Operand.tmp 38, Operand.tmp 39], argTypes := #[26, 55] }, type := 4, pos := "plan.go:358", after := #[{ on := 17, ground := Ground.data }, { on := 18, ground := Ground.data }, { on := 16, ground := Ground.chain }, { on := 16, ground := Ground.guard }], guard := some (16, false) }) (v := undef) rfl (by kernel_rfl) (by kernel_rfl) (by kernel_rfl) (fun _ _ _ h => h) (Or.inr ⟨by rfl, rfl⟩) hH2 ?_
          try simp only [Act.put, List.setIfInBounds_toArray, List.set_cons_zero, List.set_cons_succ]
          refine wpAnyH_take (i := 20) (oi := { dst := some 41, op := Op.pick (Operand.tmp 37) (Operand.const (Value.bool true)) (Operand.tmp 40), type := 4, pos := "plan.go:358", after := #[{ on := 16, ground := Ground.data }, { on := 19, ground := Ground.data }], guard := none }) (v := ?_) rfl (by kernel_rfl) (by kernel_rfl) (by kernel_rfl) (fun _ _ _ h => h) (Or.inl ⟨by rfl, ?_⟩) hH2 ?_
          rotate_left
          · (intro w hSw; (try dsimp only at hSw); go_simp <;> (with_reducible rfl))
          try simp only [Act.put, List.setIfInBounds_toArray, List.set_cons_zero, List.set_cons_succ]
          refine wpAnyH_done (by kernel_rfl) ?_ _
          go_wp2
          go_ret
          exact ⟨rfl, HB6.out⟩
        · cases m3
          · go_enter Tryz.func33, Tryz.ntmps33
            go_wp2_with (first | ((with_reducible refine gate_dst (N := 4) rfl ?_); refine box_event ?hg (N := 4) ?hd (cs := rosC r A c T d) (t := 25) ?hr ?_; (case hd => rfl); (case hg => rfl); (case hr => first | (go_simp; done) | (go_simp; rfl)); intro gr hgr w1 hbox_ hb_; have BR1 := Aside0.mk hbox_; have Hgr := Aside0.mk hgr; have HB1 := Aside0.mk hb_; clear hbox_ hb_ hgr) | ((with_reducible refine gate_dst (N := 7) rfl ?_); refine box_event ?hg (N := 7) ?hd (cs := #[.slice (some ads) shown.length c1]) (t := 26) ?hr ?_; (case hd => rfl); (case hg => rfl); (case hr => first | (go_simp; done) | (go_simp; rfl)); intro gs hgs w3 hbox_ hb_; have BS3 := Aside0.mk hbox_; have Hgs := Aside0.mk hgs; have HB3 := Aside0.mk (below_step HB1.out hb_); have BR3 := Aside0.mk (blk_below BR1.out hb_); obtain ⟨q0, q1, q2, q3, q4⟩ := rosC_cells BR3.out; have q5 : w3.cell? ⟨gs, 0, none⟩ = some (.slice (some ads) shown.length c1) := (blk_cell hbox_ 0).trans rfl; clear hbox_ hb_ hgs) | (go_at_call 108; refine (hbare _ (hR.out.below HB3.out) (IntsAt.below hL.out HB3.out)).mono ?_; rintro e w4 ⟨rfl, hb_⟩; have HB4 := Aside0.mk (below_step HB3.out hb_); have BR4 := Aside0.mk (blk_below BR3.out hb_); have BS4 := Aside0.mk (blk_below BS3.out hb_); clear q0 q1 q2 q3 q4 q5; obtain ⟨q0, q1, q2, q3, q4⟩ := rosC_cells BR4.out; have q5 : w4.cell? ⟨gs, 0, none⟩ = some (.slice (some ads) shown.length c1) := (blk_cell BS4.out 0).trans rfl; clear hb_) | (go_at_call 116; refine (hshown _ (hR.out.below HB4.out) (IntsAt.below hS.out HB4.out)).mono ?_; rintro e w5 ⟨rfl, hb_⟩; have HB5 := Aside0.mk (below_step HB4.out hb_); have BR5 := Aside0.mk (blk_below BR4.out hb_); have BS5 := Aside0.mk (blk_below BS4.out hb_); clear q0 q1 q2 q3 q4 q5; obtain ⟨q0, q1, q2, q3, q4⟩ := rosC_cells BR5.out; have q5 : w5.cell? ⟨gs, 0, none⟩ = some (.slice (some ads) shown.length c1) := (blk_cell BS5.out 0).trans rfl; clear hb_))
            have p_ := (HB5.out.cell SB.out).trans SC.out
            refine wp_region_held_drew (S := (fun w' => (w'.cell? ⟨gr, 0, none⟩ = some (.int .i64 r.gates) ∧ w'.cell? ⟨gr, 1, none⟩ = some (.int .i64 r.frm) ∧ w'.cell? ⟨gr, 2, none⟩ = some (.int .i64 r.til) ∧ w'.cell? ⟨gr, 3, none⟩ = some (.slice A r.ahead.length c) ∧ w'.cell? ⟨gr, 4, none⟩ = some (.slice T r.turns.length d)) ∧ w'.cell? ⟨gs, 0, none⟩ = some (.slice (some ads) shown.length c1) ∧ w'.cell? ads = some (.int .i64 s0))) (by kernel_rfl) ?_ (fun hH0 => ?_)
            · go_keep
            refine wpAnyH_take (i := 0) (oi := { dst := some 21, op := Op.load 25 (Operand.tmp 4), type := 25, pos := "plan.go:358", after := #[], guard := none }) (v := ?_) rfl (by kernel_rfl) (by kernel_rfl) (by kernel_rfl) (fun _ _ _ h => h) (Or.inl ⟨by rfl, ?_⟩) hH0 ?_
            rotate_left
            · (intro w hSw; (try dsimp only at hSw); go_simp <;> (with_reducible rfl))
            try simp only [Act.put, List.setIfInBounds_toArray, List.set_cons_zero, List.set_cons_succ]
            refine wpAnyH_take (i := 1) (oi := { dst := some 22, op := Op.load 26 (Operand.tmp 7), type := 26, pos := "plan.go:358", after := #[], guard := none }) (v := ?_) rfl (by kernel_rfl) (by kernel_rfl) (by kernel_rfl) (fun _ _ _ h => h) (Or.inl ⟨by rfl, ?_⟩) hH0 ?_
            rotate_left
            · (intro w hSw; (try dsimp only at hSw); go_simp <;> (with_reducible rfl))
            try simp only [Act.put, List.setIfInBounds_toArray, List.set_cons_zero, List.set_cons_succ]
            refine wpAnyH_ready (rs := [2]) (by kernel_rfl) (by simp) (AllReadyH.cons (o := { dst := some 23, op := Op.call { callee := Callee.value (Operand.func 117), args := #[Operand.tmp 21, Operand.tmp 22], argTypes := #[25, 26] }, type := 4, pos := "plan.go:358", after := #[{ on := 0, ground := Ground.data }, { on := 1, ground := Ground.data }], guard := none }) rfl (fun K' hK' => ?_) AllReadyH.nil)
            go_simp
            go_at_call 117; refine (hmom _ (hR.out.below (below_drew HB5.out)) (IntsAt.below hS.out (below_drew HB5.out))).mono ?_; rintro e w6 ⟨rfl, hb_⟩; have HB6 := Aside0.mk (below_step (below_drew HB5.out) hb_); have BR6 := Aside0.mk (blk_below (w := w5.drew) BR5.out hb_); have BS6 := Aside0.mk (blk_below (w := w5.drew) BS5.out hb_); obtain ⟨u0, u1, u2, u3, u4⟩ := rosC_cells BR6.out; have u5 : w6.cell? ⟨gs, 0, none⟩ = some (.slice (some ads) shown.length c1) := (blk_cell BS6.out 0).trans rfl; have u6 := (HB6.out.cell SB.out).trans SC.out; clear hb_
            refine hK'.out _ _ (by go_keep) (fun hH1 => ?_)
            clear hK' K'
            try simp only [Act.put, List.setIfInBounds_toArray, List.set_cons_zero, List.set_cons_succ]
            refine wpAnyH_take (i := 3) (oi := { dst := some 24, op := Op.unOp UnOp.not 4 (Operand.tmp 23), type := 4, pos := "plan.go:358", after := #[{ on := 2, ground := Ground.data }], guard := none }) (v := ?_) rfl (by kernel_rfl) (by kernel_rfl) (by kernel_rfl) (fun _ _ _ h => h) (Or.inl ⟨by rfl, ?_⟩) hH1 ?_
            rotate_left
            · (intro w hSw; (try dsimp only at hSw); go_simp <;> (with_reducible rfl))
            try simp only [Act.put, List.setIfInBounds_toArray, List.set_cons_zero, List.set_cons_succ]
            refine wpAnyH_take (i := 4) (oi := { dst := some 25, op := Op.move (Operand.tmp 24), type := 4, pos := "plan.go:358", after := #[{ on := 3, ground := Ground.data }, { on := 2, ground := Ground.chain }], guard := none }) (v := ?_) rfl (by kernel_rfl) (by kernel_rfl) (by kernel_rfl) (fun _ _ _ h => h) (Or.inl ⟨by rfl, ?_⟩) hH1 ?_
            rotate_left
            · (intro w hSw; (try dsimp only at hSw); go_simp <;> (with_reducible rfl))
            try simp only [Act.put, List.setIfInBounds_toArray, List.set_cons_zero, List.set_cons_succ]
            refine wpAnyH_take (i := 5) (oi := { dst := some 26, op := Op.load 26 (Operand.tmp 7), type := 26, pos := "plan.go:358", after := #[{ on := 4, ground := Ground.guard }], guard := some (4, false) }) (v := ?_) rfl (by kernel_rfl) (by kernel_rfl) (by kernel_rfl) (fun _ _ _ h => h) (Or.inl ⟨by rfl, ?_⟩) hH1 ?_
            rotate_left
            · (intro w hSw; (try dsimp only at hSw); go_simp <;> (with_reducible rfl))
            try simp only [Act.put, List.setIfInBounds_toArray, List.set_cons_zero, List.set_cons_succ]
            refine wpAnyH_take (i := 6) (oi := { dst := some 27, op := Op.indexAddr 26 (Operand.tmp 26) (Operand.const (Value.int IntKind.i64 0)), type := 0, pos := "plan.go:358", after := #[{ on := 5, ground := Ground.data }, { on := 4, ground := Ground.guard }], guard := some (4, false) }) (v := ?_) rfl (by kernel_rfl) (by kernel_rfl) (by kernel_rfl) (fun _ _ _ h => h) (Or.inl ⟨by rfl, ?_⟩) hH1 ?_
            rotate_left
            · (intro w hSw; (try dsimp only at hSw); go_simp <;> (with_reducible rfl))
            try simp only [Act.put, List.setIfInBounds_toArray, List.set_cons_zero, List.set_cons_succ]
            refine wpAnyH_take (i := 7) (oi := { dst := some 28, op := Op.load 3 (Operand.tmp 27), type := 3, pos := "plan.go:358", after := #[{ on := 6, ground := Ground.data }, { on := 4, ground := Ground.guard }], guard := some (4, false) }) (v := ?_) rfl (by kernel_rfl) (by kernel_rfl) (by kernel_rfl) (fun _ _ _ h => h) (Or.inl ⟨by rfl, ?_⟩) hH1 ?_
            rotate_left
            · (intro w hSw; (try dsimp only at hSw); go_simp <;> (with_reducible rfl))
            try simp only [Act.put, List.setIfInBounds_toArray, List.set_cons_zero, List.set_cons_succ]
            refine wpAnyH_take (i := 8) (oi := { dst := some 29, op := Op.fieldAddr 25 (Operand.tmp 4) 1, type := 0, pos := "plan.go:358", after := #[{ on := 4, ground := Ground.guard }], guard := some (4, false) }) (v := ?_) rfl (by kernel_rfl) (by kernel_rfl) (by kernel_rfl) (fun _ _ _ h => h) (Or.inl ⟨by rfl, ?_⟩) hH1 ?_
            rotate_left
            · (intro w hSw; (try dsimp only at hSw); go_simp <;> (with_reducible rfl))
            try simp only [Act.put, List.setIfInBounds_toArray, List.set_cons_zero, List.set_cons_succ]
            refine wpAnyH_take (i := 9) (oi := { dst := some 30, op := Op.load 3 (Operand.tmp 29), type := 3, pos := "plan.go:358", after := #[{ on := 8, ground := Ground.data }, { on := 4, ground := Ground.guard }], guard := some (4, false) }) (v := ?_) rfl (by kernel_rfl) (by kernel_rfl) (by kernel_rfl) (fun _ _ _ h => h) (Or.inl ⟨by rfl, ?_⟩) hH1 ?_
            rotate_left
            · (intro w hSw; (try dsimp only at hSw); go_simp <;> (with_reducible rfl))
            try simp only [Act.put, List.setIfInBounds_toArray, List.set_cons_zero, List.set_cons_succ]
            refine wpAnyH_take (i := 10) (oi := { dst := some 31, op := Op.fieldAddr 25 (Operand.tmp 4) 2, type := 0, pos := "plan.go:358", after := #[{ on := 4, ground := Ground.guard }], guard := some (4, false) }) (v := ?_) rfl (by kernel_rfl) (by kernel_rfl) (by kernel_rfl) (fun _ _ _ h => h) (Or.inl ⟨by rfl, ?_⟩) hH1 ?_
            rotate_left
            · (intro w hSw; (try dsimp only at hSw); go_simp <;> (with_reducible rfl))
            try simp only [Act.put, List.setIfInBounds_toArray, List.set_cons_zero, List.set_cons_succ]
            refine wpAnyH_take (i := 11) (oi := { dst := some 32, op := Op.load 3 (Operand.tmp 31), type := 3, pos := "plan.go:358", after := #[{ on := 10, ground := Ground.data }, { on := 4, ground := Ground.guard }], guard := some (4, false) }) (v := ?_) rfl (by kernel_rfl) (by kernel_rfl) (by kernel_rfl) (fun _ _ _ h => h) (Or.inl ⟨by rfl, ?_⟩) hH1 ?_
            rotate_left
            · (intro w hSw; (try dsimp only at hSw); go_simp <;> (with_reducible rfl))
            try simp only [Act.put, List.setIfInBounds_toArray, List.set_cons_zero, List.set_cons_succ]
            refine wpAnyH_take (i := 12) (oi := { dst := some 33, op := Op.binOp BinOp.sub 3 (Operand.tmp 32) (Operand.const (Value.int IntKind.i64 1)) 3, type := 3, pos := "plan.go:358", after := #[{ on := 11, ground := Ground.data }, { on := 4, ground := Ground.guard }], guard := some (4, false) }) (v := ?_) rfl (by kernel_rfl) (by kernel_rfl) (by kernel_rfl) (fun _ _ _ h => h) (Or.inl ⟨by rfl, ?_⟩) hH1 ?_
            rotate_left
            · (intro w hSw; (try dsimp only at hSw); go_simp <;> (with_reducible rfl))
            try simp only [Act.put, List.setIfInBounds_toArray, List.set_cons_zero, List.set_cons_succ]
            refine wpAnyH_ready (rs := [13]) (by kernel_rfl) (by simp) (AllReadyH.cons (o := { dst := some 34, op := Op.call { callee := Callee.value (Operand.func 103), args := #[Operand.tmp 28, Operand.tmp 30, Operand.tmp 33], argTypes := #[3, 3, 3] }, type := 4, pos := "plan.go:358", after := #[{ on := 7, ground := Ground.data }, { on := 9, ground := Ground.data }, { on := 12, ground := Ground.data }, { on := 4, ground := Ground.chain }, { on := 4, ground := Ground.guard }], guard := some (4, false) }) rfl (fun K' hK' => ?_) AllReadyH.nil)
            go_simp
            go_at_call 103; (with_reducible refine (hwit _).mono ?_); rintro e w' ⟨rfl, rfl⟩
            refine hK'.out _ _ (by go_keep) (fun hH2 => ?_)
            clear hK' K'
            try simp only [Act.put, List.setIfInBounds_toArray, List.set_cons_zero, List.set_cons_succ]
            refine wpAnyH_take (i := 14) (oi := { dst := some 35, op := Op.unOp UnOp.not 4 (Operand.tmp 34), type := 4, pos := "plan.go:358", after := #[{ on := 13, ground := Ground.data }, { on := 4, ground := Ground.guard }], guard := some (4, false) }) (v := ?_) rfl (by kernel_rfl) (by kernel_rfl) (by kernel_rfl) (fun _ _ _ h => h) (Or.inl ⟨by rfl, ?_⟩) hH2 ?_
            rotate_left
            · (intro w hSw; (try dsimp only at hSw); go_simp <;> (with_reducible rfl))
            try simp only [Act.put, List.setIfInBounds_toArray, List.set_cons_zero, List.set_cons_succ]
            refine wpAnyH_take (i := 15) (oi := { dst := some 36, op := Op.pick (Operand.tmp 25) (Operand.const (Value.bool true)) (Operand.tmp 35), type := 4, pos := "plan.go:358", after := #[{ on := 4, ground := Ground.data }, { on := 14, ground := Ground.data }], guard := none }) (v := ?_) rfl (by kernel_rfl) (by kernel_rfl) (by kernel_rfl) (fun _ _ _ h => h) (Or.inl ⟨by rfl, ?_⟩) hH2 ?_
            rotate_left
            · (intro w hSw; (try dsimp only at hSw); go_simp <;> (with_reducible rfl))
            try simp only [Act.put, List.setIfInBounds_toArray, List.set_cons_zero, List.set_cons_succ]
            refine wpAnyH_take (i := 16) (oi := { dst := some 37, op := Op.move (Operand.tmp 36), type := 4, pos := "plan.go:358", after := #[{ on := 15, ground := Ground.data }, { on := 13, ground := Ground.chain }], guard := none }) (v := ?_) rfl (by kernel_rfl) (by kernel_rfl) (by kernel_rfl) (fun _ _ _ h => h) (Or.inl ⟨by rfl, ?_⟩) hH2 ?_
            rotate_left
            · (intro w hSw; (try dsimp only at hSw); go_simp <;> (with_reducible rfl))
            try simp only [Act.put, List.setIfInBounds_toArray, List.set_cons_zero, List.set_cons_succ]
            refine wpAnyH_take (i := 17) (oi := { dst := some 38, op := Op.move (Operand.tmp 2), type := 26, pos := "plan.go:358", after := #[{ on := 16, ground := Ground.guard }], guard := some (16, false) }) (v := ?_) rfl (by kernel_rfl) (by kernel_rfl) (by kernel_rfl) (fun _ _ _ h => h) (Or.inl ⟨by rfl, ?_⟩) hH2 ?_
            rotate_left
            · (intro w hSw; (try dsimp only at hSw); go_simp <;> (with_reducible rfl))
            try simp only [Act.put, List.setIfInBounds_toArray, List.set_cons_zero, List.set_cons_succ]
            refine wpAnyH_take (i := 18) (oi := { dst := some 39, op := Op.makeFunc (Fn.func 118) #[] #[Operand.tmp 4, Operand.tmp 7], type := 55, pos := "plan.go:358", after := #[{ on := 16, ground := Ground.guard }], guard := some (16, false) }) (v := ?_) rfl (by kernel_rfl) (by kernel_rfl) (by kernel_rfl) (fun _ _ _ h => h) (Or.inl ⟨by rfl, ?_⟩) hH2 ?_
            rotate_left
            · (intro w hSw; (try dsimp only at hSw); go_simp <;> (with_reducible rfl))
            try simp only [Act.put, List.setIfInBounds_toArray, List.set_cons_zero, List.set_cons_succ]
            refine wpAnyH_ready (rs := [19]) (by kernel_rfl) (by simp) (AllReadyH.cons (o := { dst := some 40, op := Op.call { callee := Callee.value (Operand.func 43), args := #[Operand.tmp 38, Operand.tmp 39], argTypes := #[26, 55] }, type := 4, pos := "plan.go:358", after := #[{ on := 17, ground := Ground.data }, { on := 18, ground := Ground.data }, { on := 16, ground := Ground.chain }, { on := 16, ground := Ground.guard }], guard := some (16, false) }) rfl (fun K' hK' => ?_) AllReadyH.nil)
            go_simp
            go_at_call 43; refine (hguard _ gr gs (IntsAt.below hL.out HB6.out) (IntsAt.below hS.out HB6.out) ⟨A, c, T, d, BR6.out, hR.out.below HB6.out⟩ BS6.out).mono ?_; rintro e w7 ⟨rfl, hb_⟩; have HB7 := Aside0.mk (below_step HB6.out hb_); have BR7 := Aside0.mk (blk_below BR6.out hb_); have BS7 := Aside0.mk (blk_below BS6.out hb_); obtain ⟨v0, v1, v2, v3, v4⟩ := rosC_cells BR7.out; have v5 : w7.cell? ⟨gs, 0, none⟩ = some (.slice (some ads) shown.length c1) := (blk_cell BS7.out 0).trans rfl; have v6 := (HB7.out.cell SB.out).trans SC.out; clear hb_
            refine hK'.out _ _ (by go_keep) (fun hH3 => ?_)
            clear hK' K'
            try simp only [Act.put, List.setIfInBounds_toArray, List.set_cons_zero, List.set_cons_succ]
            refine wpAnyH_take (i := 20) (oi := { dst := some 41, op := Op.pick (Operand.tmp 37) (Operand.const (Value.bool true)) (Operand.tmp 40), type := 4, pos := "plan.go:358", after := #[{ on := 16, ground := Ground.data }, { on := 19, ground := Ground.data }], guard := none }) (v := ?_) rfl (by kernel_rfl) (by kernel_rfl) (by kernel_rfl) (fun _ _ _ h => h) (Or.inl ⟨by rfl, ?_⟩) hH3 ?_
            rotate_left
            · (intro w hSw; (try dsimp only at hSw); go_simp <;> (with_reducible rfl))
            try simp only [Act.put, List.setIfInBounds_toArray, List.set_cons_zero, List.set_cons_succ]
            refine wpAnyH_done (by kernel_rfl) ?_ _
            go_wp2
            go_ret
            exact ⟨rfl, HB7.out⟩
          · go_enter Tryz.func33, Tryz.ntmps33
            go_wp2_with (first | ((with_reducible refine gate_dst (N := 4) rfl ?_); refine box_event ?hg (N := 4) ?hd (cs := rosC r A c T d) (t := 25) ?hr ?_; (case hd => rfl); (case hg => rfl); (case hr => first | (go_simp; done) | (go_simp; rfl)); intro gr hgr w1 hbox_ hb_; have BR1 := Aside0.mk hbox_; have Hgr := Aside0.mk hgr; have HB1 := Aside0.mk hb_; clear hbox_ hb_ hgr) | ((with_reducible refine gate_dst (N := 7) rfl ?_); refine box_event ?hg (N := 7) ?hd (cs := #[.slice (some ads) shown.length c1]) (t := 26) ?hr ?_; (case hd => rfl); (case hg => rfl); (case hr => first | (go_simp; done) | (go_simp; rfl)); intro gs hgs w3 hbox_ hb_; have BS3 := Aside0.mk hbox_; have Hgs := Aside0.mk hgs; have HB3 := Aside0.mk (below_step HB1.out hb_); have BR3 := Aside0.mk (blk_below BR1.out hb_); obtain ⟨q0, q1, q2, q3, q4⟩ := rosC_cells BR3.out; have q5 : w3.cell? ⟨gs, 0, none⟩ = some (.slice (some ads) shown.length c1) := (blk_cell hbox_ 0).trans rfl; clear hbox_ hb_ hgs) | (go_at_call 108; refine (hbare _ (hR.out.below HB3.out) (IntsAt.below hL.out HB3.out)).mono ?_; rintro e w4 ⟨rfl, hb_⟩; have HB4 := Aside0.mk (below_step HB3.out hb_); have BR4 := Aside0.mk (blk_below BR3.out hb_); have BS4 := Aside0.mk (blk_below BS3.out hb_); clear q0 q1 q2 q3 q4 q5; obtain ⟨q0, q1, q2, q3, q4⟩ := rosC_cells BR4.out; have q5 : w4.cell? ⟨gs, 0, none⟩ = some (.slice (some ads) shown.length c1) := (blk_cell BS4.out 0).trans rfl; clear hb_) | (go_at_call 116; refine (hshown _ (hR.out.below HB4.out) (IntsAt.below hS.out HB4.out)).mono ?_; rintro e w5 ⟨rfl, hb_⟩; have HB5 := Aside0.mk (below_step HB4.out hb_); have BR5 := Aside0.mk (blk_below BR4.out hb_); have BS5 := Aside0.mk (blk_below BS4.out hb_); clear q0 q1 q2 q3 q4 q5; obtain ⟨q0, q1, q2, q3, q4⟩ := rosC_cells BR5.out; have q5 : w5.cell? ⟨gs, 0, none⟩ = some (.slice (some ads) shown.length c1) := (blk_cell BS5.out 0).trans rfl; clear hb_))
            have p_ := (HB5.out.cell SB.out).trans SC.out
            refine wp_region_held_drew (S := (fun w' => (w'.cell? ⟨gr, 0, none⟩ = some (.int .i64 r.gates) ∧ w'.cell? ⟨gr, 1, none⟩ = some (.int .i64 r.frm) ∧ w'.cell? ⟨gr, 2, none⟩ = some (.int .i64 r.til) ∧ w'.cell? ⟨gr, 3, none⟩ = some (.slice A r.ahead.length c) ∧ w'.cell? ⟨gr, 4, none⟩ = some (.slice T r.turns.length d)) ∧ w'.cell? ⟨gs, 0, none⟩ = some (.slice (some ads) shown.length c1) ∧ w'.cell? ads = some (.int .i64 s0))) (by kernel_rfl) ?_ (fun hH0 => ?_)
            · go_keep
            refine wpAnyH_take (i := 0) (oi := { dst := some 21, op := Op.load 25 (Operand.tmp 4), type := 25, pos := "plan.go:358", after := #[], guard := none }) (v := ?_) rfl (by kernel_rfl) (by kernel_rfl) (by kernel_rfl) (fun _ _ _ h => h) (Or.inl ⟨by rfl, ?_⟩) hH0 ?_
            rotate_left
            · (intro w hSw; (try dsimp only at hSw); go_simp <;> (with_reducible rfl))
            try simp only [Act.put, List.setIfInBounds_toArray, List.set_cons_zero, List.set_cons_succ]
            refine wpAnyH_take (i := 1) (oi := { dst := some 22, op := Op.load 26 (Operand.tmp 7), type := 26, pos := "plan.go:358", after := #[], guard := none }) (v := ?_) rfl (by kernel_rfl) (by kernel_rfl) (by kernel_rfl) (fun _ _ _ h => h) (Or.inl ⟨by rfl, ?_⟩) hH0 ?_
            rotate_left
            · (intro w hSw; (try dsimp only at hSw); go_simp <;> (with_reducible rfl))
            try simp only [Act.put, List.setIfInBounds_toArray, List.set_cons_zero, List.set_cons_succ]
            refine wpAnyH_ready (rs := [2]) (by kernel_rfl) (by simp) (AllReadyH.cons (o := { dst := some 23, op := Op.call { callee := Callee.value (Operand.func 117), args := #[Operand.tmp 21, Operand.tmp 22], argTypes := #[25, 26] }, type := 4, pos := "plan.go:358", after := #[{ on := 0, ground := Ground.data }, { on := 1, ground := Ground.data }], guard := none }) rfl (fun K' hK' => ?_) AllReadyH.nil)
            go_simp
            go_at_call 117; refine (hmom _ (hR.out.below (below_drew HB5.out)) (IntsAt.below hS.out (below_drew HB5.out))).mono ?_; rintro e w6 ⟨rfl, hb_⟩; have HB6 := Aside0.mk (below_step (below_drew HB5.out) hb_); have BR6 := Aside0.mk (blk_below (w := w5.drew) BR5.out hb_); have BS6 := Aside0.mk (blk_below (w := w5.drew) BS5.out hb_); obtain ⟨u0, u1, u2, u3, u4⟩ := rosC_cells BR6.out; have u5 : w6.cell? ⟨gs, 0, none⟩ = some (.slice (some ads) shown.length c1) := (blk_cell BS6.out 0).trans rfl; have u6 := (HB6.out.cell SB.out).trans SC.out; clear hb_
            refine hK'.out _ _ (by go_keep) (fun hH1 => ?_)
            clear hK' K'
            try simp only [Act.put, List.setIfInBounds_toArray, List.set_cons_zero, List.set_cons_succ]
            refine wpAnyH_take (i := 3) (oi := { dst := some 24, op := Op.unOp UnOp.not 4 (Operand.tmp 23), type := 4, pos := "plan.go:358", after := #[{ on := 2, ground := Ground.data }], guard := none }) (v := ?_) rfl (by kernel_rfl) (by kernel_rfl) (by kernel_rfl) (fun _ _ _ h => h) (Or.inl ⟨by rfl, ?_⟩) hH1 ?_
            rotate_left
            · (intro w hSw; (try dsimp only at hSw); go_simp <;> (with_reducible rfl))
            try simp only [Act.put, List.setIfInBounds_toArray, List.set_cons_zero, List.set_cons_succ]
            refine wpAnyH_take (i := 4) (oi := { dst := some 25, op := Op.move (Operand.tmp 24), type := 4, pos := "plan.go:358", after := #[{ on := 3, ground := Ground.data }, { on := 2, ground := Ground.chain }], guard := none }) (v := ?_) rfl (by kernel_rfl) (by kernel_rfl) (by kernel_rfl) (fun _ _ _ h => h) (Or.inl ⟨by rfl, ?_⟩) hH1 ?_
            rotate_left
            · (intro w hSw; (try dsimp only at hSw); go_simp <;> (with_reducible rfl))
            try simp only [Act.put, List.setIfInBounds_toArray, List.set_cons_zero, List.set_cons_succ]
            refine wpAnyH_take (i := 5) (oi := { dst := some 26, op := Op.load 26 (Operand.tmp 7), type := 26, pos := "plan.go:358", after := #[{ on := 4, ground := Ground.guard }], guard := some (4, false) }) (v := ?_) rfl (by kernel_rfl) (by kernel_rfl) (by kernel_rfl) (fun _ _ _ h => h) (Or.inl ⟨by rfl, ?_⟩) hH1 ?_
            rotate_left
            · (intro w hSw; (try dsimp only at hSw); go_simp <;> (with_reducible rfl))
            try simp only [Act.put, List.setIfInBounds_toArray, List.set_cons_zero, List.set_cons_succ]
            refine wpAnyH_take (i := 6) (oi := { dst := some 27, op := Op.indexAddr 26 (Operand.tmp 26) (Operand.const (Value.int IntKind.i64 0)), type := 0, pos := "plan.go:358", after := #[{ on := 5, ground := Ground.data }, { on := 4, ground := Ground.guard }], guard := some (4, false) }) (v := ?_) rfl (by kernel_rfl) (by kernel_rfl) (by kernel_rfl) (fun _ _ _ h => h) (Or.inl ⟨by rfl, ?_⟩) hH1 ?_
            rotate_left
            · (intro w hSw; (try dsimp only at hSw); go_simp <;> (with_reducible rfl))
            try simp only [Act.put, List.setIfInBounds_toArray, List.set_cons_zero, List.set_cons_succ]
            refine wpAnyH_take (i := 7) (oi := { dst := some 28, op := Op.load 3 (Operand.tmp 27), type := 3, pos := "plan.go:358", after := #[{ on := 6, ground := Ground.data }, { on := 4, ground := Ground.guard }], guard := some (4, false) }) (v := ?_) rfl (by kernel_rfl) (by kernel_rfl) (by kernel_rfl) (fun _ _ _ h => h) (Or.inl ⟨by rfl, ?_⟩) hH1 ?_
            rotate_left
            · (intro w hSw; (try dsimp only at hSw); go_simp <;> (with_reducible rfl))
            try simp only [Act.put, List.setIfInBounds_toArray, List.set_cons_zero, List.set_cons_succ]
            refine wpAnyH_take (i := 8) (oi := { dst := some 29, op := Op.fieldAddr 25 (Operand.tmp 4) 1, type := 0, pos := "plan.go:358", after := #[{ on := 4, ground := Ground.guard }], guard := some (4, false) }) (v := ?_) rfl (by kernel_rfl) (by kernel_rfl) (by kernel_rfl) (fun _ _ _ h => h) (Or.inl ⟨by rfl, ?_⟩) hH1 ?_
            rotate_left
            · (intro w hSw; (try dsimp only at hSw); go_simp <;> (with_reducible rfl))
            try simp only [Act.put, List.setIfInBounds_toArray, List.set_cons_zero, List.set_cons_succ]
            refine wpAnyH_take (i := 9) (oi := { dst := some 30, op := Op.load 3 (Operand.tmp 29), type := 3, pos := "plan.go:358", after := #[{ on := 8, ground := Ground.data }, { on := 4, ground := Ground.guard }], guard := some (4, false) }) (v := ?_) rfl (by kernel_rfl) (by kernel_rfl) (by kernel_rfl) (fun _ _ _ h => h) (Or.inl ⟨by rfl, ?_⟩) hH1 ?_
            rotate_left
            · (intro w hSw; (try dsimp only at hSw); go_simp <;> (with_reducible rfl))
            try simp only [Act.put, List.setIfInBounds_toArray, List.set_cons_zero, List.set_cons_succ]
            refine wpAnyH_take (i := 10) (oi := { dst := some 31, op := Op.fieldAddr 25 (Operand.tmp 4) 2, type := 0, pos := "plan.go:358", after := #[{ on := 4, ground := Ground.guard }], guard := some (4, false) }) (v := ?_) rfl (by kernel_rfl) (by kernel_rfl) (by kernel_rfl) (fun _ _ _ h => h) (Or.inl ⟨by rfl, ?_⟩) hH1 ?_
            rotate_left
            · (intro w hSw; (try dsimp only at hSw); go_simp <;> (with_reducible rfl))
            try simp only [Act.put, List.setIfInBounds_toArray, List.set_cons_zero, List.set_cons_succ]
            refine wpAnyH_take (i := 11) (oi := { dst := some 32, op := Op.load 3 (Operand.tmp 31), type := 3, pos := "plan.go:358", after := #[{ on := 10, ground := Ground.data }, { on := 4, ground := Ground.guard }], guard := some (4, false) }) (v := ?_) rfl (by kernel_rfl) (by kernel_rfl) (by kernel_rfl) (fun _ _ _ h => h) (Or.inl ⟨by rfl, ?_⟩) hH1 ?_
            rotate_left
            · (intro w hSw; (try dsimp only at hSw); go_simp <;> (with_reducible rfl))
            try simp only [Act.put, List.setIfInBounds_toArray, List.set_cons_zero, List.set_cons_succ]
            refine wpAnyH_take (i := 12) (oi := { dst := some 33, op := Op.binOp BinOp.sub 3 (Operand.tmp 32) (Operand.const (Value.int IntKind.i64 1)) 3, type := 3, pos := "plan.go:358", after := #[{ on := 11, ground := Ground.data }, { on := 4, ground := Ground.guard }], guard := some (4, false) }) (v := ?_) rfl (by kernel_rfl) (by kernel_rfl) (by kernel_rfl) (fun _ _ _ h => h) (Or.inl ⟨by rfl, ?_⟩) hH1 ?_
            rotate_left
            · (intro w hSw; (try dsimp only at hSw); go_simp <;> (with_reducible rfl))
            try simp only [Act.put, List.setIfInBounds_toArray, List.set_cons_zero, List.set_cons_succ]
            refine wpAnyH_ready (rs := [13]) (by kernel_rfl) (by simp) (AllReadyH.cons (o := { dst := some 34, op := Op.call { callee := Callee.value (Operand.func 103), args := #[Operand.tmp 28, Operand.tmp 30, Operand.tmp 33], argTypes := #[3, 3, 3] }, type := 4, pos := "plan.go:358", after := #[{ on := 7, ground := Ground.data }, { on := 9, ground := Ground.data }, { on := 12, ground := Ground.data }, { on := 4, ground := Ground.chain }, { on := 4, ground := Ground.guard }], guard := some (4, false) }) rfl (fun K' hK' => ?_) AllReadyH.nil)
            go_simp
            go_at_call 103; (with_reducible refine (hwit _).mono ?_); rintro e w' ⟨rfl, rfl⟩
            refine hK'.out _ _ (by go_keep) (fun hH2 => ?_)
            clear hK' K'
            try simp only [Act.put, List.setIfInBounds_toArray, List.set_cons_zero, List.set_cons_succ]
            refine wpAnyH_take (i := 14) (oi := { dst := some 35, op := Op.unOp UnOp.not 4 (Operand.tmp 34), type := 4, pos := "plan.go:358", after := #[{ on := 13, ground := Ground.data }, { on := 4, ground := Ground.guard }], guard := some (4, false) }) (v := ?_) rfl (by kernel_rfl) (by kernel_rfl) (by kernel_rfl) (fun _ _ _ h => h) (Or.inl ⟨by rfl, ?_⟩) hH2 ?_
            rotate_left
            · (intro w hSw; (try dsimp only at hSw); go_simp <;> (with_reducible rfl))
            try simp only [Act.put, List.setIfInBounds_toArray, List.set_cons_zero, List.set_cons_succ]
            refine wpAnyH_take (i := 15) (oi := { dst := some 36, op := Op.pick (Operand.tmp 25) (Operand.const (Value.bool true)) (Operand.tmp 35), type := 4, pos := "plan.go:358", after := #[{ on := 4, ground := Ground.data }, { on := 14, ground := Ground.data }], guard := none }) (v := ?_) rfl (by kernel_rfl) (by kernel_rfl) (by kernel_rfl) (fun _ _ _ h => h) (Or.inl ⟨by rfl, ?_⟩) hH2 ?_
            rotate_left
            · (intro w hSw; (try dsimp only at hSw); go_simp <;> (with_reducible rfl))
            try simp only [Act.put, List.setIfInBounds_toArray, List.set_cons_zero, List.set_cons_succ]
            refine wpAnyH_take (i := 16) (oi := { dst := some 37, op := Op.move (Operand.tmp 36), type := 4, pos := "plan.go:358", after := #[{ on := 15, ground := Ground.data }, { on := 13, ground := Ground.chain }], guard := none }) (v := ?_) rfl (by kernel_rfl) (by kernel_rfl) (by kernel_rfl) (fun _ _ _ h => h) (Or.inl ⟨by rfl, ?_⟩) hH2 ?_
            rotate_left
            · (intro w hSw; (try dsimp only at hSw); go_simp <;> (with_reducible rfl))
            try simp only [Act.put, List.setIfInBounds_toArray, List.set_cons_zero, List.set_cons_succ]
            refine wpAnyH_take (i := 17) (oi := { dst := some 38, op := Op.move (Operand.tmp 2), type := 26, pos := "plan.go:358", after := #[{ on := 16, ground := Ground.guard }], guard := some (16, false) }) (v := ?_) rfl (by kernel_rfl) (by kernel_rfl) (by kernel_rfl) (fun _ _ _ h => h) (Or.inl ⟨by rfl, ?_⟩) hH2 ?_
            rotate_left
            · (intro w hSw; (try dsimp only at hSw); go_simp <;> (with_reducible rfl))
            try simp only [Act.put, List.setIfInBounds_toArray, List.set_cons_zero, List.set_cons_succ]
            refine wpAnyH_take (i := 18) (oi := { dst := some 39, op := Op.makeFunc (Fn.func 118) #[] #[Operand.tmp 4, Operand.tmp 7], type := 55, pos := "plan.go:358", after := #[{ on := 16, ground := Ground.guard }], guard := some (16, false) }) (v := ?_) rfl (by kernel_rfl) (by kernel_rfl) (by kernel_rfl) (fun _ _ _ h => h) (Or.inl ⟨by rfl, ?_⟩) hH2 ?_
            rotate_left
            · (intro w hSw; (try dsimp only at hSw); go_simp <;> (with_reducible rfl))
            try simp only [Act.put, List.setIfInBounds_toArray, List.set_cons_zero, List.set_cons_succ]
            refine wpAnyH_ready (rs := [19]) (by kernel_rfl) (by simp) (AllReadyH.cons (o := { dst := some 40, op := Op.call { callee := Callee.value (Operand.func 43), args := #[Operand.tmp 38, Operand.tmp 39], argTypes := #[26, 55] }, type := 4, pos := "plan.go:358", after := #[{ on := 17, ground := Ground.data }, { on := 18, ground := Ground.data }, { on := 16, ground := Ground.chain }, { on := 16, ground := Ground.guard }], guard := some (16, false) }) rfl (fun K' hK' => ?_) AllReadyH.nil)
            go_simp
            go_at_call 43; refine (hguard _ gr gs (IntsAt.below hL.out HB6.out) (IntsAt.below hS.out HB6.out) ⟨A, c, T, d, BR6.out, hR.out.below HB6.out⟩ BS6.out).mono ?_; rintro e w7 ⟨rfl, hb_⟩; have HB7 := Aside0.mk (below_step HB6.out hb_); have BR7 := Aside0.mk (blk_below BR6.out hb_); have BS7 := Aside0.mk (blk_below BS6.out hb_); obtain ⟨v0, v1, v2, v3, v4⟩ := rosC_cells BR7.out; have v5 : w7.cell? ⟨gs, 0, none⟩ = some (.slice (some ads) shown.length c1) := (blk_cell BS7.out 0).trans rfl; have v6 := (HB7.out.cell SB.out).trans SC.out; clear hb_
            refine hK'.out _ _ (by go_keep) (fun hH3 => ?_)
            clear hK' K'
            try simp only [Act.put, List.setIfInBounds_toArray, List.set_cons_zero, List.set_cons_succ]
            refine wpAnyH_take (i := 20) (oi := { dst := some 41, op := Op.pick (Operand.tmp 37) (Operand.const (Value.bool true)) (Operand.tmp 40), type := 4, pos := "plan.go:358", after := #[{ on := 16, ground := Ground.data }, { on := 19, ground := Ground.data }], guard := none }) (v := ?_) rfl (by kernel_rfl) (by kernel_rfl) (by kernel_rfl) (fun _ _ _ h => h) (Or.inl ⟨by rfl, ?_⟩) hH3 ?_
            rotate_left
            · (intro w hSw; (try dsimp only at hSw); go_simp <;> (with_reducible rfl))
            try simp only [Act.put, List.setIfInBounds_toArray, List.set_cons_zero, List.set_cons_succ]
            refine wpAnyH_done (by kernel_rfl) ?_ _
            go_wp2
            go_ret
            exact ⟨rfl, HB7.out⟩
  · clear hmom hguard hz hsi hl1
    go_enter Tryz.func33, Tryz.ntmps33
    go_wp2_with (first | ((with_reducible refine gate_dst (N := 4) rfl ?_); refine box_event ?hg (N := 4) ?hd (cs := rosC r A c T d) (t := 25) ?hr ?_; (case hd => rfl); (case hg => rfl); (case hr => first | (go_simp; done) | (go_simp; rfl)); intro gr hgr w1 hbox_ hb_; have BR1 := Aside0.mk hbox_; have Hgr := Aside0.mk hgr; have HB1 := Aside0.mk hb_; clear hbox_ hb_ hgr) | ((with_reducible refine gate_dst (N := 7) rfl ?_); refine box_event ?hg (N := 7) ?hd (cs := #[.slice A1 shown.length c1]) (t := 26) ?hr ?_; (case hd => rfl); (case hg => rfl); (case hr => first | (go_simp; done) | (go_simp; rfl)); intro gs hgs w3 hbox_ hb_; have BS3 := Aside0.mk hbox_; have Hgs := Aside0.mk hgs; have HB3 := Aside0.mk (below_step HB1.out hb_); have BR3 := Aside0.mk (blk_below BR1.out hb_); obtain ⟨q0, q1, q2, q3, q4⟩ := rosC_cells BR3.out; have q5 : w3.cell? ⟨gs, 0, none⟩ = some (.slice A1 shown.length c1) := (blk_cell hbox_ 0).trans rfl; clear hbox_ hb_ hgs) | (go_at_call 108; refine (hbare _ (hR.out.below HB3.out) (IntsAt.below hL.out HB3.out)).mono ?_; rintro e w4 ⟨rfl, hb_⟩; have HB4 := Aside0.mk (below_step HB3.out hb_); have BR4 := Aside0.mk (blk_below BR3.out hb_); have BS4 := Aside0.mk (blk_below BS3.out hb_); clear q0 q1 q2 q3 q4 q5; obtain ⟨q0, q1, q2, q3, q4⟩ := rosC_cells BR4.out; have q5 : w4.cell? ⟨gs, 0, none⟩ = some (.slice A1 shown.length c1) := (blk_cell BS4.out 0).trans rfl; clear hb_) | (go_at_call 116; refine (hshown _ (hR.out.below HB4.out) (IntsAt.below hS.out HB4.out)).mono ?_; rintro e w5 ⟨rfl, hb_⟩; have HB5 := Aside0.mk (below_step HB4.out hb_); have BR5 := Aside0.mk (blk_below BR4.out hb_); have BS5 := Aside0.mk (blk_below BS4.out hb_); clear q0 q1 q2 q3 q4 q5; obtain ⟨q0, q1, q2, q3, q4⟩ := rosC_cells BR5.out; have q5 : w5.cell? ⟨gs, 0, none⟩ = some (.slice A1 shown.length c1) := (blk_cell BS5.out 0).trans rfl; clear hb_))
    go_ret
    exact ⟨rfl, HB4.out⟩
end Go.Proofs.YtflolfbkpjgjaaaGreatDoor
end
section
namespace Go.Proofs.YtflolfbkpjgjaaaGreatDoor
section
variable {P : Program} {ops : Array Oper} {Q : Exit → Act → World → Prop} {md : Region.Mode} {S : World → Prop}
theorem tk (i : Nat) {oi : Oper} {v : Value} {fuel : Nat} {listed : Array Bool} {a : Act} {w : World} (hi : ops[i]? = some oi)
    (hc : (Region.noSelect ops && (Region.free md ops listed i && (Region.ready md ops listed).contains i)) = true) (hQ : ∀ c a w, Q (.panic c) (a.put oi.dst v) w → Q (.panic c) a w)
    (hw : Region.wanted oi (yielded ops a.tmps) = true) (hy : ∀ w, S w → (execOp a.eval oi).run P w = .ok (.value v) w) (hS : S w)
    (h : wpAnyH P md ops Q S fuel (listed.setIfInBounds i true) (a.put oi.dst v) w) : wpAnyH P md ops Q S (fuel + 1) listed a w := by
  rw [Bool.and_eq_true, Bool.and_eq_true] at hc
  exact wpAnyH_take hi hc.1 hc.2.1 hc.2.2 hQ (Or.inl ⟨hw, hy⟩) hS h
theorem tu (i : Nat) {oi : Oper} {fuel : Nat} {listed : Array Bool} {a : Act} {w : World} (hi : ops[i]? = some oi)
    (hc : (Region.noSelect ops && (Region.free md ops listed i && (Region.ready md ops listed).contains i)) = true) (hQ : ∀ c a w, Q (.panic c) (a.put oi.dst undef) w → Q (.panic c) a w)
    (hw : Region.wanted oi (yielded ops a.tmps) = false) (hS : S w)
    (h : wpAnyH P md ops Q S fuel (listed.setIfInBounds i true) (a.put oi.dst undef) w) : wpAnyH P md ops Q S (fuel + 1) listed a w := by
  rw [Bool.and_eq_true, Bool.and_eq_true] at hc
  exact wpAnyH_take hi hc.1 hc.2.1 hc.2.2 hQ (Or.inr ⟨hw, rfl⟩) hS h
end
end Go.Proofs.YtflolfbkpjgjaaaGreatDoor
end
