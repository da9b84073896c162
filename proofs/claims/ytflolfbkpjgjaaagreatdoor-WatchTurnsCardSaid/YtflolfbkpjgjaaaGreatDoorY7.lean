/- What the proofs lean on, part 7: contracts of the functions that all the laws reach, and the plain words for them. -/
import Derived.Test.YtflolfbkpjgjaaaGreatDoorY6
set_option linter.unusedVariables false
set_option linter.unusedSimpArgs false
section
namespace Go.Proofs.YtflolfbkpjgjaaaGreatDoor
open Go.RowKit Go.Proofs.YtflolfbkpjgjaaaGreatDoorW.PrintWords
open Go.Proofs.YtflolfbkpjgjaaaGreatDoorW.PrintMore
def o23_14_0 : Oper := { dst := some 59, op := Op.move (Operand.tmp 9), type := 26, pos := "plan.go:263", after := #[], guard := none }
def o23_14_1 : Oper := { dst := some 60, op := Op.move (Operand.tmp 10), type := 3, pos := "plan.go:263", after := #[], guard := none }
def o23_14_2 : Oper := { dst := some 61, op := Op.move (Operand.tmp 9), type := 26, pos := "plan.go:263", after := #[], guard := none }
def o23_14_3 : Oper := { dst := some 62, op := Op.move (Operand.tmp 10), type := 3, pos := "plan.go:263", after := #[], guard := none }
def o23_14_4 : Oper := { dst := some 63, op := Op.indexAddr 26 (Operand.tmp 61) (Operand.tmp 62), type := 0, pos := "plan.go:263", after := #[{ on := 2, ground := Ground.data }, { on := 3, ground := Ground.data }], guard := none }
def o23_14_5 : Oper := { dst := some 64, op := Op.load 3 (Operand.tmp 63), type := 3, pos := "plan.go:263", after := #[{ on := 4, ground := Ground.data }], guard := none }
def o23_14_6 : Oper := { dst := some 65, op := Op.load 25 (Operand.tmp 2), type := 25, pos := "plan.go:263", after := #[], guard := none }
def o23_14_7 : Oper := { dst := some 66, op := Op.move (Operand.tmp 11), type := 26, pos := "plan.go:263", after := #[], guard := none }
def o23_14_8 : Oper := { dst := some 67, op := Op.call { callee := Callee.value (Operand.func 86), args := #[Operand.tmp 65, Operand.tmp 66], argTypes := #[25, 26] }, type := 3, pos := "plan.go:263", after := #[{ on := 6, ground := Ground.data }, { on := 7, ground := Ground.data }], guard := none }
def o23_14_9 : Oper := { dst := some 68, op := Op.call { callee := Callee.builtin Builtin.min, args := #[Operand.tmp 64, Operand.tmp 67], argTypes := #[3, 3] }, type := 3, pos := "plan.go:263", after := #[{ on := 5, ground := Ground.data }, { on := 8, ground := Ground.data }], guard := none }
def o23_14_10 : Oper := { dst := some 69, op := Op.indexAddr 26 (Operand.tmp 59) (Operand.tmp 60), type := 0, pos := "plan.go:263", after := #[{ on := 0, ground := Ground.data }, { on := 1, ground := Ground.data }, { on := 0, ground := Ground.phase }, { on := 1, ground := Ground.phase }, { on := 2, ground := Ground.phase }, { on := 3, ground := Ground.phase }, { on := 4, ground := Ground.phase }, { on := 5, ground := Ground.phase }, { on := 6, ground := Ground.phase }, { on := 7, ground := Ground.phase }, { on := 8, ground := Ground.phase }, { on := 9, ground := Ground.phase }], guard := none }
def o23_14_11 : Oper := { dst := none, op := Op.store 3 (Operand.tmp 69) (Operand.tmp 68), type := 0, pos := "plan.go:263", after := #[{ on := 10, ground := Ground.data }, { on := 9, ground := Ground.data }, { on := 8, ground := Ground.chain }, { on := 0, ground := Ground.phase }, { on := 1, ground := Ground.phase }, { on := 2, ground := Ground.phase }, { on := 3, ground := Ground.phase }, { on := 4, ground := Ground.phase }, { on := 5, ground := Ground.phase }, { on := 6, ground := Ground.phase }, { on := 7, ground := Ground.phase }, { on := 8, ground := Ground.phase }, { on := 9, ground := Ground.phase }], guard := none }
set_option maxHeartbeats 8000000 in
set_option maxRecDepth 100000 in
theorem prices_calls (v : Value) (r : Ros) (gate : Int) (w : World) (hv : RosAt w v r) :
    Calls Tryz.prog 23 #[v, .int .i64 gate] w fun e w' => ∃ lv E L, e = .returned (.tuple #[lv, .int .i64 E]) ∧ w'.ownsRow w.heap.size 3 1 lv L.length (nums .i64 L) ∧ Below w.heap.size w w' ∧ PricesOf r gate E L := by
  have hR := Aside0.mk hv
  obtain ⟨A, c, T, d, rfl, h1, h2, h3, h4⟩ := hv
  clear h3 h4
  generalize hPost : (fun (e : Ending) (w' : World) => ∃ lv E L, e = .returned (.tuple #[lv, .int .i64 E]) ∧ w'.ownsRow w.heap.size 3 1 lv L.length (nums .i64 L) ∧ Below w.heap.size w w' ∧ PricesOf r gate E L) = Post
  have HQ : Aside0 (∀ lv E L w', w'.ownsRow w.heap.size 3 1 lv L.length (nums .i64 L) → Below w.heap.size w w' → PricesOf r gate E L → Post (.returned (.tuple #[lv, .int .i64 E])) w') := ⟨fun lv E L w' a b c => hPost ▸ ⟨lv, E, L, rfl, a, b, c⟩⟩
  clear hPost
  have hgat := fun w (h : RosAt w (.agg (rosC r A c T d)) r) => gated_calls (.agg (rosC r A c T d)) r gate w h
  have hz := fun h => gatedE_zero (r := r) (gate := gate) h
  have HPO : Aside0 (∀ g, gatedE r gate = g → ∀ E L, ((g != 0) = true ∧ E = g ∧ L = []) ∨ ((g != 0) = false ∧ (∀ p, ¬ Plan (grOf r gate) p) ∧ E = 4 ∧ L = []) ∨ ((g != 0) = false ∧ E = 0 ∧ ∃ P fin, P ≠ [] ∧ Best (grOf r gate) (wtBy r) P ∧ Least (grOf r gate) (wtBy r) fin ∧ L = pricesL r gate P fin) → PricesOf r gate E L) := ⟨fun g e E L h => by subst e; exact h⟩
  generalize hge : gatedE r gate = ge at *
  have HPO2 := Aside0.mk (HPO.out ge rfl)
  clear HPO hge
  cases hc : (ge != 0)
  · have e0 : ge = 0 := by simpa using hc
    subst e0
    have V := (hz rfl).1
    have HV := Aside0.mk V
    obtain ⟨K, fin, hK, hLS⟩ := waysW_least (by_ord V gate)
    have HBst := Aside0.mk (planW_best (by_ord V gate) hLS)
    have HLst := Aside0.mk hLS
    have hplan := fun w gb (h : RosAt w (.agg (rosC r A c T d)) r) (hc : CmpIn 146 #[.pointer (some ⟨gb, 0, none⟩)] (byF r) (OfTurns r) w) => plan_calls (.agg (rosC r A c T d)) r gate 146 #[.pointer (some ⟨gb, 0, none⟩)] (byF r) w K fin V h enter146 hc hK
    have hways := fun w gb (h : RosAt w (.agg (rosC r A c T d)) r) (hc : CmpIn 146 #[.pointer (some ⟨gb, 0, none⟩)] (byF r) (OfTurns r) w) => ways_calls (.agg (rosC r A c T d)) r gate 146 #[.pointer (some ⟨gb, 0, none⟩)] (byF r) w K fin V h enter146 hc hK
    have h24 := V.turns
    clear hz hc V hK hLS
    generalize planW (grOf r gate) (natF (byF r)) fin = P at *
    cases hP : decide (P ≠ [])
    · have hP' : P = [] := by simpa using hP
      rw [hP] at hplan
      have HQ' : Aside0 (∀ w', Below w.heap.size w w' → Post (.returned (.tuple #[.slice none 0 0, .int .i64 4])) w') := ⟨fun w' hb => HQ.out (.slice none 0 0) 4 [] w' (own_nil _ _ _ _) hb (HPO2.out 4 [] (.inr (.inl ⟨rfl, fun p hp => (HBst.out.least p hp).1 hP', rfl, rfl⟩)))⟩
      clear hP hP'
      go_enter Tryz.func23, Tryz.ntmps23
      go_wp2_with (first | ((with_reducible refine gate_dst (N := 2) rfl ?_); refine box_event ?hg (N := 2) ?hd (cs := rosC r A c T d) (t := 25) ?hr ?_; (case hd => rfl); (case hg => rfl); (case hr => first | (go_simp; done) | (go_simp; rfl)); intro g hg w3 hbox_ hb_; have BK := Aside0.mk hbox_; have Hg := Aside0.mk hg; have HB := Aside0.mk hb_; obtain ⟨q0, q1, q2, q3, q4⟩ := rosC_cells hbox_; clear hbox_ hb_ hg) | (go_at_call 77; refine (hgat _ (hR.out.below HB.out)).mono ?_; rintro e w4 ⟨rfl, hb_⟩; have HB4 := Aside0.mk (below_step HB.out hb_); have BK4 := Aside0.mk (blk_below BK.out hb_); clear q0 q1 q2 q3 q4; obtain ⟨q0, q1, q2, q3, q4⟩ := rosC_cells BK4.out; clear hb_))
      go_region_held3 (fun w' => w'.cell? ⟨g, 0, none⟩ = some (.int .i64 r.gates) ∧ w'.cell? ⟨g, 1, none⟩ = some (.int .i64 r.frm) ∧ w'.cell? ⟨g, 2, none⟩ = some (.int .i64 r.til) ∧ w'.cell? ⟨g, 3, none⟩ = some (.slice A r.ahead.length c) ∧ w'.cell? ⟨g, 4, none⟩ = some (.slice T r.turns.length d)) (go_keep) (first | (go_at_call 84; refine (by_calls _ r _ (hR.out.below (below_step HB4.out ?_))).mono ?_; (repeat (first | exact Below.refl _ _ | apply below_alloc | apply pw_below_drewN | apply below_drew)); rintro e w5 ⟨gb, rfl, hbb, hb_⟩; have HB5 := Aside0.mk (below_step (below_drew HB4.out) hb_); have BK5 := Aside0.mk (blk_below (w := w4.drew) BK4.out hb_); have HBB := Aside0.mk hbb; obtain ⟨s0, s1, s2, s3, s4⟩ := rosC_cells BK5.out; clear hb_ hbb) | (go_at_call 83; refine (hplan _ _ (hR.out.below HB5.out) (by1_cmp HV.out HBB.out)).mono ?_; rintro e w6 ⟨lv, ba0, rfl, hl_, hb_⟩; have HL6 := Aside0.mk hl_; have HB6 := Aside0.mk (below_step HB5.out hb_); have BK6 := Aside0.mk (blk_below BK5.out hb_); obtain ⟨t0, t1, t2, t3, t4⟩ := rosC_cells BK6.out; clear hl_ hb_))
      go_wp2
      exact HQ'.out _ HB6.out
    · have hP' : P ≠ [] := by simpa using hP
      rw [hP] at hplan
      have HQ' : Aside0 (∀ lv w', w'.ownsRow w.heap.size 3 1 lv r.turns.length (nums .i64 (pricesN r gate P fin r.turns.length)) → Below w.heap.size w w' → Post (.returned (.tuple #[lv, .int .i64 0])) w') := ⟨fun lv w' ho hb => HQ.out lv 0 (pricesL r gate P fin) w' (by rw [← pricesN_end, pricesN_len _ _ _ _ _ (Nat.le_refl _)]; exact ho) hb (HPO2.out 0 _ (.inr (.inr ⟨rfl, rfl, P, fin, hP', HBst.out, HLst.out, rfl⟩)))⟩
      have HPn := Aside0.mk hP'
      have HPin : Aside0 ((∀ x ∈ intsN P, 0 ≤ x ∧ x < r.turns.length) ∧ (intsN P).length ≤ 1000000) := ⟨by
        have hp := (HBst.out.plan.resolve_left hP').way
        have hl := nodup_len _ P hp.nd hp.lt
        have hl : P.length ≤ r.turns.length := hl
        refine ⟨fun x hx => ?_, by rw [intsN_len]; omega⟩
        obtain ⟨i, hi, rfl⟩ := mem_ints.1 hx
        have : i < r.turns.length := hp.lt i hi
        omega⟩
      clear hP hP' HQ HPO2
      have hmk := print_make (P := Tryz.prog) 26 3 .i64 8 Tryz.underlying26 info3 (by omega) r.turns.length (by omega)
      go_enter Tryz.func23, Tryz.ntmps23
      go_wp2_with (first | ((with_reducible refine gate_dst (N := 2) rfl ?_); refine box_event ?hg (N := 2) ?hd (cs := rosC r A c T d) (t := 25) ?hr ?_; (case hd => rfl); (case hg => rfl); (case hr => first | (go_simp; done) | (go_simp; rfl)); intro g hg w3 hbox_ hb_; have BK := Aside0.mk hbox_; have Hg := Aside0.mk hg; have HB := Aside0.mk hb_; obtain ⟨q0, q1, q2, q3, q4⟩ := rosC_cells hbox_; clear hbox_ hb_ hg) | (go_at_call 77; refine (hgat _ (hR.out.below HB.out)).mono ?_; rintro e w4 ⟨rfl, hb_⟩; have HB4 := Aside0.mk (below_step HB.out hb_); have BK4 := Aside0.mk (blk_below BK.out hb_); clear q0 q1 q2 q3 q4; obtain ⟨q0, q1, q2, q3, q4⟩ := rosC_cells BK4.out; clear hb_))
      go_region_held3 (fun w' => w'.cell? ⟨g, 0, none⟩ = some (.int .i64 r.gates) ∧ w'.cell? ⟨g, 1, none⟩ = some (.int .i64 r.frm) ∧ w'.cell? ⟨g, 2, none⟩ = some (.int .i64 r.til) ∧ w'.cell? ⟨g, 3, none⟩ = some (.slice A r.ahead.length c) ∧ w'.cell? ⟨g, 4, none⟩ = some (.slice T r.turns.length d)) (go_keep) (first | (go_at_call 84; refine (by_calls _ r _ (hR.out.below (below_step HB4.out ?_))).mono ?_; (repeat (first | exact Below.refl _ _ | apply below_alloc | apply pw_below_drewN | apply below_drew)); rintro e w5 ⟨gb, rfl, hbb, hb_⟩; have HB5 := Aside0.mk (below_step (below_drew HB4.out) hb_); have BK5 := Aside0.mk (blk_below (w := w4.drew) BK4.out hb_); have HBB := Aside0.mk hbb; obtain ⟨s0, s1, s2, s3, s4⟩ := rosC_cells BK5.out; clear hb_ hbb) | (go_at_call 83; refine (hplan _ _ (hR.out.below HB5.out) (by1_cmp HV.out HBB.out)).mono ?_; rintro e w6 ⟨lv, ba0, rfl, hl_, hb_⟩; have HL6 := Aside0.mk hl_; have HB6 := Aside0.mk (below_step HB5.out hb_); have BK6 := Aside0.mk (blk_below BK5.out hb_); obtain ⟨t0, t1, t2, t3, t4⟩ := rosC_cells BK6.out; clear hl_ hb_))
      obtain ⟨e, _⟩ | ⟨_, adP, cP, e, hlP, hcP, _⟩ := HL6.out
      · exact absurd e HPn.out
      subst e
      have HLP : Aside0 (IntsAt w6 (.slice (some adP) P.length cP) (intsN P)) := ⟨HL6.out.asInts⟩
      clear hcP HL6
      go_wp2
      clear t0 t1 t2 t3 t4
      have HO7 := Aside0.mk (own_made w6 w.heap.size 3 .i64 r.turns.length HB6.out.size (by omega))
      have HW7 : Aside0 (Below w6.heap.size w6 (w6.alloc (.cells (madeCells #[.int .i64 0] r.turns.length) 3))) := ⟨below_alloc (Below.refl _ _) _⟩
      have BK7 := Aside0.mk (blk_alloc BK6.out (.cells (madeCells #[.int .i64 0] r.turns.length) 3))
      have HZ7 : Aside0 (w6.heap.size < (w6.alloc (.cells (madeCells #[.int .i64 0] r.turns.length) 3)).heap.size) := ⟨by rw [alloc_sz]; omega⟩
      generalize w6.alloc (.cells (madeCells #[.int .i64 0] r.turns.length) 3) = w7 at *
      obtain ⟨q0, q1, q2, q3, q4⟩ := rosC_cells BK7.out
      go_region_held3 (fun w' => w'.cell? ⟨g, 0, none⟩ = some (.int .i64 r.gates) ∧ w'.cell? ⟨g, 1, none⟩ = some (.int .i64 r.frm) ∧ w'.cell? ⟨g, 2, none⟩ = some (.int .i64 r.til) ∧ w'.cell? ⟨g, 3, none⟩ = some (.slice A r.ahead.length c) ∧ w'.cell? ⟨g, 4, none⟩ = some (.slice T r.turns.length d)) (go_keep) (first | (go_at_call 84; refine (by_calls _ r _ (hR.out.below (below_step HB6.out (below_step HW7.out ?_)))).mono ?_; (repeat (first | exact Below.refl _ _ | apply below_alloc | apply pw_below_drewN | apply below_drew)); rintro e w8 ⟨gb, rfl, hbb, hb_⟩; have HB8 := Aside0.mk (below_step (below_drew HW7.out) hb_); have BK8 := Aside0.mk (blk_below (w := w7.drew) BK7.out hb_); have HO8 := Aside0.mk (pw_own_below (w := w7.drew) HO7.out hb_); have HBB := Aside0.mk hbb; have HZ8 := Aside0.mk (Nat.lt_of_lt_of_le HZ7.out hb_.size); obtain ⟨s0, s1, s2, s3, s4⟩ := rosC_cells BK8.out; clear hb_ hbb) | (go_at_call 85; refine (hways _ _ (hR.out.below (below_step HB6.out HB8.out)) (by1_cmp HV.out HBB.out)).mono ?_; rintro e w9 ⟨gr9, gc9, bo9, ba, A9, c9, T9, d9, rfl, hs_, hg_⟩; have HS9 := Aside0.mk hs_; have HG9 := Aside0.mk hg_; have HB9 := Aside0.mk (below_step HB8.out hs_.base); have BK9 := Aside0.mk (blk_below BK8.out hs_.base); have HO9 := Aside0.mk (pw_own_below HO8.out hs_.base); have HNB := Aside0.mk (Nat.lt_of_lt_of_le HZ8.out hs_.nb); obtain ⟨u0, u1, u2, u3, u4⟩ := rosC_cells BK9.out; clear hs_ hg_))
      go_wp2
      clear u0 u1 u2 u3 u4 hmk
      have HGO : Aside0 (w6.heap.size ≤ w6.heap.size) := ⟨Nat.le_refl _⟩
      have HGB : Aside0 (g < w6.heap.size) := ⟨blk_lt BK6.out⟩
      have HGW : Aside0 (w.heap.size ≤ w6.heap.size) := ⟨HB6.out.size⟩
      have HR6 := Aside0.mk (hR.out.below HB6.out)
      generalize hgo : w6.heap.size = go at *
      go_loopw [38] (fun iv wr => ∃ k : Nat, k ≤ r.turns.length ∧ iv = .int .i64 k ∧ Aside0 (wr.ownsRow w.heap.size 3 1 (.slice (some ⟨go, 0, none⟩) r.turns.length r.turns.length) r.turns.length (nums .i64 (pricesN r gate P fin k))) ∧ Aside0 (Below w6.heap.size w6 wr) ∧ Aside0 (Kept w9 wr (fun k => k = go))) (fun iv _ => r.turns.length - (intOf iv).toNat)
      case atStart => exact ⟨0, Nat.zero_le _, rfl, ⟨by
        have h := HO9.out
        unfold pricesN
        exact h⟩, ⟨by rw [hgo]; exact HB9.out⟩, ⟨Kept.refl _ _⟩⟩
      case round =>
        clear HO9
        obtain ⟨k, hk, rfl, HO, HY, HK⟩ := hrel
        by_cases hlt : k < r.turns.length
        · have hb0 : (0 : Int) ≤ (k : Int) := by omega
          have hb1 : (k : Int) < (r.turns.length : Int) := by omega
          obtain ⟨vk, hvk, hlk⟩ := HS9.out.at hlt
          have hgoba : go < ba := HNB.out
          have hvk' := cell_kept hvk HK.out (show ¬ ba = go by omega)
          have HLK := Aside0.mk hlk
          clear hvk hlk
          obtain ⟨A', c', T', d', e', j1, j2, j3, j4⟩ := HR6.out
          cases e'
          obtain ⟨ad, hA, g0, g1, g2, g3, g4, g5⟩ := CT_at (Kd.C_below j4 HY.out) k (by omega) (by omega)
          cases hA
          have HT : Aside0 (r.turns.getD ((k : Int)).toNat Trn.z = tn r k) := ⟨rfl⟩
          rw [HT.out] at g0
          rw [show ((k : Int)).toNat = k from rfl] at g0
          clear HT g1 g2 g3 g4 g5 j1 j2 j3 j4
          have hcost := fun W (hW : Below w6.heap.size w6 W) => cost_calls (.agg (rosC r A c (some ad) d)) (.slice (some adP) P.length cP) r (intsN P) W HV.out (HR6.out.below hW) (IntsAt.below HLP.out hW) HPin.out.1 HPin.out.2
          have BKr := Aside0.mk (blk_below BK6.out HY.out)
          have HSK : Aside0 (((tn r (k : Int)).gate != gate) = true → pricesN r gate P fin k = pricesN r gate P fin (k + 1)) := ⟨pricesN_skip r gate P fin k hlt⟩
          have HST := Aside0.mk (pricesN_step r gate P fin k hlt)
          have HPW : Aside0 (∀ l, fin.getD k [] = l → ((tn r (k : Int)).gate != gate) = false → prW r gate P fin k = if l = [] then costL r (intsN P) else min (costL r (intsN P)) (costL r (intsN l))) := ⟨fun l e h => by subst e; unfold prW; rw [h]; rfl⟩
          have HGd := Aside0.mk (HG9.out k)
          generalize hfl : fin.getD k [] = l at *
          have HPW2 := Aside0.mk (HPW.out l rfl)
          clear HPW hfl
          cases e1 : ((tn r (k : Int)).gate != gate)
          · have HPW3 := Aside0.mk (HPW2.out e1)
            clear HPW2 HSK
            obtain ⟨q0, q1, q2, q3, q4⟩ := rosC_cells BKr.out
            generalize tn r (k : Int) = tt at *
            generalize costL r (intsN P) = cb at *
            rcases HLK.out with ⟨rfl, rfl⟩ | ⟨hl0, adl, cl, rfl, hlc, hci, hlb⟩
            · have HST2 : Aside0 ((pricesN r gate P fin k).set k cb = pricesN r gate P fin (k + 1)) := ⟨by rw [← HST.out, HPW3.out, if_pos rfl]⟩
              go_wp2_with (go_at_call 86; refine (hcost _ HY.out).mono ?_; rintro e w10 ⟨rfl, hb_⟩; have HY10 := Aside0.mk (below_step HY.out hb_); have HO10 := Aside0.mk (pw_own_below HO.out hb_); have HK10 := Aside0.mk (HK.out.below hb_); obtain ⟨k1, k2⟩ := own_at HO10.out (k : Int) hb0 hb1; rw [show ((k : Int)).toNat = k from rfl] at k1 k2; clear hb_)
              go_roundw
              case rel => exact ⟨k + 1, by omega, by go_num, ⟨by rw [← HST2.out]; exact (own_store HO10.out (k : Int) cb).1⟩, ⟨HY10.out.setCell (by rw [hgo]; exact Nat.le_refl _) _⟩, ⟨HK10.out.setCell (.inl rfl) _⟩⟩
              case measure => simp [intOf]; omega
            · have HST2 : Aside0 ((pricesN r gate P fin k).set k (min cb (costL r (intsN l))) = pricesN r gate P fin (k + 1)) := ⟨by rw [← HST.out, HPW3.out, if_neg hl0]⟩
              have HLL : Aside0 (ListV w9 ba (.slice (some adl) l.length cl) l) := HLK
              have hcost2 := fun W (hW : Below w6.heap.size w6 W) (hK' : Kept w9 W (fun k => k = go)) => cost_calls (.agg (rosC r A c (some ad) d)) (.slice (some adl) l.length cl) r (intsN l) W HV.out (HR6.out.below hW) ((ListV.far HLL.out hK' HNB.out).asInts) (by
                intro x hx
                obtain ⟨i, hi, rfl⟩ := mem_ints.1 hx
                have := HGd.out.1 i hi
                omega) (by
                rw [intsN_len]
                have := nodup_len r.turns.length l HGd.out.2 HGd.out.1
                omega)
              generalize costL r (intsN l) = cl2 at *
              clear hci
              go_wp2_with (go_at_call 86; refine (hcost _ HY.out).mono ?_; rintro e w10 ⟨rfl, hb_⟩; have HY10 := Aside0.mk (below_step HY.out hb_); have HO10 := Aside0.mk (pw_own_below HO.out hb_); have HK10 := Aside0.mk (HK.out.below hb_); obtain ⟨k1, k2⟩ := own_at HO10.out (k : Int) hb0 hb1; rw [show ((k : Int)).toNat = k from rfl] at k1 k2; clear hb_)
              have HO11 := Aside0.mk (own_store HO10.out (k : Int) cb).1
              have HY11 : Aside0 (Below w6.heap.size w6 (w10.setCell ⟨go, ((k : Int)).toNat, none⟩ (.int .i64 cb))) := ⟨HY10.out.setCell (by rw [hgo]; exact Nat.le_refl _) _⟩
              have HK11 : Aside0 (Kept w9 (w10.setCell ⟨go, ((k : Int)).toNat, none⟩ (.int .i64 cb)) (fun k => k = go)) := ⟨HK10.out.setCell (.inl rfl) _⟩
              rw [show ((k : Int)).toNat = k from rfl] at HO11 HY11 HK11
              clear k1 k2 q0 q1 q2 q3 q4 HO10 HY10 HK10
              generalize w10.setCell ⟨go, k, none⟩ (.int .i64 cb) = w11 at *
              have HRD : Aside0 (rd ((pricesN r gate P fin k).set k cb) (k : Int) = cb) := ⟨by
                unfold rd
                rw [show ((k : Int)).toNat = k from rfl, getD_set_int, if_pos ⟨rfl, by rw [pricesN_len _ _ _ _ _ hk]; exact hlt⟩]⟩
              obtain ⟨k1, k2⟩ := own_at HO11.out (k : Int) hb0 hb1
              rw [show ((k : Int)).toNat = k from rfl] at k1 k2
              have k1' : w11.cell? ⟨go, k, none⟩ = some (.int .i64 cb) := by rw [k1, HRD.out]
              clear k1
              obtain ⟨q0, q1, q2, q3, q4⟩ := rosC_cells (blk_below BK6.out HY11.out)
              by_cases hmn : cl2 < cb
              · refine wp_region_any (by kernel_rfl) ?_
                try (change wpAny _ _ _ _ _ _ _ (World.drew _))
                refine wpAny_take (i := 0) (oi := o23_14_0) (v := ?_) rfl (by kernel_rfl) (by kernel_rfl) (by kernel_rfl) (fun _ _ _ h => h) (Or.inl ⟨by rfl, ?_⟩) ?_
                rotate_left
                · (intro w; unfold o23_14_0; go_simp <;> (with_reducible rfl))
                simp only [Act.put, o23_14_0, List.setIfInBounds_toArray, List.set_cons_zero, List.set_cons_succ]
                refine wpAny_take (i := 1) (oi := o23_14_1) (v := ?_) rfl (by kernel_rfl) (by kernel_rfl) (by kernel_rfl) (fun _ _ _ h => h) (Or.inl ⟨by rfl, ?_⟩) ?_
                rotate_left
                · (intro w; unfold o23_14_1; go_simp <;> (with_reducible rfl))
                simp only [Act.put, o23_14_1, List.setIfInBounds_toArray, List.set_cons_zero, List.set_cons_succ]
                refine wpAny_take (i := 2) (oi := o23_14_2) (v := ?_) rfl (by kernel_rfl) (by kernel_rfl) (by kernel_rfl) (fun _ _ _ h => h) (Or.inl ⟨by rfl, ?_⟩) ?_
                rotate_left
                · (intro w; unfold o23_14_2; go_simp <;> (with_reducible rfl))
                simp only [Act.put, o23_14_2, List.setIfInBounds_toArray, List.set_cons_zero, List.set_cons_succ]
                refine wpAny_take (i := 3) (oi := o23_14_3) (v := ?_) rfl (by kernel_rfl) (by kernel_rfl) (by kernel_rfl) (fun _ _ _ h => h) (Or.inl ⟨by rfl, ?_⟩) ?_
                rotate_left
                · (intro w; unfold o23_14_3; go_simp <;> (with_reducible rfl))
                simp only [Act.put, o23_14_3, List.setIfInBounds_toArray, List.set_cons_zero, List.set_cons_succ]
                refine wpAny_take (i := 4) (oi := o23_14_4) (v := ?_) rfl (by kernel_rfl) (by kernel_rfl) (by kernel_rfl) (fun _ _ _ h => h) (Or.inl ⟨by rfl, ?_⟩) ?_
                rotate_left
                · (intro w; unfold o23_14_4; go_simp <;> (with_reducible rfl))
                simp only [Act.put, o23_14_4, List.setIfInBounds_toArray, List.set_cons_zero, List.set_cons_succ]
                refine wpAny_take (i := 7) (oi := o23_14_7) (v := ?_) rfl (by kernel_rfl) (by kernel_rfl) (by kernel_rfl) (fun _ _ _ h => h) (Or.inl ⟨by rfl, ?_⟩) ?_
                rotate_left
                · (intro w; unfold o23_14_7; go_simp <;> (with_reducible rfl))
                simp only [Act.put, o23_14_7, List.setIfInBounds_toArray, List.set_cons_zero, List.set_cons_succ]
                refine wpAny_ready (rs := [5, 6]) (by kernel_rfl) (by simp) (AllReady.cons (o := o23_14_5) rfl (fun K' hK' => ?_) (AllReady.cons (o := o23_14_6) rfl (fun K' hK' => ?_) AllReady.nil))
                · unfold o23_14_5
                  go_simp
                  refine hK' _ _ ?_
                  clear hK' K'
                  try simp only [Act.put, List.setIfInBounds_toArray, List.set_cons_zero, List.set_cons_succ]
                  refine wpAny_ready (rs := [6]) (by kernel_rfl) (by simp) (AllReady.cons (o := o23_14_6) rfl (fun K' hK' => ?_) AllReady.nil)
                  unfold o23_14_6
                  go_simp
                  refine hK' _ _ ?_
                  clear hK' K'
                  try simp only [Act.put, List.setIfInBounds_toArray, List.set_cons_zero, List.set_cons_succ]
                  refine wpAny_ready (rs := [8]) (by kernel_rfl) (by simp) (AllReady.cons (o := o23_14_8) rfl (fun K' hK' => ?_) AllReady.nil)
                  unfold o23_14_8
                  go_simp
                  go_at_call 86; refine (hcost2 _ (below_drew HY11.out) (HK11.out.drew)).mono ?_; rintro e w12 ⟨rfl, hb_⟩; have HY12 := Aside0.mk (below_step (below_drew HY11.out) hb_); have HO12 := Aside0.mk (pw_own_below (w := w11.drew) HO11.out hb_); have HK12 : Aside0 (Kept w9 w12 (fun k => k = go)) := ⟨Kept.below (W := w11.drew) (HK11.out.drew) hb_⟩; obtain ⟨k3, k4⟩ := own_at HO12.out (k : Int) hb0 hb1; rw [show ((k : Int)).toNat = k from rfl] at k3 k4; have k5 : w12.cell? ⟨go, k, none⟩ = some (.int .i64 cb) := (by rw [k3]; exact congrArg (fun x => some (Value.int .i64 x)) HRD.out); clear hb_ k3
                  refine hK' _ _ ?_
                  clear hK' K'
                  try simp only [Act.put, List.setIfInBounds_toArray, List.set_cons_zero, List.set_cons_succ]
                  refine wpAny_ready (rs := [9]) (by kernel_rfl) (by simp) (AllReady.cons (o := o23_14_9) rfl (fun K' hK' => ?_) AllReady.nil)
                  unfold o23_14_9
                  go_simp
                  refine hK' _ _ ?_
                  clear hK' K'
                  try simp only [Act.put, List.setIfInBounds_toArray, List.set_cons_zero, List.set_cons_succ]
                  refine wpAny_take (i := 10) (oi := o23_14_10) (v := ?_) rfl (by kernel_rfl) (by kernel_rfl) (by kernel_rfl) (fun _ _ _ h => h) (Or.inl ⟨by rfl, ?_⟩) ?_
                  rotate_left
                  · (intro w; unfold o23_14_10; go_simp <;> (with_reducible rfl))
                  simp only [Act.put, o23_14_10, List.setIfInBounds_toArray, List.set_cons_zero, List.set_cons_succ]
                  refine wpAny_ready (rs := [11]) (by kernel_rfl) (by simp) (AllReady.cons (o := o23_14_11) rfl (fun K' hK' => ?_) AllReady.nil)
                  unfold o23_14_11
                  go_simp
                  refine hK' _ _ ?_
                  clear hK' K'
                  try simp only [Act.put, List.setIfInBounds_toArray, List.set_cons_zero, List.set_cons_succ]
                  refine wpAny_done (by kernel_rfl) ?_ _
                  go_wp2
                  go_roundw
                  case rel => exact ⟨k + 1, by omega, by go_num, ⟨by (have hs_ := (own_store HO12.out (k : Int) cl2).1; rw [show ((k : Int)).toNat = k from rfl, List.set_set] at hs_; rw [← HST2.out, show min cb cl2 = cl2 by omega]; exact hs_)⟩, ⟨HY12.out.setCell (by rw [hgo]; exact Nat.le_refl _) _⟩, ⟨HK12.out.setCell (.inl rfl) _⟩⟩
                  case measure => simp [intOf]; omega
                · unfold o23_14_6
                  go_simp
                  refine hK' _ _ ?_
                  clear hK' K'
                  try simp only [Act.put, List.setIfInBounds_toArray, List.set_cons_zero, List.set_cons_succ]
                  refine wpAny_ready (rs := [5, 8]) (by kernel_rfl) (by simp) (AllReady.cons (o := o23_14_5) rfl (fun K' hK' => ?_) (AllReady.cons (o := o23_14_8) rfl (fun K' hK' => ?_) AllReady.nil))
                  · unfold o23_14_5
                    go_simp
                    refine hK' _ _ ?_
                    clear hK' K'
                    try simp only [Act.put, List.setIfInBounds_toArray, List.set_cons_zero, List.set_cons_succ]
                    refine wpAny_ready (rs := [8]) (by kernel_rfl) (by simp) (AllReady.cons (o := o23_14_8) rfl (fun K' hK' => ?_) AllReady.nil)
                    unfold o23_14_8
                    go_simp
                    go_at_call 86; refine (hcost2 _ (below_drew HY11.out) (HK11.out.drew)).mono ?_; rintro e w12 ⟨rfl, hb_⟩; have HY12 := Aside0.mk (below_step (below_drew HY11.out) hb_); have HO12 := Aside0.mk (pw_own_below (w := w11.drew) HO11.out hb_); have HK12 : Aside0 (Kept w9 w12 (fun k => k = go)) := ⟨Kept.below (W := w11.drew) (HK11.out.drew) hb_⟩; obtain ⟨k3, k4⟩ := own_at HO12.out (k : Int) hb0 hb1; rw [show ((k : Int)).toNat = k from rfl] at k3 k4; have k5 : w12.cell? ⟨go, k, none⟩ = some (.int .i64 cb) := (by rw [k3]; exact congrArg (fun x => some (Value.int .i64 x)) HRD.out); clear hb_ k3
                    refine hK' _ _ ?_
                    clear hK' K'
                    try simp only [Act.put, List.setIfInBounds_toArray, List.set_cons_zero, List.set_cons_succ]
                    refine wpAny_ready (rs := [9]) (by kernel_rfl) (by simp) (AllReady.cons (o := o23_14_9) rfl (fun K' hK' => ?_) AllReady.nil)
                    unfold o23_14_9
                    go_simp
                    refine hK' _ _ ?_
                    clear hK' K'
                    try simp only [Act.put, List.setIfInBounds_toArray, List.set_cons_zero, List.set_cons_succ]
                    refine wpAny_take (i := 10) (oi := o23_14_10) (v := ?_) rfl (by kernel_rfl) (by kernel_rfl) (by kernel_rfl) (fun _ _ _ h => h) (Or.inl ⟨by rfl, ?_⟩) ?_
                    rotate_left
                    · (intro w; unfold o23_14_10; go_simp <;> (with_reducible rfl))
                    simp only [Act.put, o23_14_10, List.setIfInBounds_toArray, List.set_cons_zero, List.set_cons_succ]
                    refine wpAny_ready (rs := [11]) (by kernel_rfl) (by simp) (AllReady.cons (o := o23_14_11) rfl (fun K' hK' => ?_) AllReady.nil)
                    unfold o23_14_11
                    go_simp
                    refine hK' _ _ ?_
                    clear hK' K'
                    try simp only [Act.put, List.setIfInBounds_toArray, List.set_cons_zero, List.set_cons_succ]
                    refine wpAny_done (by kernel_rfl) ?_ _
                    go_wp2
                    go_roundw
                    case rel => exact ⟨k + 1, by omega, by go_num, ⟨by (have hs_ := (own_store HO12.out (k : Int) cl2).1; rw [show ((k : Int)).toNat = k from rfl, List.set_set] at hs_; rw [← HST2.out, show min cb cl2 = cl2 by omega]; exact hs_)⟩, ⟨HY12.out.setCell (by rw [hgo]; exact Nat.le_refl _) _⟩, ⟨HK12.out.setCell (.inl rfl) _⟩⟩
                    case measure => simp [intOf]; omega
                  · unfold o23_14_8
                    go_simp
                    go_at_call 86; refine (hcost2 _ (below_drew HY11.out) (HK11.out.drew)).mono ?_; rintro e w12 ⟨rfl, hb_⟩; have HY12 := Aside0.mk (below_step (below_drew HY11.out) hb_); have HO12 := Aside0.mk (pw_own_below (w := w11.drew) HO11.out hb_); have HK12 : Aside0 (Kept w9 w12 (fun k => k = go)) := ⟨Kept.below (W := w11.drew) (HK11.out.drew) hb_⟩; obtain ⟨k3, k4⟩ := own_at HO12.out (k : Int) hb0 hb1; rw [show ((k : Int)).toNat = k from rfl] at k3 k4; have k5 : w12.cell? ⟨go, k, none⟩ = some (.int .i64 cb) := (by rw [k3]; exact congrArg (fun x => some (Value.int .i64 x)) HRD.out); clear hb_ k3
                    refine hK' _ _ ?_
                    clear hK' K'
                    try simp only [Act.put, List.setIfInBounds_toArray, List.set_cons_zero, List.set_cons_succ]
                    refine wpAny_ready (rs := [5]) (by kernel_rfl) (by simp) (AllReady.cons (o := o23_14_5) rfl (fun K' hK' => ?_) AllReady.nil)
                    unfold o23_14_5
                    go_simp
                    refine hK' _ _ ?_
                    clear hK' K'
                    try simp only [Act.put, List.setIfInBounds_toArray, List.set_cons_zero, List.set_cons_succ]
                    refine wpAny_ready (rs := [9]) (by kernel_rfl) (by simp) (AllReady.cons (o := o23_14_9) rfl (fun K' hK' => ?_) AllReady.nil)
                    unfold o23_14_9
                    go_simp
                    refine hK' _ _ ?_
                    clear hK' K'
                    try simp only [Act.put, List.setIfInBounds_toArray, List.set_cons_zero, List.set_cons_succ]
                    refine wpAny_take (i := 10) (oi := o23_14_10) (v := ?_) rfl (by kernel_rfl) (by kernel_rfl) (by kernel_rfl) (fun _ _ _ h => h) (Or.inl ⟨by rfl, ?_⟩) ?_
                    rotate_left
                    · (intro w; unfold o23_14_10; go_simp <;> (with_reducible rfl))
                    simp only [Act.put, o23_14_10, List.setIfInBounds_toArray, List.set_cons_zero, List.set_cons_succ]
                    refine wpAny_ready (rs := [11]) (by kernel_rfl) (by simp) (AllReady.cons (o := o23_14_11) rfl (fun K' hK' => ?_) AllReady.nil)
                    unfold o23_14_11
                    go_simp
                    refine hK' _ _ ?_
                    clear hK' K'
                    try simp only [Act.put, List.setIfInBounds_toArray, List.set_cons_zero, List.set_cons_succ]
                    refine wpAny_done (by kernel_rfl) ?_ _
                    go_wp2
                    go_roundw
                    case rel => exact ⟨k + 1, by omega, by go_num, ⟨by (have hs_ := (own_store HO12.out (k : Int) cl2).1; rw [show ((k : Int)).toNat = k from rfl, List.set_set] at hs_; rw [← HST2.out, show min cb cl2 = cl2 by omega]; exact hs_)⟩, ⟨HY12.out.setCell (by rw [hgo]; exact Nat.le_refl _) _⟩, ⟨HK12.out.setCell (.inl rfl) _⟩⟩
                    case measure => simp [intOf]; omega
              · refine wp_region_any (by kernel_rfl) ?_
                try (change wpAny _ _ _ _ _ _ _ (World.drew _))
                refine wpAny_take (i := 0) (oi := o23_14_0) (v := ?_) rfl (by kernel_rfl) (by kernel_rfl) (by kernel_rfl) (fun _ _ _ h => h) (Or.inl ⟨by rfl, ?_⟩) ?_
                rotate_left
                · (intro w; unfold o23_14_0; go_simp <;> (with_reducible rfl))
                simp only [Act.put, o23_14_0, List.setIfInBounds_toArray, List.set_cons_zero, List.set_cons_succ]
                refine wpAny_take (i := 1) (oi := o23_14_1) (v := ?_) rfl (by kernel_rfl) (by kernel_rfl) (by kernel_rfl) (fun _ _ _ h => h) (Or.inl ⟨by rfl, ?_⟩) ?_
                rotate_left
                · (intro w; unfold o23_14_1; go_simp <;> (with_reducible rfl))
                simp only [Act.put, o23_14_1, List.setIfInBounds_toArray, List.set_cons_zero, List.set_cons_succ]
                refine wpAny_take (i := 2) (oi := o23_14_2) (v := ?_) rfl (by kernel_rfl) (by kernel_rfl) (by kernel_rfl) (fun _ _ _ h => h) (Or.inl ⟨by rfl, ?_⟩) ?_
                rotate_left
                · (intro w; unfold o23_14_2; go_simp <;> (with_reducible rfl))
                simp only [Act.put, o23_14_2, List.setIfInBounds_toArray, List.set_cons_zero, List.set_cons_succ]
                refine wpAny_take (i := 3) (oi := o23_14_3) (v := ?_) rfl (by kernel_rfl) (by kernel_rfl) (by kernel_rfl) (fun _ _ _ h => h) (Or.inl ⟨by rfl, ?_⟩) ?_
                rotate_left
                · (intro w; unfold o23_14_3; go_simp <;> (with_reducible rfl))
                simp only [Act.put, o23_14_3, List.setIfInBounds_toArray, List.set_cons_zero, List.set_cons_succ]
                refine wpAny_take (i := 4) (oi := o23_14_4) (v := ?_) rfl (by kernel_rfl) (by kernel_rfl) (by kernel_rfl) (fun _ _ _ h => h) (Or.inl ⟨by rfl, ?_⟩) ?_
                rotate_left
                · (intro w; unfold o23_14_4; go_simp <;> (with_reducible rfl))
                simp only [Act.put, o23_14_4, List.setIfInBounds_toArray, List.set_cons_zero, List.set_cons_succ]
                refine wpAny_take (i := 7) (oi := o23_14_7) (v := ?_) rfl (by kernel_rfl) (by kernel_rfl) (by kernel_rfl) (fun _ _ _ h => h) (Or.inl ⟨by rfl, ?_⟩) ?_
                rotate_left
                · (intro w; unfold o23_14_7; go_simp <;> (with_reducible rfl))
                simp only [Act.put, o23_14_7, List.setIfInBounds_toArray, List.set_cons_zero, List.set_cons_succ]
                refine wpAny_ready (rs := [5, 6]) (by kernel_rfl) (by simp) (AllReady.cons (o := o23_14_5) rfl (fun K' hK' => ?_) (AllReady.cons (o := o23_14_6) rfl (fun K' hK' => ?_) AllReady.nil))
                · unfold o23_14_5
                  go_simp
                  refine hK' _ _ ?_
                  clear hK' K'
                  try simp only [Act.put, List.setIfInBounds_toArray, List.set_cons_zero, List.set_cons_succ]
                  refine wpAny_ready (rs := [6]) (by kernel_rfl) (by simp) (AllReady.cons (o := o23_14_6) rfl (fun K' hK' => ?_) AllReady.nil)
                  unfold o23_14_6
                  go_simp
                  refine hK' _ _ ?_
                  clear hK' K'
                  try simp only [Act.put, List.setIfInBounds_toArray, List.set_cons_zero, List.set_cons_succ]
                  refine wpAny_ready (rs := [8]) (by kernel_rfl) (by simp) (AllReady.cons (o := o23_14_8) rfl (fun K' hK' => ?_) AllReady.nil)
                  unfold o23_14_8
                  go_simp
                  go_at_call 86; refine (hcost2 _ (below_drew HY11.out) (HK11.out.drew)).mono ?_; rintro e w12 ⟨rfl, hb_⟩; have HY12 := Aside0.mk (below_step (below_drew HY11.out) hb_); have HO12 := Aside0.mk (pw_own_below (w := w11.drew) HO11.out hb_); have HK12 : Aside0 (Kept w9 w12 (fun k => k = go)) := ⟨Kept.below (W := w11.drew) (HK11.out.drew) hb_⟩; obtain ⟨k3, k4⟩ := own_at HO12.out (k : Int) hb0 hb1; rw [show ((k : Int)).toNat = k from rfl] at k3 k4; have k5 : w12.cell? ⟨go, k, none⟩ = some (.int .i64 cb) := (by rw [k3]; exact congrArg (fun x => some (Value.int .i64 x)) HRD.out); clear hb_ k3
                  refine hK' _ _ ?_
                  clear hK' K'
                  try simp only [Act.put, List.setIfInBounds_toArray, List.set_cons_zero, List.set_cons_succ]
                  refine wpAny_ready (rs := [9]) (by kernel_rfl) (by simp) (AllReady.cons (o := o23_14_9) rfl (fun K' hK' => ?_) AllReady.nil)
                  unfold o23_14_9
                  go_simp
                  refine hK' _ _ ?_
                  clear hK' K'
                  try simp only [Act.put, List.setIfInBounds_toArray, List.set_cons_zero, List.set_cons_succ]
                  refine wpAny_take (i := 10) (oi := o23_14_10) (v := ?_) rfl (by kernel_rfl) (by kernel_rfl) (by kernel_rfl) (fun _ _ _ h => h) (Or.inl ⟨by rfl, ?_⟩) ?_
                  rotate_left
                  · (intro w; unfold o23_14_10; go_simp <;> (with_reducible rfl))
                  simp only [Act.put, o23_14_10, List.setIfInBounds_toArray, List.set_cons_zero, List.set_cons_succ]
                  refine wpAny_ready (rs := [11]) (by kernel_rfl) (by simp) (AllReady.cons (o := o23_14_11) rfl (fun K' hK' => ?_) AllReady.nil)
                  unfold o23_14_11
                  go_simp
                  refine hK' _ _ ?_
                  clear hK' K'
                  try simp only [Act.put, List.setIfInBounds_toArray, List.set_cons_zero, List.set_cons_succ]
                  refine wpAny_done (by kernel_rfl) ?_ _
                  go_wp2
                  go_roundw
                  case rel => exact ⟨k + 1, by omega, by go_num, ⟨by (have hs_ := (own_store HO12.out (k : Int) cb).1; rw [show ((k : Int)).toNat = k from rfl, List.set_set] at hs_; rw [← HST2.out, show min cb cl2 = cb by omega]; exact hs_)⟩, ⟨HY12.out.setCell (by rw [hgo]; exact Nat.le_refl _) _⟩, ⟨HK12.out.setCell (.inl rfl) _⟩⟩
                  case measure => simp [intOf]; omega
                · unfold o23_14_6
                  go_simp
                  refine hK' _ _ ?_
                  clear hK' K'
                  try simp only [Act.put, List.setIfInBounds_toArray, List.set_cons_zero, List.set_cons_succ]
                  refine wpAny_ready (rs := [5, 8]) (by kernel_rfl) (by simp) (AllReady.cons (o := o23_14_5) rfl (fun K' hK' => ?_) (AllReady.cons (o := o23_14_8) rfl (fun K' hK' => ?_) AllReady.nil))
                  · unfold o23_14_5
                    go_simp
                    refine hK' _ _ ?_
                    clear hK' K'
                    try simp only [Act.put, List.setIfInBounds_toArray, List.set_cons_zero, List.set_cons_succ]
                    refine wpAny_ready (rs := [8]) (by kernel_rfl) (by simp) (AllReady.cons (o := o23_14_8) rfl (fun K' hK' => ?_) AllReady.nil)
                    unfold o23_14_8
                    go_simp
                    go_at_call 86; refine (hcost2 _ (below_drew HY11.out) (HK11.out.drew)).mono ?_; rintro e w12 ⟨rfl, hb_⟩; have HY12 := Aside0.mk (below_step (below_drew HY11.out) hb_); have HO12 := Aside0.mk (pw_own_below (w := w11.drew) HO11.out hb_); have HK12 : Aside0 (Kept w9 w12 (fun k => k = go)) := ⟨Kept.below (W := w11.drew) (HK11.out.drew) hb_⟩; obtain ⟨k3, k4⟩ := own_at HO12.out (k : Int) hb0 hb1; rw [show ((k : Int)).toNat = k from rfl] at k3 k4; have k5 : w12.cell? ⟨go, k, none⟩ = some (.int .i64 cb) := (by rw [k3]; exact congrArg (fun x => some (Value.int .i64 x)) HRD.out); clear hb_ k3
                    refine hK' _ _ ?_
                    clear hK' K'
                    try simp only [Act.put, List.setIfInBounds_toArray, List.set_cons_zero, List.set_cons_succ]
                    refine wpAny_ready (rs := [9]) (by kernel_rfl) (by simp) (AllReady.cons (o := o23_14_9) rfl (fun K' hK' => ?_) AllReady.nil)
                    unfold o23_14_9
                    go_simp
                    refine hK' _ _ ?_
                    clear hK' K'
                    try simp only [Act.put, List.setIfInBounds_toArray, List.set_cons_zero, List.set_cons_succ]
                    refine wpAny_take (i := 10) (oi := o23_14_10) (v := ?_) rfl (by kernel_rfl) (by kernel_rfl) (by kernel_rfl) (fun _ _ _ h => h) (Or.inl ⟨by rfl, ?_⟩) ?_
                    rotate_left
                    · (intro w; unfold o23_14_10; go_simp <;> (with_reducible rfl))
                    simp only [Act.put, o23_14_10, List.setIfInBounds_toArray, List.set_cons_zero, List.set_cons_succ]
                    refine wpAny_ready (rs := [11]) (by kernel_rfl) (by simp) (AllReady.cons (o := o23_14_11) rfl (fun K' hK' => ?_) AllReady.nil)
                    unfold o23_14_11
                    go_simp
                    refine hK' _ _ ?_
                    clear hK' K'
                    try simp only [Act.put, List.setIfInBounds_toArray, List.set_cons_zero, List.set_cons_succ]
                    refine wpAny_done (by kernel_rfl) ?_ _
                    go_wp2
                    go_roundw
                    case rel => exact ⟨k + 1, by omega, by go_num, ⟨by (have hs_ := (own_store HO12.out (k : Int) cb).1; rw [show ((k : Int)).toNat = k from rfl, List.set_set] at hs_; rw [← HST2.out, show min cb cl2 = cb by omega]; exact hs_)⟩, ⟨HY12.out.setCell (by rw [hgo]; exact Nat.le_refl _) _⟩, ⟨HK12.out.setCell (.inl rfl) _⟩⟩
                    case measure => simp [intOf]; omega
                  · unfold o23_14_8
                    go_simp
                    go_at_call 86; refine (hcost2 _ (below_drew HY11.out) (HK11.out.drew)).mono ?_; rintro e w12 ⟨rfl, hb_⟩; have HY12 := Aside0.mk (below_step (below_drew HY11.out) hb_); have HO12 := Aside0.mk (pw_own_below (w := w11.drew) HO11.out hb_); have HK12 : Aside0 (Kept w9 w12 (fun k => k = go)) := ⟨Kept.below (W := w11.drew) (HK11.out.drew) hb_⟩; obtain ⟨k3, k4⟩ := own_at HO12.out (k : Int) hb0 hb1; rw [show ((k : Int)).toNat = k from rfl] at k3 k4; have k5 : w12.cell? ⟨go, k, none⟩ = some (.int .i64 cb) := (by rw [k3]; exact congrArg (fun x => some (Value.int .i64 x)) HRD.out); clear hb_ k3
                    refine hK' _ _ ?_
                    clear hK' K'
                    try simp only [Act.put, List.setIfInBounds_toArray, List.set_cons_zero, List.set_cons_succ]
                    refine wpAny_ready (rs := [5]) (by kernel_rfl) (by simp) (AllReady.cons (o := o23_14_5) rfl (fun K' hK' => ?_) AllReady.nil)
                    unfold o23_14_5
                    go_simp
                    refine hK' _ _ ?_
                    clear hK' K'
                    try simp only [Act.put, List.setIfInBounds_toArray, List.set_cons_zero, List.set_cons_succ]
                    refine wpAny_ready (rs := [9]) (by kernel_rfl) (by simp) (AllReady.cons (o := o23_14_9) rfl (fun K' hK' => ?_) AllReady.nil)
                    unfold o23_14_9
                    go_simp
                    refine hK' _ _ ?_
                    clear hK' K'
                    try simp only [Act.put, List.setIfInBounds_toArray, List.set_cons_zero, List.set_cons_succ]
                    refine wpAny_take (i := 10) (oi := o23_14_10) (v := ?_) rfl (by kernel_rfl) (by kernel_rfl) (by kernel_rfl) (fun _ _ _ h => h) (Or.inl ⟨by rfl, ?_⟩) ?_
                    rotate_left
                    · (intro w; unfold o23_14_10; go_simp <;> (with_reducible rfl))
                    simp only [Act.put, o23_14_10, List.setIfInBounds_toArray, List.set_cons_zero, List.set_cons_succ]
                    refine wpAny_ready (rs := [11]) (by kernel_rfl) (by simp) (AllReady.cons (o := o23_14_11) rfl (fun K' hK' => ?_) AllReady.nil)
                    unfold o23_14_11
                    go_simp
                    refine hK' _ _ ?_
                    clear hK' K'
                    try simp only [Act.put, List.setIfInBounds_toArray, List.set_cons_zero, List.set_cons_succ]
                    refine wpAny_done (by kernel_rfl) ?_ _
                    go_wp2
                    go_roundw
                    case rel => exact ⟨k + 1, by omega, by go_num, ⟨by (have hs_ := (own_store HO12.out (k : Int) cb).1; rw [show ((k : Int)).toNat = k from rfl, List.set_set] at hs_; rw [← HST2.out, show min cb cl2 = cb by omega]; exact hs_)⟩, ⟨HY12.out.setCell (by rw [hgo]; exact Nat.le_refl _) _⟩, ⟨HK12.out.setCell (.inl rfl) _⟩⟩
                    case measure => simp [intOf]; omega
          · have HO' : Aside0 (wr.ownsRow w.heap.size 3 1 (.slice (some ⟨go, 0, none⟩) r.turns.length r.turns.length) r.turns.length (nums .i64 (pricesN r gate P fin (k + 1)))) := ⟨by rw [← HSK.out e1]; exact HO.out⟩
            obtain ⟨q0, q1, q2, q3, q4⟩ := rosC_cells BKr.out
            generalize tn r (k : Int) = tt at *
            rcases HLK.out with ⟨rfl, rfl⟩ | ⟨hl0, adl, cl, rfl, hlc, hci, hlb⟩
            all_goals
              go_wp2_with fail
              go_roundw
              case rel => exact ⟨k + 1, by omega, by go_num, HO', HY, HK⟩
              case measure => simp [intOf]; omega
        · have hkn : k = r.turns.length := by omega
          rw [hkn] at HO
          go_wp2
          exact HQ'.out _ _ HO.out (below_weaken HB6.out HGW.out (by rw [← hgo]; exact HY.out))
  · have HQ' : Aside0 (∀ w', Below w.heap.size w w' → Post (.returned (.tuple #[.slice none 0 0, .int .i64 ge])) w') := ⟨fun w' hb => HQ.out (.slice none 0 0) ge [] w' (own_nil _ _ _ _) hb (HPO2.out ge [] (.inl ⟨hc, rfl, rfl⟩))⟩
    clear hz
    go_enter Tryz.func23, Tryz.ntmps23
    go_wp2_with (first | ((with_reducible refine gate_dst (N := 2) rfl ?_); refine box_event ?hg (N := 2) ?hd (cs := rosC r A c T d) (t := 25) ?hr ?_; (case hd => rfl); (case hg => rfl); (case hr => first | (go_simp; done) | (go_simp; rfl)); intro g hg w3 hbox_ hb_; have BK := Aside0.mk hbox_; have Hg := Aside0.mk hg; have HB := Aside0.mk hb_; obtain ⟨q0, q1, q2, q3, q4⟩ := rosC_cells hbox_; clear hbox_ hb_ hg) | (go_at_call 77; refine (hgat _ (hR.out.below HB.out)).mono ?_; rintro e w4 ⟨rfl, hb_⟩; have HB4 := Aside0.mk (below_step HB.out hb_); have BK4 := Aside0.mk (blk_below BK.out hb_); clear q0 q1 q2 q3 q4; obtain ⟨q0, q1, q2, q3, q4⟩ := rosC_cells BK4.out; clear hb_))
    exact HQ'.out _ HB4.out
end Go.Proofs.YtflolfbkpjgjaaaGreatDoor
end
section
set_option autoImplicit false
namespace Go.Proofs.YtflolfbkpjgjaaaGreatDoor
section
variable {g : Gr} {wt : Nat → Nat} {cmp : List Nat → List Nat → Int}
def FAR : Int := 1099511627776
structure Tail (g : Gr) (i : Nat) (w : List Nat) : Prop where
  hd : w.head? = some i
  own : ∀ x ∈ w, x < g.n ∧ g.own x = true
  chn : Chn g.fol w
  fin : ∀ x, w.getLast? = some x → g.fin x = true
theorem Tail.tl {a b : Nat} {l : List Nat} (h : Tail g a (a :: b :: l)) : Tail g b (b :: l) :=
  ⟨rfl, fun x hx => h.own x (List.mem_cons_of_mem _ hx), h.chn.2, fun x hx => h.fin x (by rw [List.getLast?_cons_cons]; exact hx)⟩
theorem Tail.cons {a b : Nat} {t : List Nat} (h : Tail g b t) (ha : a < g.n) (ho : g.own a = true) (hf : g.fol a b = true) : Tail g a (a :: t) := by
  cases t with
  | nil => exact absurd h.hd (by simp)
  | cons c t =>
    obtain rfl : c = b := by simpa using h.hd
    refine ⟨rfl, fun x hx => ?_, ⟨hf, h.chn⟩, fun x hx => h.fin x (by rw [List.getLast?_cons_cons] at hx; exact hx)⟩
    rcases List.mem_cons.1 hx with rfl | hx
    · exact ⟨ha, ho⟩
    · exact h.own x hx
theorem Tail.suffix {a b : Nat} {q m : List Nat} (h : Tail g b (q ++ a :: m)) : Tail g a (a :: m) := by
  refine ⟨rfl, fun x hx => h.own x (List.mem_append_right _ hx), h.chn.right, fun x hx => h.fin x ?_⟩
  rw [List.getLast?_append, hx]
  rfl
theorem Tail.lt {i : Nat} {w : List Nat} (h : Tail g i w) : i < g.n ∧ g.own i = true := by
  cases w with
  | nil => exact absurd h.hd (by simp)
  | cons a w =>
    obtain rfl : a = i := by simpa using h.hd
    exact h.own a (List.mem_cons_self ..)
theorem Tail.cut : ∀ (w : List Nat) (i : Nat), Tail g i w → ∃ w', Tail g i w' ∧ w'.Nodup ∧ wsum wt w' ≤ wsum wt w
  | [], i, h => absurd h.hd (by simp)
  | [a], i, h => ⟨[a], h, by simp, Nat.le_refl _⟩
  | a :: b :: l, i, h => by
    obtain rfl : a = i := by simpa using h.hd
    obtain ⟨t, h1, h2, h3⟩ := Tail.cut (b :: l) b h.tl
    have ho := h.own a (List.mem_cons_self ..)
    have e := wsum_cons wt a (b :: l)
    by_cases hm : a ∈ t
    · obtain ⟨q, m, rfl⟩ := List.append_of_mem hm
      refine ⟨a :: m, h1.suffix, (List.nodup_append.1 h2).2.1, ?_⟩
      have := wsum_append wt q (a :: m)
      omega
    · refine ⟨a :: t, h1.cons ho.1 ho.2 h.chn.1, List.nodup_cons.2 ⟨hm, h2⟩, ?_⟩
      have := wsum_cons wt a t
      omega
def relaxR (g : Gr) (wt : Nat → Nat) (i : Nat) (out : List Int) (k : Nat) : List Int :=
  if g.own i && (g.fol i k && decide (out.getD k 0 < FAR)) then out.set i (min (out.getD i 0) (out.getD k 0 + (wt i : Int))) else out
def rowR (g : Gr) (wt : Nat → Nat) (out : List Int) (i : Nat) : List Int := (List.range g.n).foldl (relaxR g wt i) out
def roundR (g : Gr) (wt : Nat → Nat) (out : List Int) : List Int := (List.range g.n).foldl (rowR g wt) out
def startR (g : Gr) (wt : Nat → Nat) : List Int := (List.range g.n).map fun i => if g.own i && g.fin i then (wt i : Int) else FAR
def restR (g : Gr) (wt : Nat → Nat) : Nat → List Int
  | 0 => startR g wt
  | k + 1 => roundR g wt (restR g wt k)
structure Snd (g : Gr) (wt : Nat → Nat) (out : List Int) : Prop where
  len : out.length = g.n
  le : ∀ i, i < g.n → 0 ≤ out.getD i 0 ∧ out.getD i 0 ≤ FAR
  way : ∀ i, i < g.n → out.getD i 0 < FAR → ∃ w, Tail g i w ∧ (wsum wt w : Int) = out.getD i 0
def LeL (a b : List Int) : Prop := ∀ j, a.getD j 0 ≤ b.getD j 0
theorem LeL.refl (a : List Int) : LeL a a := fun _ => Int.le_refl _
theorem LeL.trans {a b c : List Int} (h : LeL a b) (k : LeL b c) : LeL a c := fun j => Int.le_trans (h j) (k j)
theorem getD_setI (xs : List Int) (i j : Nat) (v : Int) : (xs.set i v).getD j 0 = if i = j ∧ j < xs.length then v else xs.getD j 0 := getD_set xs i j 0 v
theorem relaxR_keeps {out : List Int} (h : Snd g wt out) {i k : Nat} (hi : i < g.n) (hk : k < g.n) :
    Snd g wt (relaxR g wt i out k) ∧ LeL (relaxR g wt i out k) out ∧ (g.own i = true → g.fol i k = true → out.getD k 0 < FAR → (relaxR g wt i out k).getD i 0 ≤ out.getD k 0 + (wt i : Int)) := by
  unfold relaxR
  split
  · rename_i hc
    simp only [Bool.and_eq_true, decide_eq_true_eq] at hc
    obtain ⟨c1, c2, c3⟩ := hc
    obtain ⟨a1, a2⟩ := h.le i hi
    obtain ⟨b1, b2⟩ := h.le k hk
    refine ⟨⟨by simp [h.len], fun j hj => ?_, fun j hj hlt => ?_⟩, fun j => ?_, fun _ _ _ => ?_⟩
    · rw [getD_setI]
      split
      · omega
      · exact h.le j hj
    · rw [getD_setI] at hlt ⊢
      split
      · rename_i e
        rw [if_pos e] at hlt
        obtain ⟨rfl, _⟩ := e
        by_cases hm : out.getD i 0 ≤ out.getD k 0 + (wt i : Int)
        · rw [Int.min_eq_left hm] at hlt ⊢
          exact h.way i hi hlt
        · rw [Int.min_eq_right (by omega)]
          obtain ⟨w, w1, w2⟩ := h.way k hk c3
          exact ⟨i :: w, w1.cons hi c1 c2, by rw [wsum_cons]; omega⟩
      · rename_i e
        rw [if_neg e] at hlt
        exact h.way j hj hlt
    · rw [getD_setI]
      split
      · rename_i e
        obtain ⟨rfl, _⟩ := e
        omega
      · exact Int.le_refl _
    · rw [getD_setI, if_pos ⟨rfl, by rw [h.len]; exact hi⟩]
      omega
  · rename_i hc
    refine ⟨h, LeL.refl _, fun h1 h2 h3 => absurd ?_ hc⟩
    rw [h1, h2, decide_eq_true h3]
    rfl
theorem fold_lower {f : List Int → Nat → List Int} {P : List Int → Prop} (G : Nat → List Int → List Int → Prop) : ∀ (xs : List Nat),
    (∀ x ∈ xs, ∀ s, P s → P (f s x) ∧ LeL (f s x) s ∧ G x s (f s x)) → ∀ s, P s → P (xs.foldl f s) ∧ LeL (xs.foldl f s) s ∧ ∀ x ∈ xs, ∃ a b, LeL a s ∧ P a ∧ G x a b ∧ LeL (xs.foldl f s) b
  | [], _, s, hs => ⟨hs, LeL.refl _, by simp⟩
  | x :: xs, hf, s, hs => by
    obtain ⟨h1, h2, h3⟩ := hf x (List.mem_cons_self ..) s hs
    obtain ⟨k1, k2, k3⟩ := fold_lower G xs (fun y hy => hf y (List.mem_cons_of_mem _ hy)) (f s x) h1
    refine ⟨k1, k2.trans h2, fun y hy => ?_⟩
    rcases List.mem_cons.1 hy with rfl | hy
    · exact ⟨s, f s y, LeL.refl _, hs, h3, k2⟩
    · obtain ⟨a, b, e1, e2, e3, e4⟩ := k3 y hy
      exact ⟨a, b, e1.trans h2, e2, e3, e4⟩
theorem rowR_keeps {out : List Int} (h : Snd g wt out) {i : Nat} (hi : i < g.n) :
    Snd g wt (rowR g wt out i) ∧ LeL (rowR g wt out i) out ∧ ∀ k, k < g.n → g.own i = true → g.fol i k = true → out.getD k 0 < FAR → (rowR g wt out i).getD i 0 ≤ out.getD k 0 + (wt i : Int) := by
  obtain ⟨a, b, c⟩ := fold_lower (f := relaxR g wt i) (P := Snd g wt) (fun k s t => g.own i = true → g.fol i k = true → s.getD k 0 < FAR → t.getD i 0 ≤ s.getD k 0 + (wt i : Int)) (List.range g.n)
    (fun k hk s hs => relaxR_keeps hs hi (List.mem_range.1 hk)) out h
  refine ⟨a, b, fun k hk h1 h2 h3 => ?_⟩
  obtain ⟨s, t, e1, _, e3, e4⟩ := c k (List.mem_range.2 hk)
  have g1 := e1 k
  have g2 := e3 h1 h2 (by omega)
  have g3 := e4 i
  have : (rowR g wt out i).getD i 0 ≤ t.getD i 0 := g3
  omega
theorem roundR_keeps {out : List Int} (h : Snd g wt out) :
    Snd g wt (roundR g wt out) ∧ LeL (roundR g wt out) out ∧ ∀ i k, i < g.n → k < g.n → g.own i = true → g.fol i k = true → out.getD k 0 < FAR → (roundR g wt out).getD i 0 ≤ out.getD k 0 + (wt i : Int) := by
  obtain ⟨a, b, c⟩ := fold_lower (f := rowR g wt) (P := Snd g wt) (fun i s t => ∀ k, k < g.n → g.own i = true → g.fol i k = true → s.getD k 0 < FAR → t.getD i 0 ≤ s.getD k 0 + (wt i : Int)) (List.range g.n)
    (fun i hi s hs => rowR_keeps hs (List.mem_range.1 hi)) out h
  refine ⟨a, b, fun i k hi hk h1 h2 h3 => ?_⟩
  obtain ⟨s, t, e1, _, e3, e4⟩ := c i (List.mem_range.2 hi)
  have g1 := e1 k
  have g2 := e3 k hk h1 h2 (by omega)
  have g3 := e4 i
  have : (roundR g wt out).getD i 0 ≤ t.getD i 0 := g3
  omega
theorem startR_at {i : Nat} (hi : i < g.n) : (startR g wt).getD i 0 = if g.own i && g.fin i then (wt i : Int) else FAR := by
  unfold startR
  simp [List.getD_eq_getElem?_getD, hi]
theorem startR_snd (hb : ∀ i, i < g.n → wt i ≤ 2097152) : Snd g wt (startR g wt) where
  len := by simp [startR]
  le := fun i hi => by
    rw [startR_at hi]
    have := hb i hi
    unfold FAR
    split <;> omega
  way := fun i hi hlt => by
    rw [startR_at hi] at hlt ⊢
    split
    · rename_i hc
      rw [Bool.and_eq_true] at hc
      exact ⟨[i], ⟨rfl, by simpa using ⟨hi, hc.1⟩, trivial, by simpa using hc.2⟩, by rw [wsum_one]⟩
    · rename_i hc
      rw [if_neg hc] at hlt
      exact absurd hlt (by omega)
theorem restR_snd (hb : ∀ i, i < g.n → wt i ≤ 2097152) : ∀ k, Snd g wt (restR g wt k)
  | 0 => startR_snd hb
  | k + 1 => (roundR_keeps (restR_snd hb k)).1
theorem restR_le (hb : ∀ i, i < g.n → wt i ≤ 2097152) (k : Nat) : ∀ (i : Nat) (w : List Nat), Tail g i w → w.length ≤ k + 1 → (wsum wt w : Int) < FAR → (restR g wt k).getD i 0 ≤ wsum wt w := by
  induction k with
  | zero =>
    intro i w h hl _
    have hlt := h.lt
    cases w with
    | nil => exact absurd h.hd (by simp)
    | cons a w =>
      cases w with
      | cons b l => exact absurd hl (by simp)
      | nil =>
        obtain rfl : a = i := by simpa using h.hd
        show (startR g wt).getD a 0 ≤ _
        rw [startR_at hlt.1, if_pos (by rw [hlt.2, h.fin a rfl]; rfl), wsum_one]
        exact Int.le_refl _
  | succ k ih =>
    intro i w h hl hf
    have S := roundR_keeps (restR_snd (wt := wt) hb k)
    by_cases hs : w.length ≤ k + 1
    · exact Int.le_trans (S.2.1 i) (ih i w h hs hf)
    · cases w with
      | nil => exact absurd h.hd (by simp)
      | cons a w =>
        cases w with
        | nil => exact absurd (by simp) hs
        | cons b l =>
          obtain rfl : a = i := by simpa using h.hd
          have e := wsum_cons wt a (b :: l)
          have h1 := ih b (b :: l) h.tl (by simpa using hl) (by omega)
          have ha := h.own a (List.mem_cons_self ..)
          have hbb := h.own b (List.mem_cons_of_mem _ (List.mem_cons_self ..))
          have h2 := S.2.2 a b ha.1 hbb.1 ha.2 h.chn.1 (by omega)
          show (roundR g wt (restR g wt k)).getD a 0 ≤ _
          omega
structure Rest (g : Gr) (wt : Nat → Nat) (rest : List Int) : Prop where
  len : rest.length = g.n
  le : ∀ i, i < g.n → 0 ≤ rest.getD i 0 ∧ rest.getD i 0 ≤ FAR
  way : ∀ i, i < g.n → rest.getD i 0 < FAR → ∃ w, Tail g i w ∧ w.Nodup ∧ (wsum wt w : Int) = rest.getD i 0
  least : ∀ i w, Tail g i w → rest.getD i 0 ≤ wsum wt w
  lim : ∀ i w, Tail g i w → rest.getD i 0 < FAR
theorem restR_rest (hn : g.n ≤ 24) (hb : ∀ i, i < g.n → wt i ≤ 2097152) : Rest g wt (restR g wt g.n) := by
  have S := restR_snd (g := g) (wt := wt) hb g.n
  have hnd : ∀ i w, Tail g i w → w.Nodup → (restR g wt g.n).getD i 0 ≤ wsum wt w ∧ (wsum wt w : Int) < FAR := fun i w h hd => by
    have hl := nodup_len g.n w hd (fun x hx => (h.own x hx).1)
    have hs : ∀ l : List Nat, (∀ x ∈ l, x < g.n) → wsum wt l ≤ l.length * 2097152 := by
      intro l
      induction l with
      | nil => intro _; simp [wsum]
      | cons x l ih =>
        intro hx
        have h1 := ih (fun y hy => hx y (List.mem_cons_of_mem _ hy))
        have h2 := hb x (hx x (List.mem_cons_self ..))
        rw [wsum_cons, List.length_cons]
        omega
    have h1 := hs w (fun x hx => (h.own x hx).1)
    have h2 : (wsum wt w : Int) < FAR := by
      have : w.length * 2097152 ≤ 24 * 2097152 := Nat.mul_le_mul_right _ (by omega)
      unfold FAR
      omega
    exact ⟨restR_le hb g.n i w h (by omega) h2, h2⟩
  have hle : ∀ i w, Tail g i w → (restR g wt g.n).getD i 0 ≤ wsum wt w ∧ (restR g wt g.n).getD i 0 < FAR := fun i w h => by
    obtain ⟨w', h1, h2, h3⟩ := Tail.cut (wt := wt) w i h
    have := hnd i w' h1 h2
    omega
  refine ⟨S.len, S.le, fun i hi hlt => ?_, fun i w h => (hle i w h).1, fun i w h => (hle i w h).2⟩
  obtain ⟨w, h1, h2⟩ := S.way i hi hlt
  obtain ⟨w', k1, k2, k3⟩ := Tail.cut (wt := wt) w i h1
  have := (hnd i w' k1 k2).1
  exact ⟨w', k1, k2, by omega⟩
def pickR (g : Gr) (rest : List Int) (now : Int) (i : Nat) : Int :=
  if decide (rest.getD i 0 < FAR) && (g.own i && (g.beg i && (decide (now < 0) || decide (rest.getD i 0 < rest.getD now.toNat 0)))) then (i : Int) else now
def firstR (g : Gr) (rest : List Int) : Int := (List.range g.n).foldl (pickR g rest) (-1)
def nxR (g : Gr) (rest : List Int) (now : Nat) (left : Int) : Nat → Int
  | 0 => -1
  | d + 1 => if g.fol now (g.n - 1 - d) && (rest.getD (g.n - 1 - d) 0 == left) then ((g.n - 1 - d : Nat) : Int) else nxR g rest now left d
def nextR (g : Gr) (rest : List Int) (now : Nat) (left : Int) : Int := if 0 < left then nxR g rest now left g.n else -1
def takeR (g : Gr) (wt : Nat → Nat) (rest : List Int) : Nat → Int → List Nat
  | 0, _ => []
  | f + 1, now => if now < 0 then [] else now.toNat :: takeR g wt rest f (nextR g rest now.toNat (rest.getD now.toNat 0 - (wt now.toNat : Int)))
theorem nxR_at {rest : List Int} {now : Nat} {left : Int} : ∀ d, d ≤ g.n → (nxR g rest now left d = -1 ∧ ∀ k, g.n - d ≤ k → k < g.n → ¬ (g.fol now k = true ∧ rest.getD k 0 = left)) ∨
    ∃ k : Nat, nxR g rest now left d = (k : Int) ∧ k < g.n ∧ g.fol now k = true ∧ rest.getD k 0 = left ∧ ∀ j, g.n - d ≤ j → j < k → ¬ (g.fol now j = true ∧ rest.getD j 0 = left)
  | 0, _ => .inl ⟨rfl, fun k h1 h2 => by omega⟩
  | d + 1, hd => by
    unfold nxR
    by_cases hc : (g.fol now (g.n - 1 - d) && (rest.getD (g.n - 1 - d) 0 == left)) = true
    · rw [if_pos hc]
      rw [Bool.and_eq_true, beq_iff_eq] at hc
      exact .inr ⟨_, rfl, by omega, hc.1, hc.2, fun j h1 h2 => by omega⟩
    · rw [if_neg hc]
      rw [Bool.and_eq_true, beq_iff_eq] at hc
      have hj : ∀ j, g.n - (d + 1) ≤ j → ¬ g.n - d ≤ j → ¬ (g.fol now j = true ∧ rest.getD j 0 = left) := fun j h1 h2 => by
        obtain rfl : j = g.n - 1 - d := by omega
        exact hc
      rcases nxR_at d (by omega) with ⟨h1, h2⟩ | ⟨k, h1, h2, h3, h4, h5⟩
      · exact .inl ⟨h1, fun k k1 k2 => by
          by_cases hk : g.n - d ≤ k
          · exact h2 k hk k2
          · exact hj k k1 hk⟩
      · exact .inr ⟨k, h1, h2, h3, h4, fun j j1 j2 => by
          by_cases hk : g.n - d ≤ j
          · exact h5 j hk j2
          · exact hj j j1 hk⟩
theorem nextR_at {rest : List Int} {now : Nat} {left : Int} : (nextR g rest now left = -1 ∧ (left ≤ 0 ∨ ∀ k, k < g.n → ¬ (g.fol now k = true ∧ rest.getD k 0 = left))) ∨
    ∃ k : Nat, nextR g rest now left = (k : Int) ∧ 0 < left ∧ k < g.n ∧ g.fol now k = true ∧ rest.getD k 0 = left ∧ ∀ j, j < k → ¬ (g.fol now j = true ∧ rest.getD j 0 = left) := by
  unfold nextR
  split
  · rename_i h
    rcases nxR_at (g := g) (rest := rest) (now := now) (left := left) g.n (Nat.le_refl _) with ⟨h1, h2⟩ | ⟨k, h1, h2, h3, h4, h5⟩
    · exact .inl ⟨h1, .inr (fun k hk => h2 k (by omega) hk)⟩
    · exact .inr ⟨k, h1, h, h2, h3, h4, fun j hj => h5 j (by omega) hj⟩
  · rename_i h
    exact .inl ⟨rfl, .inl (by omega)⟩
theorem takeR_fuel {rest : List Int} (hp : ∀ i, 0 < wt i) : ∀ (f f' : Nat) (now : Int), (now < 0 ∨ (rest.getD now.toNat 0).toNat < f) → (now < 0 ∨ (rest.getD now.toNat 0).toNat < f') → takeR g wt rest f now = takeR g wt rest f' now
  | 0, f', now, h, _ => by
    have hn : now < 0 := h.resolve_right (by omega)
    cases f' with
    | zero => rfl
    | succ f' => unfold takeR; rw [if_pos hn]
  | f + 1, 0, now, _, h => by
    have hn : now < 0 := h.resolve_right (by omega)
    unfold takeR; rw [if_pos hn]
  | f + 1, f' + 1, now, h, h' => by
    unfold takeR
    by_cases hn : now < 0
    · rw [if_pos hn, if_pos hn]
    · rw [if_neg hn, if_neg hn]
      congr 1
      have h1 := h.resolve_left hn
      have h2 := h'.resolve_left hn
      have hw := hp now.toNat
      rcases nextR_at (g := g) (rest := rest) (now := now.toNat) (left := rest.getD now.toNat 0 - (wt now.toNat : Int)) with ⟨e, _⟩ | ⟨k, e, k1, k2, k3, k4, k5⟩
      · rw [e]
        exact takeR_fuel hp f f' (-1) (.inl (by omega)) (.inl (by omega))
      · rw [e]
        exact takeR_fuel hp f f' k (.inr (by rw [Int.toNat_natCast]; omega)) (.inr (by rw [Int.toNat_natCast]; omega))
def goR (g : Gr) (wt : Nat → Nat) (rest : List Int) (now : Int) : List Nat := if now < 0 then [] else takeR g wt rest ((rest.getD now.toNat 0).toNat + 1) now
theorem goR_neg {rest : List Int} {now : Int} (h : now < 0) : goR g wt rest now = [] := by unfold goR; rw [if_pos h]
theorem goR_step {rest : List Int} (hp : ∀ i, 0 < wt i) (i : Nat) : goR g wt rest (i : Int) = i :: goR g wt rest (nextR g rest i (rest.getD i 0 - (wt i : Int))) := by
  unfold goR
  rw [if_neg (by omega)]
  rw [takeR, if_neg (by omega), Int.toNat_natCast]
  congr 1
  have hw := hp i
  rcases nextR_at (g := g) (rest := rest) (now := i) (left := rest.getD i 0 - (wt i : Int)) with ⟨e, _⟩ | ⟨k, e, k1, k2, k3, k4, k5⟩
  · rw [e, if_pos (by omega)]
    cases (rest.getD i 0).toNat with
    | zero => rfl
    | succ m => unfold takeR; rw [if_pos (by omega)]
  · rw [e, if_neg (by omega)]
    exact takeR_fuel hp _ _ _ (.inr (by rw [Int.toNat_natCast]; omega)) (.inr (by rw [Int.toNat_natCast]; omega))
theorem goR_way {rest : List Int} (R : Rest g wt rest) (hp : ∀ i, 0 < wt i) (hn : g.n ≤ 24) : ∀ (m i : Nat), i < g.n → rest.getD i 0 < FAR → (rest.getD i 0).toNat ≤ m →
    Tail g i (goR g wt rest (i : Int)) ∧ (wsum wt (goR g wt rest (i : Int)) : Int) = rest.getD i 0 ∧ (goR g wt rest (i : Int)).Nodup ∧ (∀ x ∈ goR g wt rest (i : Int), rest.getD x 0 ≤ rest.getD i 0) ∧
    ∀ q f, Tail g i q → (wsum wt q : Int) = rest.getD i 0 → q.length ≤ f → (goR g wt rest (i : Int)).length ≤ f → lexv f (goR g wt rest (i : Int)) ≤ lexv f q
  | m, i, hi, hlt, hm => by
    rw [goR_step hp i]
    have hw := hp i
    obtain ⟨w, w1, w2, w3⟩ := R.way i hi hlt
    have hown := w1.lt.2
    have hle := R.le i hi
    match w, w1, w2, w3 with
    | [], w1, _, _ => exact absurd w1.hd (by simp)
    | [a], w1, _, w3 =>
      obtain rfl : a = i := by simpa using w1.hd
      rw [wsum_one] at w3
      have e : nextR g rest a (rest.getD a 0 - (wt a : Int)) = -1 := by unfold nextR; rw [if_neg (by omega)]
      rw [e, goR_neg (by omega)]
      refine ⟨w1, by rw [wsum_one]; exact w3, by simp, by simp, fun q f q1 q2 q3 _ => ?_⟩
      match q, q1, q2, q3 with
      | [], q1, _, _ => exact absurd q1.hd (by simp)
      | [b], q1, _, _ =>
        obtain rfl : b = a := by simpa using q1.hd
        exact Nat.le_refl _
      | b :: c :: l, q1, q2, _ =>
        obtain rfl : b = a := by simpa using q1.hd
        rw [wsum_cons, wsum_cons] at q2
        have := hp c
        omega
    | a :: b :: l, w1, w2, w3 =>
      obtain rfl : a = i := by simpa using w1.hd
      rw [wsum_cons] at w3
      have hb := (w1.own b (List.mem_cons_of_mem _ (List.mem_cons_self ..))).1
      have hfol : g.fol a b = true := w1.chn.1
      have hk : ∀ k t, Tail g k t → g.fol a k = true → rest.getD a 0 ≤ rest.getD k 0 + (wt a : Int) := fun k t ht hf => by
        obtain ⟨u, u1, u2, u3⟩ := R.way k ht.lt.1 (R.lim k t ht)
        have := R.least a (a :: u) (u1.cons hi hown hf)
        rw [wsum_cons] at this
        omega
      have hb1 := hk b (b :: l) w1.tl hfol
      have hb2 := R.least b (b :: l) w1.tl
      have hpos : 0 < wsum wt (b :: l) := by rw [wsum_cons]; have := hp b; omega
      rcases nextR_at (g := g) (rest := rest) (now := a) (left := rest.getD a 0 - (wt a : Int)) with ⟨e, h1 | h1⟩ | ⟨k, e, k1, k2, k3, k4, k5⟩
      · omega
      · exact absurd ⟨hfol, by omega⟩ (h1 b hb)
      · rw [e]
        match m, hm with
        | 0, hm => omega
        | m + 1, hm =>
          obtain ⟨t1, t2, t3, t4, t5⟩ := goR_way R hp hn m k k2 (by omega) (by omega)
          have hna : a ∉ goR g wt rest (k : Int) := fun h => by have := t4 a h; omega
          refine ⟨t1.cons hi hown k3, by rw [wsum_cons]; omega, List.nodup_cons.2 ⟨hna, t3⟩, fun x hx => ?_, fun q f q1 q2 q3 q4 => ?_⟩
          · rcases List.mem_cons.1 hx with rfl | hx
            · exact Int.le_refl _
            · have := t4 x hx
              omega
          · match q, q1, q2, q3 with
            | [], q1, _, _ => exact absurd q1.hd (by simp)
            | [c], q1, q2, _ =>
              obtain rfl : c = a := by simpa using q1.hd
              rw [wsum_one] at q2
              omega
            | c :: d :: u, q1, q2, q3 =>
              obtain rfl : c = a := by simpa using q1.hd
              rw [wsum_cons] at q2
              have hd1 := hk d (d :: u) q1.tl q1.chn.1
              have hd2 := R.least d (d :: u) q1.tl
              have hdk : k ≤ d := Nat.le_of_not_lt fun h => k5 d h ⟨q1.chn.1, by omega⟩
              match f, q3, q4 with
              | 0, q3, _ => simp at q3
              | f + 1, q3, q4 =>
                simp only [List.length_cons] at q3 q4
                simp only [lexv]
                by_cases hdk' : d = k
                · subst hdk'
                  have := t5 (d :: u) f q1.tl (by omega) (by simp only [List.length_cons]; omega) (by omega)
                  omega
                · have hkd : k < d := by omega
                  have s1 : ∀ x ∈ goR g wt rest (k : Int), x < 32 := fun x hx => by have := (t1.own x hx).1; omega
                  have s2 : lexv f (goR g wt rest (k : Int)) ≤ lexv f (d :: u) := by
                    have hh : ∃ z, goR g wt rest (k : Int) = k :: z := ⟨_, goR_step hp k⟩
                    obtain ⟨z, hz⟩ := hh
                    rw [hz] at s1 q4 ⊢
                    match f, q3, q4 with
                    | 0, q3, _ => omega
                    | f + 1, q3, q4 =>
                      simp only [List.length_cons] at q4
                      simp only [lexv]
                      have g1 := lexv_lt f z (by omega) (fun x hx => s1 x (List.mem_cons_of_mem _ hx))
                      have g2 : (k + 1) * 32 ^ f ≤ d * 32 ^ f := Nat.mul_le_mul_right _ hkd
                      rw [Nat.add_mul] at g2
                      omega
                  omega
theorem pick_fold {rest : List Int} (xs : List Nat) : ∀ now : Int, (now = -1 ∨ ∃ i : Nat, now = (i : Int) ∧ i < g.n ∧ rest.getD i 0 < FAR ∧ g.own i = true ∧ g.beg i = true) → (∀ x ∈ xs, x < g.n) → xs.Pairwise (· < ·) → (∀ x ∈ xs, now < (x : Int)) →
    (let b := xs.foldl (pickR g rest) now
     (b = -1 ∨ ∃ i : Nat, b = (i : Int) ∧ i < g.n ∧ rest.getD i 0 < FAR ∧ g.own i = true ∧ g.beg i = true) ∧
     (0 ≤ now → 0 ≤ b ∧ (rest.getD b.toNat 0 < rest.getD now.toNat 0 ∨ b = now)) ∧
     ∀ x ∈ xs, rest.getD x 0 < FAR → g.own x = true → g.beg x = true → 0 ≤ b ∧ (rest.getD b.toNat 0 < rest.getD x 0 ∨ (rest.getD b.toNat 0 = rest.getD x 0 ∧ b ≤ (x : Int)))) := by
  induction xs with
  | nil => exact fun now h _ _ _ => ⟨h, fun h => ⟨h, .inr rfl⟩, by simp⟩
  | cons x xs ih =>
    intro now h hin hp hlt
    have hp' := List.pairwise_cons.1 hp
    have hx := hin x (List.mem_cons_self ..)
    have hnx := hlt x (List.mem_cons_self ..)
    simp only [List.foldl_cons]
    by_cases hc : (decide (rest.getD x 0 < FAR) && (g.own x && (g.beg x && (decide (now < 0) || decide (rest.getD x 0 < rest.getD now.toNat 0))))) = true
    · have hcc := hc
      simp only [Bool.and_eq_true, Bool.or_eq_true, decide_eq_true_eq] at hcc
      obtain ⟨c1, c2, c3, c4⟩ := hcc
      have e : pickR g rest now x = (x : Int) := by unfold pickR; rw [if_pos hc]
      rw [e]
      obtain ⟨a1, a2, a3⟩ := ih (x : Int) (.inr ⟨x, rfl, hx, c1, c2, c3⟩) (fun y hy => hin y (List.mem_cons_of_mem _ hy)) hp'.2 (fun y hy => by have := hp'.1 y hy; omega)
      obtain ⟨b1, b2⟩ := a2 (by omega)
      rw [Int.toNat_natCast] at b2
      refine ⟨a1, fun hn => ⟨b1, .inl ?_⟩, fun y hy y1 y2 y3 => ?_⟩
      · have := c4.resolve_left (by omega)
        rcases b2 with b2 | b2
        · omega
        · rw [b2, Int.toNat_natCast]; exact this
      · rcases List.mem_cons.1 hy with rfl | hy
        · refine ⟨b1, ?_⟩
          rcases b2 with b2 | b2
          · exact .inl b2
          · rw [b2, Int.toNat_natCast]; exact .inr ⟨rfl, Int.le_refl _⟩
        · exact a3 y hy y1 y2 y3
    · have e : pickR g rest now x = now := by unfold pickR; rw [if_neg hc]
      rw [e]
      obtain ⟨a1, a2, a3⟩ := ih now h (fun y hy => hin y (List.mem_cons_of_mem _ hy)) hp'.2 (fun y hy => hlt y (List.mem_cons_of_mem _ hy))
      refine ⟨a1, a2, fun y hy y1 y2 y3 => ?_⟩
      rcases List.mem_cons.1 hy with rfl | hy
      · rw [y2, y3, decide_eq_true y1] at hc
        simp only [Bool.true_and, Bool.or_eq_true, decide_eq_true_eq, not_or] at hc
        obtain ⟨d1, d2⟩ := hc
        obtain ⟨b1, b2⟩ := a2 (by omega)
        refine ⟨b1, ?_⟩
        rcases b2 with b2 | b2
        · exact .inl (by omega)
        · rw [b2]
          rcases Int.lt_or_eq_of_le (show rest.getD now.toNat 0 ≤ rest.getD y 0 by omega) with d3 | d3
          · exact .inl d3
          · exact .inr ⟨d3, by omega⟩
      · exact a3 y hy y1 y2 y3
def bestR (g : Gr) (wt : Nat → Nat) : List Nat := goR g wt (restR g wt g.n) (firstR g (restR g wt g.n))
theorem key_cmp_le {wa wb la lb : Nat} (ha : la < BB) (hb : lb < BB) : wa * BB + la ≤ wb * BB + lb ↔ wa < wb ∨ (wa = wb ∧ la ≤ lb) := by
  rcases Nat.lt_trichotomy wa wb with h | h | h
  · have : (wa + 1) * BB ≤ wb * BB := Nat.mul_le_mul_right _ h
    rw [Nat.add_mul] at this
    constructor
    · exact fun _ => .inl h
    · intro _; omega
  · subst h
    constructor
    · exact fun h => .inr ⟨rfl, by omega⟩
    · rintro (h | ⟨_, h⟩) <;> omega
  · have : (wb + 1) * BB ≤ wa * BB := Nat.mul_le_mul_right _ h
    rw [Nat.add_mul] at this
    constructor
    · intro _; omega
    · rintro (h | ⟨_, h⟩) <;> omega
theorem Plan.tail {p : List Nat} (h : Plan g p) : ∃ i, Tail g i p ∧ g.beg i = true := by
  obtain ⟨hw, hf⟩ := h
  cases p with
  | nil => exact absurd rfl hw.ne
  | cons a p => exact ⟨a, ⟨rfl, hw.own, hw.chn, hf⟩, hw.beg a rfl⟩
theorem bestR_best (O : Ord g wt cmp) : Best g wt (bestR g wt) := by
  have R := restR_rest (g := g) (wt := wt) O.small O.bnd
  unfold bestR
  generalize restR g wt g.n = rest at *
  obtain ⟨a1, _, a3⟩ := pick_fold (g := g) (rest := rest) (List.range g.n) (-1) (.inl rfl) (fun x hx => List.mem_range.1 hx) List.pairwise_lt_range (fun x _ => by omega)
  have a1 : firstR g rest = -1 ∨ ∃ i : Nat, firstR g rest = (i : Int) ∧ i < g.n ∧ rest.getD i 0 < FAR ∧ g.own i = true ∧ g.beg i = true := a1
  have a3 : ∀ x ∈ List.range g.n, rest.getD x 0 < FAR → g.own x = true → g.beg x = true → 0 ≤ firstR g rest ∧ (rest.getD (firstR g rest).toNat 0 < rest.getD x 0 ∨ (rest.getD (firstR g rest).toNat 0 = rest.getD x 0 ∧ firstR g rest ≤ (x : Int))) := a3
  rcases a1 with e | ⟨i, e, i1, i2, i3, i4⟩
  · rw [e, goR_neg (by omega)]
    refine ⟨.inl rfl, fun p hp => ?_⟩
    obtain ⟨i, t, hb⟩ := hp.tail
    have := (a3 i (List.mem_range.2 t.lt.1) (R.lim i p t) t.lt.2 hb).1
    omega
  · rw [e] at a3 ⊢
    rw [Int.toNat_natCast] at a3
    obtain ⟨t1, t2, t3, t4, t5⟩ := goR_way R O.pos O.small _ i i1 i2 (Nat.le_refl _)
    have hs : ∃ z, goR g wt rest (i : Int) = i :: z := ⟨_, goR_step O.pos i⟩
    obtain ⟨z, hz⟩ := hs
    have hw : Way g (goR g wt rest (i : Int)) := ⟨by rw [hz]; simp, t1.own, t3, fun x hx => by rw [t1.hd] at hx; obtain rfl := Option.some.inj hx; exact i4, t1.chn⟩
    refine ⟨.inr ⟨hw, t1.fin⟩, fun p hp => ⟨hw.ne, ?_⟩⟩
    obtain ⟨j, t, hb⟩ := hp.tail
    have hle := R.least j p t
    have l1 := hw.len O
    have l2 := hp.way.len O
    have x1 := hw.lex O
    have x2 := hp.way.lex O
    unfold key
    rw [key_cmp_le x1 x2]
    rcases (a3 j (List.mem_range.2 t.lt.1) (R.lim j p t) t.lt.2 hb).2 with h | ⟨h1, h2⟩
    · exact .inl (by omega)
    · rcases Int.lt_or_eq_of_le hle with h3 | h3
      · exact .inl (by omega)
      · refine .inr ⟨by omega, ?_⟩
        by_cases hij : i = j
        · subst hij
          exact t5 p 24 t (by omega) l2 l1
        ·
          have hlt : i < j := by omega
          cases p with
          | nil => exact absurd t.hd (by simp)
          | cons b p =>
            obtain rfl : b = j := by simpa using t.hd
            rw [hz] at l1 ⊢
            simp only [List.length_cons] at l1
            simp only [lexv]
            have g1 := lexv_lt 23 z (by omega) (fun x hx => by have := (t1.own x (by rw [hz]; exact List.mem_cons_of_mem _ hx)).1; have := O.small; omega)
            have g2 : (i + 1) * 32 ^ 23 ≤ b * 32 ^ 23 := Nat.mul_le_mul_right _ hlt
            rw [Nat.add_mul] at g2
            omega
end
end Go.Proofs.YtflolfbkpjgjaaaGreatDoor
end
section
set_option autoImplicit false
namespace Go.Proofs.YtflolfbkpjgjaaaGreatDoor
section
variable {g : Gr} {wt : Nat → Nat} {cmp : List Nat → List Nat → Int}
structure SndK (g : Gr) (inn : List Bool) : Prop where
  len : inn.length = g.n
  rch : ∀ k, inn.getD k false = true → Rch g (-1) k
theorem SndK.start : SndK g (List.replicate g.n false) := ⟨by simp, fun k h => by rw [getD_replicate] at h; simp at h⟩
def Gr.turn (g : Gr) : Gr where
  n := g.n
  own := g.own
  beg := g.fin
  fin := g.beg
  fol := fun a b => g.fol b a
  cost := g.cost
theorem chn_rev {f : Nat → Nat → Bool} : ∀ l : List Nat, Chn f l.reverse ↔ Chn (fun a b => f b a) l
  | [] => by simp [Chn]
  | [_] => by simp [Chn]
  | a :: b :: l => by
    have ih := chn_rev (f := f) (b :: l)
    rw [List.reverse_cons] at ih
    rw [List.reverse_cons, List.reverse_cons]
    constructor
    · intro h
      exact ⟨h.last2, ih.1 h.left⟩
    · rintro ⟨h1, h2⟩
      exact (ih.2 h2).snoc h1
theorem nodup_rev {w : List Nat} (h : w.Nodup) : w.reverse.Nodup := by
  unfold List.Nodup at *
  rw [List.pairwise_reverse]
  exact h.imp (fun h e => h e.symm)
theorem lead_way {i : Nat} {w : List Nat} (h : Tail g.turn i w) (hd : w.Nodup) : Way g w.reverse ∧ w.reverse.getLast? = some i := by
  refine ⟨⟨fun e => ?_, fun x hx => h.own x (List.mem_reverse.1 hx), nodup_rev hd, fun x hx => h.fin x (by rw [List.head?_reverse] at hx; exact hx), (chn_rev w).2 h.chn⟩, by rw [List.getLast?_reverse]; exact h.hd⟩
  have := h.hd
  rw [List.reverse_eq_nil_iff.1 e] at this
  cases this
theorem way_lead {i : Nat} {w : List Nat} (h : Way g w) (hl : w.getLast? = some i) : Tail g.turn i w.reverse := by
  refine ⟨by rw [List.head?_reverse]; exact hl, fun x hx => h.own x (List.mem_reverse.1 hx), ?_, fun x hx => h.beg x (by rw [List.getLast?_reverse] at hx; exact hx)⟩
  have := (chn_rev (f := fun a b => g.fol b a) w).2 h.chn
  exact this
def relaxP (g : Gr) (wt : Nat → Nat) (i : Nat) (out : List Int) (k : Nat) : List Int :=
  if g.own k && g.fol i k then out.set k (min (out.getD k 0) (out.getD i 0 + (wt k : Int))) else out
def rowP (g : Gr) (wt : Nat → Nat) (out : List Int) (i : Nat) : List Int := (List.range g.n).foldl (relaxP g wt i) out
def roundP (g : Gr) (wt : Nat → Nat) (out : List Int) : List Int := (List.range g.n).foldl (rowP g wt) out
def price0 (g : Gr) (wt : Nat → Nat) (most : Int) (i : Nat) : Int := if g.own i then (if g.beg i then min most (wt i : Int) else most) else 0
def startP (g : Gr) (wt : Nat → Nat) (most : Int) : List Int := (List.range g.n).map (price0 g wt most)
def restP (g : Gr) (wt : Nat → Nat) (most : Int) : Nat → List Int
  | 0 => startP g wt most
  | k + 1 => roundP g wt (restP g wt most k)
structure SndP (g : Gr) (wt : Nat → Nat) (most : Int) (out : List Int) : Prop where
  len : out.length = g.n
  other : ∀ i, i < g.n → g.own i = false → out.getD i 0 = 0
  le : ∀ i, i < g.n → 0 ≤ out.getD i 0 ∧ out.getD i 0 ≤ most
  way : ∀ i, i < g.n → g.own i = true → out.getD i 0 = most ∨ ∃ w, Tail g.turn i w ∧ (wsum wt w : Int) = out.getD i 0
theorem relaxP_keeps (K : ∀ i k, g.own k = true → g.fol i k = true → g.own i = true) {most : Int} {out : List Int} (h : SndP g wt most out) {i k : Nat} (hi : i < g.n) (hk : k < g.n) :
    SndP g wt most (relaxP g wt i out k) ∧ LeL (relaxP g wt i out k) out ∧ (g.own k = true → g.fol i k = true → (relaxP g wt i out k).getD k 0 ≤ out.getD i 0 + (wt k : Int)) := by
  unfold relaxP
  split
  · rename_i hc
    simp only [Bool.and_eq_true] at hc
    obtain ⟨c1, c2⟩ := hc
    obtain ⟨a1, a2⟩ := h.le i hi
    obtain ⟨b1, b2⟩ := h.le k hk
    refine ⟨⟨by simp [h.len], fun j hj ho => ?_, fun j hj => ?_, fun j hj ho => ?_⟩, fun j => ?_, fun _ _ => ?_⟩
    · rw [getD_setI]
      split
      · rename_i e
        obtain ⟨rfl, _⟩ := e
        rw [c1] at ho
        cases ho
      · exact h.other j hj ho
    · rw [getD_setI]
      split
      · omega
      · exact h.le j hj
    · rw [getD_setI]
      split
      · rename_i e
        obtain ⟨rfl, _⟩ := e
        by_cases hm : out.getD k 0 ≤ out.getD i 0 + (wt k : Int)
        · rw [Int.min_eq_left hm]
          exact h.way k hk c1
        · rw [Int.min_eq_right (by omega)]
          rcases h.way i hi (K i k c1 c2) with h1 | ⟨w, w1, w2⟩
          · omega
          · exact .inr ⟨k :: w, w1.cons hk c1 c2, by rw [wsum_cons]; omega⟩
      · exact h.way j hj ho
    · rw [getD_setI]
      split
      · rename_i e
        obtain ⟨rfl, _⟩ := e
        omega
      · exact Int.le_refl _
    · rw [getD_setI, if_pos ⟨rfl, by rw [h.len]; exact hk⟩]
      omega
  · rename_i hc
    refine ⟨h, LeL.refl _, fun h1 h2 => absurd ?_ hc⟩
    rw [h1, h2]
    rfl
theorem rowP_keeps (K : ∀ i k, g.own k = true → g.fol i k = true → g.own i = true) {most : Int} {out : List Int} (h : SndP g wt most out) {i : Nat} (hi : i < g.n) :
    SndP g wt most (rowP g wt out i) ∧ LeL (rowP g wt out i) out ∧ ∀ k, k < g.n → g.own k = true → g.fol i k = true → (rowP g wt out i).getD k 0 ≤ out.getD i 0 + (wt k : Int) := by
  obtain ⟨a, b, c⟩ := fold_lower (f := relaxP g wt i) (P := SndP g wt most) (fun k s t => g.own k = true → g.fol i k = true → t.getD k 0 ≤ s.getD i 0 + (wt k : Int)) (List.range g.n)
    (fun k hk s hs => relaxP_keeps K hs hi (List.mem_range.1 hk)) out h
  refine ⟨a, b, fun k hk h1 h2 => ?_⟩
  obtain ⟨s, t, e1, _, e3, e4⟩ := c k (List.mem_range.2 hk)
  have g1 := e1 i
  have g2 := e3 h1 h2
  have g3 := e4 k
  have : (rowP g wt out i).getD k 0 ≤ t.getD k 0 := g3
  omega
theorem roundP_keeps (K : ∀ i k, g.own k = true → g.fol i k = true → g.own i = true) {most : Int} {out : List Int} (h : SndP g wt most out) :
    SndP g wt most (roundP g wt out) ∧ LeL (roundP g wt out) out ∧ ∀ i k, i < g.n → k < g.n → g.own k = true → g.fol i k = true → (roundP g wt out).getD k 0 ≤ out.getD i 0 + (wt k : Int) := by
  obtain ⟨a, b, c⟩ := fold_lower (f := rowP g wt) (P := SndP g wt most) (fun i s t => ∀ k, k < g.n → g.own k = true → g.fol i k = true → t.getD k 0 ≤ s.getD i 0 + (wt k : Int)) (List.range g.n)
    (fun i hi s hs => rowP_keeps K hs (List.mem_range.1 hi)) out h
  refine ⟨a, b, fun i k hi hk h1 h2 => ?_⟩
  obtain ⟨s, t, e1, _, e3, e4⟩ := c i (List.mem_range.2 hi)
  have g1 := e1 i
  have g2 := e3 k hk h1 h2
  have g3 := e4 k
  have : (roundP g wt out).getD k 0 ≤ t.getD k 0 := g3
  omega
theorem startP_at {most : Int} {i : Nat} (hi : i < g.n) : (startP g wt most).getD i 0 = price0 g wt most i := by
  unfold startP
  simp [List.getD_eq_getElem?_getD, hi]
theorem startP_snd {most : Int} (hm : 0 ≤ most) : SndP g wt most (startP g wt most) where
  len := by simp [startP]
  other := fun i hi ho => by rw [startP_at hi]; unfold price0; rw [ho]; rfl
  le := fun i hi => by
    rw [startP_at hi]
    unfold price0
    split
    · split <;> omega
    · omega
  way := fun i hi ho => by
    rw [startP_at hi]
    unfold price0
    rw [ho, if_pos rfl]
    split
    · rename_i hb
      by_cases hc : most ≤ (wt i : Int)
      · exact .inl (Int.min_eq_left hc)
      · rw [Int.min_eq_right (by omega)]
        exact .inr ⟨[i], ⟨rfl, by simpa using ⟨hi, ho⟩, trivial, fun x hx => by
          obtain rfl : i = x := by simpa using hx
          exact hb⟩, by rw [wsum_one]⟩
    · exact .inl rfl
theorem restP_snd (K : ∀ i k, g.own k = true → g.fol i k = true → g.own i = true) {most : Int} (hm : 0 ≤ most) : ∀ k, SndP g wt most (restP g wt most k)
  | 0 => startP_snd hm
  | k + 1 => (roundP_keeps K (restP_snd K hm k)).1
theorem restP_le (K : ∀ i k, g.own k = true → g.fol i k = true → g.own i = true) {most : Int} (hm : 0 ≤ most) : ∀ (k i : Nat) (w : List Nat), Tail g.turn i w → w.length ≤ k + 1 → (restP g wt most k).getD i 0 ≤ wsum wt w
  | 0, i, w, h, hl => by
    have hlt := h.lt
    match w, hl, h with
    | [a], _, h =>
      obtain rfl : a = i := by simpa using h.hd
      show (startP g wt most).getD a 0 ≤ _
      rw [startP_at (g := g) hlt.1, wsum_one]
      unfold price0
      have h1 : g.own a = true := hlt.2
      have h2 : g.beg a = true := h.fin a rfl
      rw [h1, h2, if_pos rfl, if_pos rfl]
      omega
    | [], _, h => exact absurd h.hd (by simp)
  | k + 1, i, w, h, hl => by
    have S := roundP_keeps K (restP_snd (wt := wt) K hm k)
    by_cases hs : w.length ≤ k + 1
    · exact Int.le_trans (S.2.1 i) (restP_le K hm k i w h hs)
    · match w, hl, h, hs with
      | a :: b :: l, hl, h, hs =>
        obtain rfl : a = i := by simpa using h.hd
        have e := wsum_cons wt a (b :: l)
        have h1 := restP_le K hm k b (b :: l) h.tl (by simpa using hl)
        have ha := h.own a (List.mem_cons_self ..)
        have hbb := h.own b (List.mem_cons_of_mem _ (List.mem_cons_self ..))
        have h2 := S.2.2 b a hbb.1 ha.1 ha.2 h.chn.1
        show (roundP g wt (restP g wt most k)).getD a 0 ≤ _
        omega
      | [a], hl, h, hs => exact absurd (by simp) hs
      | [], hl, h, hs => exact absurd h.hd (by simp)
theorem restP_ends (K : ∀ i k, g.own k = true → g.fol i k = true → g.own i = true) {most : Int} (hm : 0 ≤ most) {i : Nat} (hi : i < g.n) (ho : g.own i = true) :
    (restP g wt most g.n).getD i 0 ≤ most ∧ (∀ w, Way g w → w.getLast? = some i → (restP g wt most g.n).getD i 0 ≤ wsum wt w) ∧
    ((restP g wt most g.n).getD i 0 = most ∨ ∃ w, Way g w ∧ w.getLast? = some i ∧ (wsum wt w : Int) ≤ (restP g wt most g.n).getD i 0) := by
  have S := restP_snd (wt := wt) K hm g.n
  refine ⟨(S.le i hi).2, fun w hw hl => ?_, ?_⟩
  · have h1 := restP_le (wt := wt) K hm g.n i w.reverse (way_lead hw hl) (by
      rw [List.length_reverse]
      have := nodup_len g.n w hw.nd hw.lt
      omega)
    have h2 : wsum wt w.reverse = wsum wt w := by unfold wsum; rw [List.map_reverse, List.sum_reverse]
    rw [h2] at h1
    exact h1
  · rcases S.way i hi ho with h | ⟨w, w1, w2⟩
    · exact .inl h
    · obtain ⟨w', h1, h2, h3⟩ := Tail.cut (wt := wt) w i w1
      obtain ⟨k1, k2⟩ := lead_way h1 h2
      refine .inr ⟨w'.reverse, k1, k2, ?_⟩
      have : wsum wt w'.reverse = wsum wt w' := by unfold wsum; rw [List.map_reverse, List.sum_reverse]
      omega
end
end Go.Proofs.YtflolfbkpjgjaaaGreatDoor
end
section
namespace Go.Proofs.YtflolfbkpjgjaaaGreatDoor
def restL (r : Ros) (gate : Int) (most : Int) : List Int := restP (grOf r gate) (cst r) most r.turns.length
theorem own_back (r : Ros) (gate : Int) : ∀ i k, (grOf r gate).own k = true → (grOf r gate).fol i k = true → (grOf r gate).own i = true := by
  intro i k h1 h2
  have h2' : folB r (i : Int) (k : Int) = true := h2
  have h1' : ((tn r (k : Int)).gate == gate) = true := h1
  unfold folB at h2'
  simp only [Bool.and_eq_true, decide_eq_true_eq] at h2'
  show ((tn r (i : Int)).gate == gate) = true
  rw [h2'.1.2]
  exact h1'
theorem costL_nonneg {r : Ros} (V : Valid r) {l : List Nat} (h : ∀ x ∈ l, x < r.turns.length) : 0 ≤ costL r (intsN l) := by
  rw [(costL_ints V l h).1]
  omega
theorem prW_rest {r : Ros} {gate : Int} {P : List Nat} {fin : List (List Nat)} (V : Valid r) (hP : ∀ x ∈ P, x < r.turns.length) (hL : Least (grOf r gate) (wtBy r) fin) {i : Nat} (hi : i < r.turns.length) :
    prW r gate P fin i = (restL r gate (costL r (intsN P))).getD i 0 := by
  have hm := costL_nonneg V hP
  have S := restP_snd (wt := cst r) (own_back r gate) hm r.turns.length
  unfold prW restL
  by_cases hg : ((tn r (i : Int)).gate != gate) = true
  · rw [if_pos hg]
    refine (S.other i hi ?_).symm
    show ((tn r (i : Int)).gate == gate) = false
    simpa using hg
  · rw [if_neg hg]
    have ho : (grOf r gate).own i = true := by
      show ((tn r (i : Int)).gate == gate) = true
      simpa using hg
    obtain ⟨h1, h2, h3⟩ := restP_ends (wt := cst r) (own_back r gate) hm (i := i) hi ho
    have e : restP (grOf r gate) (cst r) (costL r (intsN P)) (grOf r gate).n = restP (grOf r gate) (cst r) (costL r (intsN P)) r.turns.length := rfl
    rw [e] at h1 h2 h3
    by_cases hf : fin.getD i [] = []
    · rw [if_pos hf]
      rcases h3 with h3 | ⟨w, w1, w2, _⟩
      · exact h3.symm
      · exact absurd hf (hL.least w i w1 w2).1
    · rw [if_neg hf]
      obtain ⟨f1, f2⟩ := hL.way i hf
      have hc := (costL_ints V _ (fun x hx => (f1.own x hx).1)).1
      have h4 := h2 _ f1 f2
      rcases h3 with h3 | ⟨w, w1, w2, w3⟩
      · omega
      · have h5 := key_costs V f1 w1 (hL.least w i w1 w2).2
        rw [(costL_ints V w (fun x hx => (w1.own x hx).1)).1] at h5
        omega
theorem pricesL_rest {r : Ros} {gate : Int} {P : List Nat} {fin : List (List Nat)} (V : Valid r) (hP : ∀ x ∈ P, x < r.turns.length) (hL : Least (grOf r gate) (wtBy r) fin) :
    pricesL r gate P fin = restL r gate (costL r (intsN P)) := by
  have S := restP_snd (wt := cst r) (own_back r gate) (costL_nonneg V hP) r.turns.length
  apply List.ext_getElem?
  intro i
  by_cases hi : i < r.turns.length
  · have h := prW_rest V hP hL hi
    have hl : i < (restL r gate (costL r (intsN P))).length := by rw [show (restL r gate (costL r (intsN P))).length = r.turns.length from S.len]; exact hi
    rw [List.getD_eq_getElem?_getD, List.getElem?_eq_getElem hl] at h
    unfold pricesL
    rw [List.getElem?_eq_getElem (by simpa using hi), List.getElem?_eq_getElem hl]
    simpa using h
  · rw [List.getElem?_eq_none (by unfold pricesL; simpa using hi), List.getElem?_eq_none (by rw [show (restL r gate (costL r (intsN P))).length = r.turns.length from S.len]; omega)]
theorem pricesOf_plan {r : Ros} {gate E : Int} {L : List Int} {P : List Nat} (V : Valid r) (hB : Best (grOf r gate) (wtBy r) P) (hne : P ≠ []) (hg : (gatedE r gate != 0) = false) (h : PricesOf r gate E L) :
    E = 0 ∧ L = restL r gate (costL r (intsN P)) := by
  rcases h with h | h | h
  · rw [hg] at h
    exact absurd h.1 (by simp)
  · exact absurd (hB.plan.resolve_left hne) (h.2.1 P)
  · obtain ⟨_, rfl, Q, fin, h1, h2, h3, rfl⟩ := h
    obtain rfl := Best.same (by_ord V gate) hB h2
    have hp := hB.plan.resolve_left hne
    exact ⟨rfl, pricesL_rest V (fun x hx => (hp.way.own x hx).1) h3⟩
end Go.Proofs.YtflolfbkpjgjaaaGreatDoor
end
section
namespace Go.Proofs.YtflolfbkpjgjaaaGreatDoor
open Go.RowKit Go.Proofs.YtflolfbkpjgjaaaGreatDoorW.PrintWords
open Go.Proofs.YtflolfbkpjgjaaaGreatDoorW.PrintMore
def exT : List Trn := [⟨0, 1, 95, 0, 150, 4⟩, ⟨0, 0, 145, 1, 170, 3⟩, ⟨0, 1, 160, 1, 205, 2⟩, ⟨0, 0, 100, 0, 200, 11⟩]
def exR (k : Nat) : Ros := ⟨1, 100, 200, [[0, 5], [3, 0]], exT.take k⟩
theorem ex_valid : Valid (exR 4) := (by by_cases h : checkB (exR 4) = true; exact (checkB_iff _).1 h; exact absurd (show checkB (exR 4) = true by kernel_rfl) h)
theorem ex_gated4 : gatedE (exR 4) 0 = 0 := by kernel_rfl
theorem ex_gated2 : gatedE (exR 2) 0 = 0 := by kernel_rfl
theorem ex_begins : beginsV (exR 4) 0 = true ∧ turnsE (exR 4) [0] = 0 := ⟨by kernel_rfl, by kernel_rfl⟩
theorem ex_meets : meetsV (exR 4) 0 2 = false ∧ turnsE (exR 4) [0, 2] = 0 := ⟨by kernel_rfl, by kernel_rfl⟩
theorem ex_ends : endsV (exR 4) 1 = false ∧ turnsE (exR 4) [1] = 0 := ⟨by kernel_rfl, by kernel_rfl⟩
theorem ex_who : whoO (exR 4) [149, 150] = [0, 1, 3] ∧ whoE (exR 4) [149, 150] = 0 := ⟨by kernel_rfl, by kernel_rfl⟩
theorem ex_plan {P : List Nat} (h : Best (grOf (exR 4) 0) (wtBy (exR 4)) P) : P = [0, 1, 2] := by
  have h2 := bestR_best (by_ord ex_valid 0)
  rw [show bestR (grOf (exR 4) 0) (wtBy (exR 4)) = [0, 1, 2] by kernel_rfl] at h2
  exact Best.same (by_ord ex_valid 0) h h2
theorem ex_fewest {P : List Nat} (h : Best (grOf (exR 4) 0) (wtSh (exR 4)) P) : P = [3] := by
  have h2 := bestR_best (short_ord ex_valid 0)
  rw [show bestR (grOf (exR 4) 0) (wtSh (exR 4)) = [3] by kernel_rfl] at h2
  exact Best.same (short_ord ex_valid 0) h h2
theorem ex_prices {E : Int} {L : List Int} (h : PricesOf (exR 4) 0 E L) : E = 0 ∧ L = [4, 7, 9, 9] := by
  have h2 := bestR_best (by_ord ex_valid 0)
  rw [show bestR (grOf (exR 4) 0) (wtBy (exR 4)) = [0, 1, 2] by kernel_rfl] at h2
  obtain ⟨h3, h4⟩ := pricesOf_plan ex_valid h2 (by simp) (by rw [ex_gated4]; rfl) h
  exact ⟨h3, h4.trans (by kernel_rfl)⟩
theorem ex_gap : gapB (exR 2) 0 = true ∧ gapO (exR 2) 0 = [0, 1] := ⟨by kernel_rfl, by kernel_rfl⟩
theorem ex_bare : bareO (exR 4) 0 [0, 2] = some [150, 145] ∧ bareE (exR 4) 0 [0, 2] = 0 := ⟨by kernel_rfl, by kernel_rfl⟩
theorem ex_bared : checkBareE (exR 4) 0 [0, 2] [150, 145] = 0 ∧ checkBareE (exR 4) 0 [0, 2] [149, 150] = 61 := ⟨by kernel_rfl, by kernel_rfl⟩
theorem ex_spare : spareV (exR 4) 0 [0, 1, 2] = 0 ∧ checkPlanE (exR 4) 0 [0, 1, 2] = 0 := ⟨by kernel_rfl, by kernel_rfl⟩
theorem ex_print : (⟨(printS ⟨0, 0, 145, 1, 170, 3⟩).toArray⟩ : ByteArray) = ⟨#[48, 32, 48, 32, 49, 52, 53, 32, 49, 32, 49, 55, 48, 32, 51]⟩ ∧ printE ⟨0, 0, 145, 1, 170, 3⟩ = 0 := ⟨by kernel_rfl, by kernel_rfl⟩
theorem ex_checkPlan : checkPlanE (exR 4) 0 [0, 2] = 71 := by kernel_rfl
theorem ex_checkGap : checkGapE (exR 2) 0 [0] = 32 := by kernel_rfl
theorem ex_checkPrices : checkPricesE (exR 4) 0 9 [4, 7, 9, 9] = 0 ∧ checkPricesE (exR 4) 0 10 [4, 7, 9, 9] = 32 := ⟨by kernel_rfl, by kernel_rfl⟩
theorem ex_none : checkE ⟨0, 0, 0, [], []⟩ = 70 := by kernel_rfl
end Go.Proofs.YtflolfbkpjgjaaaGreatDoor
end
section
namespace Go.Proofs.YtflolfbkpjgjaaaGreatDoor
open Go.RowKit Go.Proofs.YtflolfbkpjgjaaaGreatDoorW.PrintWords Go.Proofs.YtflolfbkpjgjaaaGreatDoorW.PrintMore
theorem example_calls (n : Int) (k : Nat) (hn : n = (k : Int)) (hk : k ≤ 4) (w : World) : Calls Tryz.prog 76 #[.int .i64 n] w fun e w' => ∃ A c T d, e = .returned (.agg (rosC (exR k) A c T d)) ∧ RosAt w' (.agg (rosC (exR k) A c T d)) (exR k) ∧ Below w.heap.size w w' := by
  have hf : law_example.f n = some (1, 100, 200, [[0, 5], [3, 0]], exT.take k) := by
    subst hn
    show (some exT).bind (fun y : List Trn => if 0 ≤ (k : Int) then (if (k : Int) ≤ (y.length : Int) then some ((1 : Int), (100 : Int), (200 : Int), [[0, 5], [3, 0]], y.take (k : Int).toNat) else none) else none) = _
    rw [Option.bind_some, if_pos (by omega), if_pos (by show (k : Int) ≤ 4; omega)]
    rfl
  refine (law_example.calls n 1 100 200 _ _ w hf).mono ?_
  rintro e w' ⟨v3, v4, rfl, h3, h4, hb⟩
  obtain ⟨A, c, rfl, h31, h32⟩ := Kd.N_reads h3
  obtain ⟨T, d, rfl⟩ := Kd.V_slice h4
  have h5 := Kd.V_reads' h4
  exact ⟨A, c, T, d, rfl, ⟨A, c, T, d, rfl, h31, h5.2.1, h32, h5.2.2⟩, hb⟩
def fewB (r : Ros) (ls : List (List Int)) : Bool := ls.all (fun l => decide (l.length ≤ 100)) && (decide (r.ahead.length ≤ 100) && decide (r.turns.length ≤ 100))
theorem few_l0 (r : Ros) (ls : List (List Int)) (hb : ls.length ≤ 1000) : ∀ (m j : Nat), j + m = ls.length → law_few.l0 (m + 1) ls (ls.length : Int) (j : Int) r.gates r.frm r.til r.ahead r.turns = some (fewB r (ls.drop j))
  | 0, j, h => by
    unfold law_few.l0
    rw [if_neg (by omega), List.drop_of_length_le (by omega)]
    unfold fewB
    by_cases h1 : (r.ahead.length : Int) ≤ 100
    · rw [if_pos h1]
      have h1' : r.ahead.length ≤ 100 := by omega
      simp [h1']
      omega
    · rw [if_neg h1]
      have h1' : ¬ r.ahead.length ≤ 100 := by omega
      simp [h1']
  | m + 1, j, h => by
    unfold law_few.l0
    rw [if_pos (by omega), if_pos (by omega), if_pos (by omega)]
    have hj : j < ls.length := by omega
    have e : rd_L1 ls (j : Int) = ls[j] := by
      unfold rd_L1
      rw [show ((j : Int)).toNat = j from rfl, List.getD_eq_getElem?_getD, List.getElem?_eq_getElem hj]
      rfl
    have hd : ls.drop j = ls[j] :: ls.drop (j + 1) := List.drop_eq_getElem_cons hj
    rw [e, hd]
    by_cases h1 : (ls[j].length : Int) > 100
    · rw [if_pos h1]
      have h1' : ¬ ls[j].length ≤ 100 := by omega
      unfold fewB
      rw [List.all_cons, decide_eq_false h1']
      rfl
    · rw [if_neg h1]
      have hw : wrap64 ((j : Int) + 1) = ((j + 1 : Nat) : Int) := by
        rw [show ((j + 1 : Nat) : Int) = (j : Int) + 1 by omega]
        unfold wrap64; omega
      rw [hw, few_l0 r ls hb m (j + 1) (by omega)]
      have h1' : ls[j].length ≤ 100 := by omega
      unfold fewB
      rw [List.all_cons, decide_eq_true h1', Bool.true_and]
theorem few_calls (v lv : Value) (r : Ros) (ls : List (List Int)) (w : World) (hv : RosAt w v r) (A1 : Option Addr) (c1 : Nat) (e1 : lv = .slice A1 ls.length c1) (hc1 : ls.length ≤ c1) (hl : CII w A1 ls.length ls) (hb : ls.length ≤ 1000) :
    Calls Tryz.prog 18 #[v, lv] w fun e w' => e = .returned (.bool (fewB r ls)) ∧ Below w.heap.size w w' := by
  obtain ⟨A, c, T, d, rfl, h1, h2, h3, h4⟩ := hv
  subst e1
  refine law_few.calls (ls.length + 1) r.gates r.frm r.til A c r.ahead T d r.turns A1 c1 ls (fewB r ls) w h3 h1 h4 h2 hl hc1 ?_
  have := few_l0 r ls hb ls.length 0 (by omega)
  simpa [law_few.f] using this
end Go.Proofs.YtflolfbkpjgjaaaGreatDoor
end
section
namespace Go.Proofs.YtflolfbkpjgjaaaGreatDoor
open Go.RowKit Go.Proofs.YtflolfbkpjgjaaaGreatDoorW.PrintWords
open Go.Proofs.YtflolfbkpjgjaaaGreatDoorW.PrintMore
theorem ListV.ints {w : World} {ba : Nat} {v : Value} {l : List Nat} (h : ListV w ba v l) : IntsAt w v (intsN l) := by
  rcases h with ⟨rfl, rfl⟩ | ⟨h0, ad, c, rfl, h1, h2, h3⟩
  · exact ⟨none, 0, rfl, Nat.le_refl _, Kd.C_nil _ w⟩
  · refine ⟨some ad, c, by simp [intsN], by simpa [intsN] using h1, ?_⟩
    simpa [intsN] using h2
theorem ex4_calls (w : World) : Calls Tryz.prog 76 #[.int .i64 4] w fun e w' => ∃ A c ad d, e = .returned (.agg #[.int .i64 1, .int .i64 100, .int .i64 200, .slice A 2 c, .slice (some ad) 4 d]) ∧ RosAt w' (.agg #[.int .i64 1, .int .i64 100, .int .i64 200, .slice A 2 c, .slice (some ad) 4 d]) (exR 4) ∧ Below w.heap.size w w' := by
  refine (example_calls 4 4 rfl (by omega) w).mono ?_
  rintro e w' ⟨A, c, T, d, rfl, hr, hb⟩
  obtain ⟨A', c', T', d', e, h1, h2, h3, h4⟩ := hr
  obtain ⟨ad, e2, _⟩ := CT_at h4 1 (by omega) (by show (1 : Int) < 4; omega)
  injection e with e
  injection e with e
  simp only [rosC, Array.mk.injEq, List.cons.injEq, Value.slice.injEq, true_and, and_true] at e
  obtain ⟨⟨rfl, _, rfl⟩, ⟨rfl, _, rfl⟩⟩ := e
  subst e2
  exact ⟨A, c, ad, d, rfl, ⟨A, c, some ad, d, rfl, h1, h2, h3, h4⟩, hb⟩
theorem ex2_calls (w : World) : Calls Tryz.prog 76 #[.int .i64 2] w fun e w' => ∃ v, e = .returned v ∧ RosAt w' v (exR 2) ∧ Below w.heap.size w w' := by
  refine (example_calls 2 2 rfl (by omega) w).mono ?_
  rintro e w' ⟨A, c, T, d, rfl, hr, hb⟩
  exact ⟨_, rfl, hr, hb⟩
theorem ex4_turn {w : World} {A : Option Addr} {c d : Nat} {ad : Addr} (h : RosAt w (.agg #[.int .i64 1, .int .i64 100, .int .i64 200, .slice A 2 c, .slice (some ad) 4 d]) (exR 4)) :
    w.cell? ⟨ad.block, ad.off + 6, none⟩ = some (.int .i64 0) ∧ w.cell? ⟨ad.block, ad.off + 6 + 1, none⟩ = some (.int .i64 0) ∧ w.cell? ⟨ad.block, ad.off + 6 + 2, none⟩ = some (.int .i64 145) ∧ w.cell? ⟨ad.block, ad.off + 6 + 3, none⟩ = some (.int .i64 1) ∧ w.cell? ⟨ad.block, ad.off + 6 + 4, none⟩ = some (.int .i64 170) ∧ w.cell? ⟨ad.block, ad.off + 6 + 5, none⟩ = some (.int .i64 3) := by
  obtain ⟨A', c', T', d', e, h1, h2, h3, h4⟩ := h
  injection e with e
  injection e with e
  simp only [rosC, Array.mk.injEq, List.cons.injEq, Value.slice.injEq, true_and, and_true] at e
  obtain ⟨_, _, _, ⟨rfl, _, rfl⟩, rfl, _, rfl⟩ := e
  obtain ⟨ad', e2, g⟩ := CT_at h4 1 (by omega) (by show (1 : Int) < 4; omega)
  cases e2
  exact g
theorem xs_begins {w : World} {v : Value} (h : RosAt w v (exR 4)) : Calls Tryz.prog 37 #[v, .int .i64 0] w fun e w' => e = .returned (.tuple #[.bool true, .int .i64 0]) ∧ Below w.heap.size w w' := by
  have := begins_calls v (exR 4) 0 w h
  rwa [ex_begins.1, ex_begins.2] at this
theorem xs_meets {w : World} {v : Value} (h : RosAt w v (exR 4)) : Calls Tryz.prog 39 #[v, .int .i64 0, .int .i64 2] w fun e w' => e = .returned (.tuple #[.bool false, .int .i64 0]) ∧ Below w.heap.size w w' := by
  have := meets_calls v (exR 4) 0 2 w h
  rwa [ex_meets.1, ex_meets.2] at this
theorem xs_ends {w : World} {v : Value} (h : RosAt w v (exR 4)) : Calls Tryz.prog 38 #[v, .int .i64 1] w fun e w' => e = .returned (.tuple #[.bool false, .int .i64 0]) ∧ Below w.heap.size w w' := by
  have := ends_calls v (exR 4) 1 w h
  rwa [ex_ends.1, ex_ends.2] at this
theorem xs_who {w : World} {v lv : Value} (h : RosAt w v (exR 4)) (hl : IntsAt w lv [149, 150]) : Calls Tryz.prog 41 #[v, lv] w fun e w' => ∃ ov, e = .returned (.tuple #[ov, .int .i64 0]) ∧ IntsAt w' ov [0, 1, 3] ∧ Below w.heap.size w w' := by
  have := who_calls v lv (exR 4) [149, 150] w h hl
  rw [ex_who.1, ex_who.2] at this
  refine this.mono ?_
  rintro e w' ⟨ov, rfl, ho, hb⟩
  exact ⟨ov, rfl, intsAt_of_own ho, hb⟩
theorem xs_plan {w : World} {v : Value} (h : RosAt w v (exR 4)) : Calls Tryz.prog 35 #[v, .int .i64 0] w fun e w' => ∃ ov, e = .returned (.tuple #[ov, .bool true, .int .i64 0]) ∧ IntsAt w' ov [0, 1, 2] ∧ Below w.heap.size w w' := by
  have := planF_calls v (exR 4) 0 w h
  rw [ex_gated4] at this
  refine this.mono ?_
  rintro e w' ⟨lv, P, ba, rfl, hl, hb, h1, h2⟩
  obtain rfl := ex_plan (h1 rfl)
  exact ⟨lv, rfl, hl.ints, hb⟩
theorem xs_fewest {w : World} {v : Value} (h : RosAt w v (exR 4)) : Calls Tryz.prog 60 #[v, .int .i64 0] w fun e w' => ∃ ov, e = .returned (.tuple #[ov, .bool true, .int .i64 0]) ∧ IntsAt w' ov [3] ∧ Below w.heap.size w w' := by
  have := fewest_calls v (exR 4) 0 w h
  rw [ex_gated4] at this
  refine this.mono ?_
  rintro e w' ⟨lv, P, ba, rfl, hl, hb, h1, h2⟩
  obtain rfl := ex_fewest (h1 rfl)
  exact ⟨lv, rfl, hl.ints, hb⟩
theorem xs_prices {w : World} {v : Value} (h : RosAt w v (exR 4)) : Calls Tryz.prog 23 #[v, .int .i64 0] w fun e w' => ∃ ov, e = .returned (.tuple #[ov, .int .i64 0]) ∧ IntsAt w' ov [4, 7, 9, 9] ∧ Below w.heap.size w w' := by
  refine (prices_calls v (exR 4) 0 w h).mono ?_
  rintro e w' ⟨lv, E, L, rfl, ho, hb, h1⟩
  obtain ⟨rfl, rfl⟩ := ex_prices h1
  exact ⟨lv, rfl, intsAt_of_own ho, hb⟩
theorem xs_gap {w : World} {v : Value} (h : RosAt w v (exR 2)) : Calls Tryz.prog 21 #[v, .int .i64 0] w fun e w' => ∃ ov, e = .returned (.tuple #[ov, .bool true, .int .i64 0]) ∧ IntsAt w' ov [0, 1] ∧ Below w.heap.size w w' := by
  have := gap_calls v (exR 2) 0 w h
  rw [ex_gap.1, ex_gap.2, ex_gated2] at this
  refine this.mono ?_
  rintro e w' ⟨ov, rfl, ho, hb⟩
  exact ⟨ov, rfl, intsAt_of_own ho, hb⟩
theorem xs_bare {w : World} {v lv : Value} (h : RosAt w v (exR 4)) (hl : IntsAt w lv [0, 2]) : Calls Tryz.prog 30 #[v, .int .i64 0, lv] w fun e w' => ∃ ov, e = .returned (.tuple #[ov, .bool true, .int .i64 0]) ∧ IntsAt w' ov [150, 145] ∧ Below w.heap.size w w' := by
  have := bare_calls v lv (exR 4) 0 [0, 2] w h hl
  rw [ex_bare.1, ex_bare.2] at this
  refine this.mono ?_
  rintro e w' ⟨ov, rfl, ho, hb⟩
  exact ⟨ov, rfl, intsAt_of_own ho, hb⟩
theorem xs_spare {w : World} {v lv : Value} (h : RosAt w v (exR 4)) (hl : IntsAt w lv [0, 1, 2]) : Calls Tryz.prog 58 #[v, .int .i64 0, lv] w fun e w' => e = .returned (.tuple #[.int .i64 0, .int .i64 0]) ∧ Below w.heap.size w w' := by
  have := spare_calls v lv (exR 4) 0 [0, 1, 2] w h hl
  rwa [ex_spare.1, ex_spare.2] at this
theorem xs_print {w : World} (hT : TabP w) : Calls Tryz.prog 72 #[.agg #[.int .i64 0, .int .i64 0, .int .i64 145, .int .i64 1, .int .i64 170, .int .i64 3]] w fun e w' => e = .returned (.tuple #[.string ⟨#[48, 32, 48, 32, 49, 52, 53, 32, 49, 32, 49, 55, 48, 32, 51]⟩, .int .i64 0]) ∧ Below w.heap.size w w' := by
  have := print_calls ⟨0, 0, 145, 1, 170, 3⟩ w hT
  rw [ex_print.1, ex_print.2] at this
  exact this
theorem xs_checkBare {w : World} {v lv sv : Value} (h : RosAt w v (exR 4)) (hl : IntsAt w lv [0, 2]) (hs : IntsAt w sv [150, 145]) : Calls Tryz.prog 33 #[v, .int .i64 0, lv, sv] w fun e w' => e = .returned (.int .i64 0) ∧ Below w.heap.size w w' := by
  have := checkBare_calls v lv sv (exR 4) 0 [0, 2] [150, 145] w h hl hs
  rwa [ex_bared.1] at this
theorem xs_checkBare2 {w : World} {v lv sv : Value} (h : RosAt w v (exR 4)) (hl : IntsAt w lv [0, 2]) (hs : IntsAt w sv [149, 150]) : Calls Tryz.prog 33 #[v, .int .i64 0, lv, sv] w fun e w' => e = .returned (.int .i64 61) ∧ Below w.heap.size w w' := by
  have := checkBare_calls v lv sv (exR 4) 0 [0, 2] [149, 150] w h hl hs
  rwa [ex_bared.2] at this
theorem xs_checkPlan {w : World} {v lv : Value} (h : RosAt w v (exR 4)) (hl : IntsAt w lv [0, 2]) : Calls Tryz.prog 36 #[v, .int .i64 0, lv] w fun e w' => e = .returned (.int .i64 71) ∧ Below w.heap.size w w' := by
  have := checkPlan_calls v lv (exR 4) 0 [0, 2] w h hl
  rwa [ex_checkPlan] at this
theorem xs_checkGap {w : World} {v lv : Value} (h : RosAt w v (exR 2)) (hl : IntsAt w lv [0]) : Calls Tryz.prog 26 #[v, .int .i64 0, lv] w fun e w' => e = .returned (.int .i64 32) ∧ Below w.heap.size w w' := by
  have := checkGap_calls v lv (exR 2) 0 [0] w h hl
  rwa [ex_checkGap] at this
theorem xs_checkPrices {w : World} {v lv : Value} (h : RosAt w v (exR 4)) (hl : IntsAt w lv [4, 7, 9, 9]) : Calls Tryz.prog 28 #[v, .int .i64 0, .int .i64 9, lv] w fun e w' => e = .returned (.int .i64 0) ∧ Below w.heap.size w w' := by
  have := checkPrices_calls v lv (exR 4) 0 9 [4, 7, 9, 9] w h hl
  rwa [ex_checkPrices.1] at this
theorem xs_checkPrices2 {w : World} {v lv : Value} (h : RosAt w v (exR 4)) (hl : IntsAt w lv [4, 7, 9, 9]) : Calls Tryz.prog 28 #[v, .int .i64 0, .int .i64 10, lv] w fun e w' => e = .returned (.int .i64 32) ∧ Below w.heap.size w w' := by
  have := checkPrices_calls v lv (exR 4) 0 10 [4, 7, 9, 9] w h hl
  rwa [ex_checkPrices.2] at this
theorem xs_check (w : World) : Calls Tryz.prog 48 #[.agg #[.int .i64 0, .int .i64 0, .int .i64 0, .slice none 0 0, .slice none 0 0]] w fun e w' => e = .returned (.int .i64 70) ∧ Below w.heap.size w w' := by
  have := check_calls (.agg #[.int .i64 0, .int .i64 0, .int .i64 0, .slice none 0 0, .slice none 0 0]) ⟨0, 0, 0, [], []⟩ w ⟨none, 0, none, 0, rfl, Nat.le_refl _, Nat.le_refl _, Kd.C_nil _ _, Kd.C_nil _ _⟩
  rwa [ex_none] at this
theorem eqs_calls {w : World} {v1 v2 : Value} {xs ys : List Int} {b : Bool} (h1 : IntsAt w v1 xs) (h2 : IntsAt w v2 ys) (hb : decide (xs = ys) = b) : Calls Tryz.prog 25 #[v1, v2] w fun e w' => e = .returned (.bool b) ∧ Below w.heap.size w w' := by
  subst hb
  obtain ⟨A, c, rfl, h11, h12⟩ := h1
  obtain ⟨B, d, rfl, h21, h22⟩ := h2
  exact equal_calls A B c d xs ys w h12 h22 h12.2.1 h22.2.1
theorem ints_lit (w : World) (xs : List Int) (hx : xs.length ≤ 1000) : IntsAt (w.alloc (.cells (xs.map fun n => Value.int .i64 n).toArray 3)) (.slice (some ⟨w.heap.size, 0, none⟩) xs.length xs.length) xs := ⟨_, _, rfl, Nat.le_refl _, ci_alloc w xs 3 (by omega)⟩
end Go.Proofs.YtflolfbkpjgjaaaGreatDoor
end
section
namespace Go.Proofs.YtflolfbkpjgjaaaGreatDoor
open Go.RowKit Go.Proofs.YtflolfbkpjgjaaaGreatDoorW.PrintWords
open Go.Proofs.YtflolfbkpjgjaaaGreatDoorW.PrintMore
theorem bset {base g : Nat} {w0 w : World} (h : Below base w0 w) (hg : base ≤ g) (i : Nat) (v : Value) : Below base w0 (w.setCell ⟨g, i, none⟩ v) := h.setCell hg v
set_option maxHeartbeats 4000000 in
set_option maxRecDepth 100000 in
theorem sane_calls (w : World) (hT : TabP w) :
    Calls Tryz.prog 17 #[] w fun e w' => e = .returned (.bool true) ∧ Below w.heap.size w w' := by
  have HT := Aside0.mk hT
  clear hT
  go_enter Tryz.func17, Tryz.ntmps17
  go_wp2_with (first | (go_at_call 76; (with_reducible refine (ex4_calls _).mono ?_); rintro e w1 ⟨A, c, ad, d, rfl, hr_, hb_⟩; have HR := Aside0.mk hr_; have HB1 := Aside0.mk hb_; clear hr_ hb_) | ((with_reducible refine gate_dst (N := 1) rfl ?_); refine box_event ?hg (N := 1) ?hd (cs := #[.int .i64 0, .int .i64 0, .int .i64 0, .slice none 0 0, .slice none 0 0]) (t := 25) ?hr ?_; (case hd => rfl); (case hg => rfl); (case hr => first | (go_simp; done) | (go_simp; rfl)); intro g hg w2 hbox_ hb_; have BZ := Aside0.mk hbox_; have HX := Aside0.mk hb_; have HG := Aside0.mk (Nat.le_of_eq hg.symm); have z0 : w2.cell? ⟨g, 0, none⟩ = some (.int .i64 0) := (blk_cell BZ.out 0).trans rfl; have y0 := blk_frozen BZ.out 0; have z1 : w2.cell? ⟨g, 1, none⟩ = some (.int .i64 0) := (blk_cell BZ.out 1).trans rfl; have y1 := blk_frozen BZ.out 1; have z2 : w2.cell? ⟨g, 2, none⟩ = some (.int .i64 0) := (blk_cell BZ.out 2).trans rfl; have y2 := blk_frozen BZ.out 2; have z3 : w2.cell? ⟨g, 3, none⟩ = some (.slice none 0 0) := (blk_cell BZ.out 3).trans rfl; have y3 := blk_frozen BZ.out 3; have z4 : w2.cell? ⟨g, 4, none⟩ = some (.slice none 0 0) := (blk_cell BZ.out 4).trans rfl; have y4 := blk_frozen BZ.out 4; clear hbox_ hb_ hg) | (go_at_call 37; have BK3 := Aside0.mk (blk_set (blk_set (blk_set (blk_set (blk_set BZ.out 0 (.int .i64 1)) 1 (.int .i64 100)) 2 (.int .i64 200)) 3 (.slice A 2 c)) 4 (.slice (some ad) 4 d)); have HB3 := Aside0.mk (below_step HB1.out (bset (bset (bset (bset (bset HX.out HG.out 0 (.int .i64 1)) HG.out 1 (.int .i64 100)) HG.out 2 (.int .i64 200)) HG.out 3 (.slice A 2 c)) HG.out 4 (.slice (some ad) 4 d))); have HR3 := Aside0.mk (HR.out.below (bset (bset (bset (bset (bset HX.out HG.out 0 (.int .i64 1)) HG.out 1 (.int .i64 100)) HG.out 2 (.int .i64 200)) HG.out 3 (.slice A 2 c)) HG.out 4 (.slice (some ad) 4 d))); clear z0 z1 z2 z3 z4 y0 y1 y2 y3 y4; generalize (((((w2.setCell ⟨g, 0, none⟩ (.int .i64 1)).setCell ⟨g, 1, none⟩ (.int .i64 100)).setCell ⟨g, 2, none⟩ (.int .i64 200)).setCell ⟨g, 3, none⟩ (.slice A 2 c)).setCell ⟨g, 4, none⟩ (.slice (some ad) 4 d)) = w3 at *; (with_reducible refine (xs_begins HR3.out).mono ?_); rintro e w4 ⟨rfl, hb_⟩; have BK4 := Aside0.mk (blk_below BK3.out hb_); have HB4 := Aside0.mk (below_step HB3.out hb_); have HR4 := Aside0.mk (HR3.out.below hb_); have q0 : w4.cell? ⟨g, 0, none⟩ = some (.int .i64 1) := (blk_cell BK4.out 0).trans rfl; have q1 : w4.cell? ⟨g, 1, none⟩ = some (.int .i64 100) := (blk_cell BK4.out 1).trans rfl; have q2 : w4.cell? ⟨g, 2, none⟩ = some (.int .i64 200) := (blk_cell BK4.out 2).trans rfl; have q3 : w4.cell? ⟨g, 3, none⟩ = some (.slice A 2 c) := (blk_cell BK4.out 3).trans rfl; have q4 : w4.cell? ⟨g, 4, none⟩ = some (.slice (some ad) 4 d) := (blk_cell BK4.out 4).trans rfl; clear hb_) | (go_at_call 39; (with_reducible refine (xs_meets HR4.out).mono ?_); rintro e w5 ⟨rfl, hb_⟩; have BK5 := Aside0.mk (blk_below BK4.out hb_); have HB5 := Aside0.mk (below_step HB4.out hb_); have HR5 := Aside0.mk (HR4.out.below hb_); clear q0 q1 q2 q3 q4; have q0 : w5.cell? ⟨g, 0, none⟩ = some (.int .i64 1) := (blk_cell BK5.out 0).trans rfl; have q1 : w5.cell? ⟨g, 1, none⟩ = some (.int .i64 100) := (blk_cell BK5.out 1).trans rfl; have q2 : w5.cell? ⟨g, 2, none⟩ = some (.int .i64 200) := (blk_cell BK5.out 2).trans rfl; have q3 : w5.cell? ⟨g, 3, none⟩ = some (.slice A 2 c) := (blk_cell BK5.out 3).trans rfl; have q4 : w5.cell? ⟨g, 4, none⟩ = some (.slice (some ad) 4 d) := (blk_cell BK5.out 4).trans rfl; clear hb_) | (go_at_call 38; (with_reducible refine (xs_ends HR5.out).mono ?_); rintro e w6 ⟨rfl, hb_⟩; have BK6 := Aside0.mk (blk_below BK5.out hb_); have HB6 := Aside0.mk (below_step HB5.out hb_); have HR6 := Aside0.mk (HR5.out.below hb_); clear q0 q1 q2 q3 q4; have q0 : w6.cell? ⟨g, 0, none⟩ = some (.int .i64 1) := (blk_cell BK6.out 0).trans rfl; have q1 : w6.cell? ⟨g, 1, none⟩ = some (.int .i64 100) := (blk_cell BK6.out 1).trans rfl; have q2 : w6.cell? ⟨g, 2, none⟩ = some (.int .i64 200) := (blk_cell BK6.out 2).trans rfl; have q3 : w6.cell? ⟨g, 3, none⟩ = some (.slice A 2 c) := (blk_cell BK6.out 3).trans rfl; have q4 : w6.cell? ⟨g, 4, none⟩ = some (.slice (some ad) 4 d) := (blk_cell BK6.out 4).trans rfl; clear hb_) | (go_at_call 41; have ha_ : Below w6.heap.size w6 (w6.alloc (.cells #[.int .i64 149, .int .i64 150] 3)) := below_alloc (Below.refl _ _) _; have BK6a := Aside0.mk (blk_below BK6.out ha_); have HB6a := Aside0.mk (below_step HB6.out ha_); have HR6a := Aside0.mk (HR6.out.below ha_); have LL_6a : Aside0 (IntsAt (w6.alloc (.cells #[.int .i64 149, .int .i64 150] 3)) (.slice (some ⟨w6.heap.size, 0, none⟩) 2 2) [149, 150]) := ⟨ints_lit w6 [149, 150] (by simp)⟩; clear ha_; (with_reducible refine (xs_who HR6a.out LL_6a.out).mono ?_); rintro e w7 ⟨vw, rfl, hl_, hb_⟩; have BK7 := Aside0.mk (blk_below BK6a.out hb_); have HB7 := Aside0.mk (below_step HB6a.out hb_); have HR7 := Aside0.mk (HR6a.out.below hb_); have LW_7 := Aside0.mk hl_; clear hl_; clear q0 q1 q2 q3 q4; have q0 : w7.cell? ⟨g, 0, none⟩ = some (.int .i64 1) := (blk_cell BK7.out 0).trans rfl; have q1 : w7.cell? ⟨g, 1, none⟩ = some (.int .i64 100) := (blk_cell BK7.out 1).trans rfl; have q2 : w7.cell? ⟨g, 2, none⟩ = some (.int .i64 200) := (blk_cell BK7.out 2).trans rfl; have q3 : w7.cell? ⟨g, 3, none⟩ = some (.slice A 2 c) := (blk_cell BK7.out 3).trans rfl; have q4 : w7.cell? ⟨g, 4, none⟩ = some (.slice (some ad) 4 d) := (blk_cell BK7.out 4).trans rfl; clear hb_) | (go_at_call 35; (with_reducible refine (xs_plan HR7.out).mono ?_); rintro e w8 ⟨vl, rfl, hl_, hb_⟩; have BK8 := Aside0.mk (blk_below BK7.out hb_); have HB8 := Aside0.mk (below_step HB7.out hb_); have HR8 := Aside0.mk (HR7.out.below hb_); have LW_8 := Aside0.mk (LW_7.out.below hb_); have LP_8 := Aside0.mk hl_; clear hl_; clear q0 q1 q2 q3 q4; have q0 : w8.cell? ⟨g, 0, none⟩ = some (.int .i64 1) := (blk_cell BK8.out 0).trans rfl; have q1 : w8.cell? ⟨g, 1, none⟩ = some (.int .i64 100) := (blk_cell BK8.out 1).trans rfl; have q2 : w8.cell? ⟨g, 2, none⟩ = some (.int .i64 200) := (blk_cell BK8.out 2).trans rfl; have q3 : w8.cell? ⟨g, 3, none⟩ = some (.slice A 2 c) := (blk_cell BK8.out 3).trans rfl; have q4 : w8.cell? ⟨g, 4, none⟩ = some (.slice (some ad) 4 d) := (blk_cell BK8.out 4).trans rfl; clear hb_) | (go_at_call 60; (with_reducible refine (xs_fewest HR8.out).mono ?_); rintro e w9 ⟨vm, rfl, hl_, hb_⟩; have BK9 := Aside0.mk (blk_below BK8.out hb_); have HB9 := Aside0.mk (below_step HB8.out hb_); have HR9 := Aside0.mk (HR8.out.below hb_); have LW_9 := Aside0.mk (LW_8.out.below hb_); have LP_9 := Aside0.mk (LP_8.out.below hb_); have LM_9 := Aside0.mk hl_; clear hl_; clear q0 q1 q2 q3 q4; have q0 : w9.cell? ⟨g, 0, none⟩ = some (.int .i64 1) := (blk_cell BK9.out 0).trans rfl; have q1 : w9.cell? ⟨g, 1, none⟩ = some (.int .i64 100) := (blk_cell BK9.out 1).trans rfl; have q2 : w9.cell? ⟨g, 2, none⟩ = some (.int .i64 200) := (blk_cell BK9.out 2).trans rfl; have q3 : w9.cell? ⟨g, 3, none⟩ = some (.slice A 2 c) := (blk_cell BK9.out 3).trans rfl; have q4 : w9.cell? ⟨g, 4, none⟩ = some (.slice (some ad) 4 d) := (blk_cell BK9.out 4).trans rfl; clear hb_) | (go_at_call 23; (with_reducible refine (xs_prices HR9.out).mono ?_); rintro e w10 ⟨vp, rfl, hl_, hb_⟩; have BK10 := Aside0.mk (blk_below BK9.out hb_); have HB10 := Aside0.mk (below_step HB9.out hb_); have HR10 := Aside0.mk (HR9.out.below hb_); have LW_10 := Aside0.mk (LW_9.out.below hb_); have LP_10 := Aside0.mk (LP_9.out.below hb_); have LM_10 := Aside0.mk (LM_9.out.below hb_); have LQ_10 := Aside0.mk hl_; clear hl_; clear q0 q1 q2 q3 q4; have q0 : w10.cell? ⟨g, 0, none⟩ = some (.int .i64 1) := (blk_cell BK10.out 0).trans rfl; have q1 : w10.cell? ⟨g, 1, none⟩ = some (.int .i64 100) := (blk_cell BK10.out 1).trans rfl; have q2 : w10.cell? ⟨g, 2, none⟩ = some (.int .i64 200) := (blk_cell BK10.out 2).trans rfl; have q3 : w10.cell? ⟨g, 3, none⟩ = some (.slice A 2 c) := (blk_cell BK10.out 3).trans rfl; have q4 : w10.cell? ⟨g, 4, none⟩ = some (.slice (some ad) 4 d) := (blk_cell BK10.out 4).trans rfl; clear hb_) | (go_at_call 76; (with_reducible refine (ex2_calls _).mono ?_); rintro e w11 ⟨ve, rfl, he_, hb_⟩; have HE11 := Aside0.mk he_; have BK11 := Aside0.mk (blk_below BK10.out hb_); have HB11 := Aside0.mk (below_step HB10.out hb_); have HR11 := Aside0.mk (HR10.out.below hb_); have LW_11 := Aside0.mk (LW_10.out.below hb_); have LP_11 := Aside0.mk (LP_10.out.below hb_); have LM_11 := Aside0.mk (LM_10.out.below hb_); have LQ_11 := Aside0.mk (LQ_10.out.below hb_); clear q0 q1 q2 q3 q4; have q0 : w11.cell? ⟨g, 0, none⟩ = some (.int .i64 1) := (blk_cell BK11.out 0).trans rfl; have q1 : w11.cell? ⟨g, 1, none⟩ = some (.int .i64 100) := (blk_cell BK11.out 1).trans rfl; have q2 : w11.cell? ⟨g, 2, none⟩ = some (.int .i64 200) := (blk_cell BK11.out 2).trans rfl; have q3 : w11.cell? ⟨g, 3, none⟩ = some (.slice A 2 c) := (blk_cell BK11.out 3).trans rfl; have q4 : w11.cell? ⟨g, 4, none⟩ = some (.slice (some ad) 4 d) := (blk_cell BK11.out 4).trans rfl; clear hb_ he_) | (go_at_call 21; (with_reducible refine (xs_gap HE11.out).mono ?_); rintro e w12 ⟨vg, rfl, hl_, hb_⟩; have BK12 := Aside0.mk (blk_below BK11.out hb_); have HB12 := Aside0.mk (below_step HB11.out hb_); have HR12 := Aside0.mk (HR11.out.below hb_); have LW_12 := Aside0.mk (LW_11.out.below hb_); have LP_12 := Aside0.mk (LP_11.out.below hb_); have LM_12 := Aside0.mk (LM_11.out.below hb_); have LQ_12 := Aside0.mk (LQ_11.out.below hb_); have LG_12 := Aside0.mk hl_; clear hl_; clear q0 q1 q2 q3 q4; have q0 : w12.cell? ⟨g, 0, none⟩ = some (.int .i64 1) := (blk_cell BK12.out 0).trans rfl; have q1 : w12.cell? ⟨g, 1, none⟩ = some (.int .i64 100) := (blk_cell BK12.out 1).trans rfl; have q2 : w12.cell? ⟨g, 2, none⟩ = some (.int .i64 200) := (blk_cell BK12.out 2).trans rfl; have q3 : w12.cell? ⟨g, 3, none⟩ = some (.slice A 2 c) := (blk_cell BK12.out 3).trans rfl; have q4 : w12.cell? ⟨g, 4, none⟩ = some (.slice (some ad) 4 d) := (blk_cell BK12.out 4).trans rfl; clear hb_) | (go_at_call 30; have ha_ : Below w12.heap.size w12 (w12.alloc (.cells #[.int .i64 0, .int .i64 2] 3)) := below_alloc (Below.refl _ _) _; have BK12a := Aside0.mk (blk_below BK12.out ha_); have HB12a := Aside0.mk (below_step HB12.out ha_); have HR12a := Aside0.mk (HR12.out.below ha_); have LW_12a := Aside0.mk (LW_12.out.below ha_); have LP_12a := Aside0.mk (LP_12.out.below ha_); have LM_12a := Aside0.mk (LM_12.out.below ha_); have LQ_12a := Aside0.mk (LQ_12.out.below ha_); have LG_12a := Aside0.mk (LG_12.out.below ha_); have LL_12a : Aside0 (IntsAt (w12.alloc (.cells #[.int .i64 0, .int .i64 2] 3)) (.slice (some ⟨w12.heap.size, 0, none⟩) 2 2) [0, 2]) := ⟨ints_lit w12 [0, 2] (by simp)⟩; clear ha_; (with_reducible refine (xs_bare HR12a.out LL_12a.out).mono ?_); rintro e w13 ⟨vb, rfl, hl_, hb_⟩; have BK13 := Aside0.mk (blk_below BK12a.out hb_); have HB13 := Aside0.mk (below_step HB12a.out hb_); have HR13 := Aside0.mk (HR12a.out.below hb_); have LW_13 := Aside0.mk (LW_12a.out.below hb_); have LP_13 := Aside0.mk (LP_12a.out.below hb_); have LM_13 := Aside0.mk (LM_12a.out.below hb_); have LQ_13 := Aside0.mk (LQ_12a.out.below hb_); have LG_13 := Aside0.mk (LG_12a.out.below hb_); have LB_13 := Aside0.mk hl_; clear hl_; clear q0 q1 q2 q3 q4; have q0 : w13.cell? ⟨g, 0, none⟩ = some (.int .i64 1) := (blk_cell BK13.out 0).trans rfl; have q1 : w13.cell? ⟨g, 1, none⟩ = some (.int .i64 100) := (blk_cell BK13.out 1).trans rfl; have q2 : w13.cell? ⟨g, 2, none⟩ = some (.int .i64 200) := (blk_cell BK13.out 2).trans rfl; have q3 : w13.cell? ⟨g, 3, none⟩ = some (.slice A 2 c) := (blk_cell BK13.out 3).trans rfl; have q4 : w13.cell? ⟨g, 4, none⟩ = some (.slice (some ad) 4 d) := (blk_cell BK13.out 4).trans rfl; clear hb_) | (go_at_call 58; (with_reducible refine (xs_spare HR13.out LP_13.out).mono ?_); rintro e w14 ⟨rfl, hb_⟩; have BK14 := Aside0.mk (blk_below BK13.out hb_); have HB14 := Aside0.mk (below_step HB13.out hb_); have HR14 := Aside0.mk (HR13.out.below hb_); have LW_14 := Aside0.mk (LW_13.out.below hb_); have LP_14 := Aside0.mk (LP_13.out.below hb_); have LM_14 := Aside0.mk (LM_13.out.below hb_); have LQ_14 := Aside0.mk (LQ_13.out.below hb_); have LG_14 := Aside0.mk (LG_13.out.below hb_); have LB_14 := Aside0.mk (LB_13.out.below hb_); clear q0 q1 q2 q3 q4; have q0 : w14.cell? ⟨g, 0, none⟩ = some (.int .i64 1) := (blk_cell BK14.out 0).trans rfl; have q1 : w14.cell? ⟨g, 1, none⟩ = some (.int .i64 100) := (blk_cell BK14.out 1).trans rfl; have q2 : w14.cell? ⟨g, 2, none⟩ = some (.int .i64 200) := (blk_cell BK14.out 2).trans rfl; have q3 : w14.cell? ⟨g, 3, none⟩ = some (.slice A 2 c) := (blk_cell BK14.out 3).trans rfl; have q4 : w14.cell? ⟨g, 4, none⟩ = some (.slice (some ad) 4 d) := (blk_cell BK14.out 4).trans rfl; clear hb_; obtain ⟨t0, t1, t2, t3, t4, t5⟩ := ex4_turn HR14.out; ) | (go_at_call 72; (with_reducible refine (xs_print (HT.out.below HB14.out)).mono ?_); rintro e w15 ⟨rfl, hb_⟩; have BK15 := Aside0.mk (blk_below BK14.out hb_); have HB15 := Aside0.mk (below_step HB14.out hb_); have HR15 := Aside0.mk (HR14.out.below hb_); have LW_15 := Aside0.mk (LW_14.out.below hb_); have LP_15 := Aside0.mk (LP_14.out.below hb_); have LM_15 := Aside0.mk (LM_14.out.below hb_); have LQ_15 := Aside0.mk (LQ_14.out.below hb_); have LG_15 := Aside0.mk (LG_14.out.below hb_); have LB_15 := Aside0.mk (LB_14.out.below hb_); clear q0 q1 q2 q3 q4; have q0 : w15.cell? ⟨g, 0, none⟩ = some (.int .i64 1) := (blk_cell BK15.out 0).trans rfl; have q1 : w15.cell? ⟨g, 1, none⟩ = some (.int .i64 100) := (blk_cell BK15.out 1).trans rfl; have q2 : w15.cell? ⟨g, 2, none⟩ = some (.int .i64 200) := (blk_cell BK15.out 2).trans rfl; have q3 : w15.cell? ⟨g, 3, none⟩ = some (.slice A 2 c) := (blk_cell BK15.out 3).trans rfl; have q4 : w15.cell? ⟨g, 4, none⟩ = some (.slice (some ad) 4 d) := (blk_cell BK15.out 4).trans rfl; clear hb_; clear t0 t1 t2 t3 t4 t5) | (go_at_call 25; have ha_ : Below w15.heap.size w15 (w15.alloc (.cells #[.int .i64 0, .int .i64 1, .int .i64 3] 3)) := below_alloc (Below.refl _ _) _; have BK15a := Aside0.mk (blk_below BK15.out ha_); have HB15a := Aside0.mk (below_step HB15.out ha_); have HR15a := Aside0.mk (HR15.out.below ha_); have LW_15a := Aside0.mk (LW_15.out.below ha_); have LP_15a := Aside0.mk (LP_15.out.below ha_); have LM_15a := Aside0.mk (LM_15.out.below ha_); have LQ_15a := Aside0.mk (LQ_15.out.below ha_); have LG_15a := Aside0.mk (LG_15.out.below ha_); have LB_15a := Aside0.mk (LB_15.out.below ha_); have LL_15a : Aside0 (IntsAt (w15.alloc (.cells #[.int .i64 0, .int .i64 1, .int .i64 3] 3)) (.slice (some ⟨w15.heap.size, 0, none⟩) 3 3) [0, 1, 3]) := ⟨ints_lit w15 [0, 1, 3] (by simp)⟩; clear ha_; (with_reducible refine (eqs_calls (b := true) LW_15a.out LL_15a.out (by decide)).mono ?_); rintro e w16 ⟨rfl, hb_⟩; have BK16 := Aside0.mk (blk_below BK15a.out hb_); have HB16 := Aside0.mk (below_step HB15a.out hb_); have HR16 := Aside0.mk (HR15a.out.below hb_); have LW_16 := Aside0.mk (LW_15a.out.below hb_); have LP_16 := Aside0.mk (LP_15a.out.below hb_); have LM_16 := Aside0.mk (LM_15a.out.below hb_); have LQ_16 := Aside0.mk (LQ_15a.out.below hb_); have LG_16 := Aside0.mk (LG_15a.out.below hb_); have LB_16 := Aside0.mk (LB_15a.out.below hb_); clear q0 q1 q2 q3 q4; have q0 : w16.cell? ⟨g, 0, none⟩ = some (.int .i64 1) := (blk_cell BK16.out 0).trans rfl; have q1 : w16.cell? ⟨g, 1, none⟩ = some (.int .i64 100) := (blk_cell BK16.out 1).trans rfl; have q2 : w16.cell? ⟨g, 2, none⟩ = some (.int .i64 200) := (blk_cell BK16.out 2).trans rfl; have q3 : w16.cell? ⟨g, 3, none⟩ = some (.slice A 2 c) := (blk_cell BK16.out 3).trans rfl; have q4 : w16.cell? ⟨g, 4, none⟩ = some (.slice (some ad) 4 d) := (blk_cell BK16.out 4).trans rfl; clear hb_) | (go_at_call 25; have ha_ : Below w16.heap.size w16 (w16.alloc (.cells #[.int .i64 0, .int .i64 1, .int .i64 2] 3)) := below_alloc (Below.refl _ _) _; have BK16a := Aside0.mk (blk_below BK16.out ha_); have HB16a := Aside0.mk (below_step HB16.out ha_); have HR16a := Aside0.mk (HR16.out.below ha_); have LW_16a := Aside0.mk (LW_16.out.below ha_); have LP_16a := Aside0.mk (LP_16.out.below ha_); have LM_16a := Aside0.mk (LM_16.out.below ha_); have LQ_16a := Aside0.mk (LQ_16.out.below ha_); have LG_16a := Aside0.mk (LG_16.out.below ha_); have LB_16a := Aside0.mk (LB_16.out.below ha_); have LL_16a : Aside0 (IntsAt (w16.alloc (.cells #[.int .i64 0, .int .i64 1, .int .i64 2] 3)) (.slice (some ⟨w16.heap.size, 0, none⟩) 3 3) [0, 1, 2]) := ⟨ints_lit w16 [0, 1, 2] (by simp)⟩; clear ha_; (with_reducible refine (eqs_calls (b := true) LP_16a.out LL_16a.out (by decide)).mono ?_); rintro e w17 ⟨rfl, hb_⟩; have BK17 := Aside0.mk (blk_below BK16a.out hb_); have HB17 := Aside0.mk (below_step HB16a.out hb_); have HR17 := Aside0.mk (HR16a.out.below hb_); have LW_17 := Aside0.mk (LW_16a.out.below hb_); have LP_17 := Aside0.mk (LP_16a.out.below hb_); have LM_17 := Aside0.mk (LM_16a.out.below hb_); have LQ_17 := Aside0.mk (LQ_16a.out.below hb_); have LG_17 := Aside0.mk (LG_16a.out.below hb_); have LB_17 := Aside0.mk (LB_16a.out.below hb_); clear q0 q1 q2 q3 q4; have q0 : w17.cell? ⟨g, 0, none⟩ = some (.int .i64 1) := (blk_cell BK17.out 0).trans rfl; have q1 : w17.cell? ⟨g, 1, none⟩ = some (.int .i64 100) := (blk_cell BK17.out 1).trans rfl; have q2 : w17.cell? ⟨g, 2, none⟩ = some (.int .i64 200) := (blk_cell BK17.out 2).trans rfl; have q3 : w17.cell? ⟨g, 3, none⟩ = some (.slice A 2 c) := (blk_cell BK17.out 3).trans rfl; have q4 : w17.cell? ⟨g, 4, none⟩ = some (.slice (some ad) 4 d) := (blk_cell BK17.out 4).trans rfl; clear hb_) | (go_at_call 25; have ha_ : Below w17.heap.size w17 (w17.alloc (.cells #[.int .i64 3] 3)) := below_alloc (Below.refl _ _) _; have BK17a := Aside0.mk (blk_below BK17.out ha_); have HB17a := Aside0.mk (below_step HB17.out ha_); have HR17a := Aside0.mk (HR17.out.below ha_); have LW_17a := Aside0.mk (LW_17.out.below ha_); have LP_17a := Aside0.mk (LP_17.out.below ha_); have LM_17a := Aside0.mk (LM_17.out.below ha_); have LQ_17a := Aside0.mk (LQ_17.out.below ha_); have LG_17a := Aside0.mk (LG_17.out.below ha_); have LB_17a := Aside0.mk (LB_17.out.below ha_); have LL_17a : Aside0 (IntsAt (w17.alloc (.cells #[.int .i64 3] 3)) (.slice (some ⟨w17.heap.size, 0, none⟩) 1 1) [3]) := ⟨ints_lit w17 [3] (by simp)⟩; clear ha_; (with_reducible refine (eqs_calls (b := true) LM_17a.out LL_17a.out (by decide)).mono ?_); rintro e w18 ⟨rfl, hb_⟩; have BK18 := Aside0.mk (blk_below BK17a.out hb_); have HB18 := Aside0.mk (below_step HB17a.out hb_); have HR18 := Aside0.mk (HR17a.out.below hb_); have LW_18 := Aside0.mk (LW_17a.out.below hb_); have LP_18 := Aside0.mk (LP_17a.out.below hb_); have LM_18 := Aside0.mk (LM_17a.out.below hb_); have LQ_18 := Aside0.mk (LQ_17a.out.below hb_); have LG_18 := Aside0.mk (LG_17a.out.below hb_); have LB_18 := Aside0.mk (LB_17a.out.below hb_); clear q0 q1 q2 q3 q4; have q0 : w18.cell? ⟨g, 0, none⟩ = some (.int .i64 1) := (blk_cell BK18.out 0).trans rfl; have q1 : w18.cell? ⟨g, 1, none⟩ = some (.int .i64 100) := (blk_cell BK18.out 1).trans rfl; have q2 : w18.cell? ⟨g, 2, none⟩ = some (.int .i64 200) := (blk_cell BK18.out 2).trans rfl; have q3 : w18.cell? ⟨g, 3, none⟩ = some (.slice A 2 c) := (blk_cell BK18.out 3).trans rfl; have q4 : w18.cell? ⟨g, 4, none⟩ = some (.slice (some ad) 4 d) := (blk_cell BK18.out 4).trans rfl; clear hb_) | (go_at_call 25; have ha_ : Below w18.heap.size w18 (w18.alloc (.cells #[.int .i64 4, .int .i64 7, .int .i64 9, .int .i64 9] 3)) := below_alloc (Below.refl _ _) _; have BK18a := Aside0.mk (blk_below BK18.out ha_); have HB18a := Aside0.mk (below_step HB18.out ha_); have HR18a := Aside0.mk (HR18.out.below ha_); have LW_18a := Aside0.mk (LW_18.out.below ha_); have LP_18a := Aside0.mk (LP_18.out.below ha_); have LM_18a := Aside0.mk (LM_18.out.below ha_); have LQ_18a := Aside0.mk (LQ_18.out.below ha_); have LG_18a := Aside0.mk (LG_18.out.below ha_); have LB_18a := Aside0.mk (LB_18.out.below ha_); have LL_18a : Aside0 (IntsAt (w18.alloc (.cells #[.int .i64 4, .int .i64 7, .int .i64 9, .int .i64 9] 3)) (.slice (some ⟨w18.heap.size, 0, none⟩) 4 4) [4, 7, 9, 9]) := ⟨ints_lit w18 [4, 7, 9, 9] (by simp)⟩; clear ha_; (with_reducible refine (eqs_calls (b := true) LQ_18a.out LL_18a.out (by decide)).mono ?_); rintro e w19 ⟨rfl, hb_⟩; have BK19 := Aside0.mk (blk_below BK18a.out hb_); have HB19 := Aside0.mk (below_step HB18a.out hb_); have HR19 := Aside0.mk (HR18a.out.below hb_); have LW_19 := Aside0.mk (LW_18a.out.below hb_); have LP_19 := Aside0.mk (LP_18a.out.below hb_); have LM_19 := Aside0.mk (LM_18a.out.below hb_); have LQ_19 := Aside0.mk (LQ_18a.out.below hb_); have LG_19 := Aside0.mk (LG_18a.out.below hb_); have LB_19 := Aside0.mk (LB_18a.out.below hb_); clear q0 q1 q2 q3 q4; have q0 : w19.cell? ⟨g, 0, none⟩ = some (.int .i64 1) := (blk_cell BK19.out 0).trans rfl; have q1 : w19.cell? ⟨g, 1, none⟩ = some (.int .i64 100) := (blk_cell BK19.out 1).trans rfl; have q2 : w19.cell? ⟨g, 2, none⟩ = some (.int .i64 200) := (blk_cell BK19.out 2).trans rfl; have q3 : w19.cell? ⟨g, 3, none⟩ = some (.slice A 2 c) := (blk_cell BK19.out 3).trans rfl; have q4 : w19.cell? ⟨g, 4, none⟩ = some (.slice (some ad) 4 d) := (blk_cell BK19.out 4).trans rfl; clear hb_) | (go_at_call 25; have ha_ : Below w19.heap.size w19 (w19.alloc (.cells #[.int .i64 0, .int .i64 1] 3)) := below_alloc (Below.refl _ _) _; have BK19a := Aside0.mk (blk_below BK19.out ha_); have HB19a := Aside0.mk (below_step HB19.out ha_); have HR19a := Aside0.mk (HR19.out.below ha_); have LW_19a := Aside0.mk (LW_19.out.below ha_); have LP_19a := Aside0.mk (LP_19.out.below ha_); have LM_19a := Aside0.mk (LM_19.out.below ha_); have LQ_19a := Aside0.mk (LQ_19.out.below ha_); have LG_19a := Aside0.mk (LG_19.out.below ha_); have LB_19a := Aside0.mk (LB_19.out.below ha_); have LL_19a : Aside0 (IntsAt (w19.alloc (.cells #[.int .i64 0, .int .i64 1] 3)) (.slice (some ⟨w19.heap.size, 0, none⟩) 2 2) [0, 1]) := ⟨ints_lit w19 [0, 1] (by simp)⟩; clear ha_; (with_reducible refine (eqs_calls (b := true) LG_19a.out LL_19a.out (by decide)).mono ?_); rintro e w20 ⟨rfl, hb_⟩; have BK20 := Aside0.mk (blk_below BK19a.out hb_); have HB20 := Aside0.mk (below_step HB19a.out hb_); have HR20 := Aside0.mk (HR19a.out.below hb_); have LW_20 := Aside0.mk (LW_19a.out.below hb_); have LP_20 := Aside0.mk (LP_19a.out.below hb_); have LM_20 := Aside0.mk (LM_19a.out.below hb_); have LQ_20 := Aside0.mk (LQ_19a.out.below hb_); have LG_20 := Aside0.mk (LG_19a.out.below hb_); have LB_20 := Aside0.mk (LB_19a.out.below hb_); clear q0 q1 q2 q3 q4; have q0 : w20.cell? ⟨g, 0, none⟩ = some (.int .i64 1) := (blk_cell BK20.out 0).trans rfl; have q1 : w20.cell? ⟨g, 1, none⟩ = some (.int .i64 100) := (blk_cell BK20.out 1).trans rfl; have q2 : w20.cell? ⟨g, 2, none⟩ = some (.int .i64 200) := (blk_cell BK20.out 2).trans rfl; have q3 : w20.cell? ⟨g, 3, none⟩ = some (.slice A 2 c) := (blk_cell BK20.out 3).trans rfl; have q4 : w20.cell? ⟨g, 4, none⟩ = some (.slice (some ad) 4 d) := (blk_cell BK20.out 4).trans rfl; clear hb_) | (go_at_call 33; have ha_ : Below w20.heap.size w20 (w20.alloc (.cells #[.int .i64 0, .int .i64 2] 3)) := below_alloc (Below.refl _ _) _; have BK20a := Aside0.mk (blk_below BK20.out ha_); have HB20a := Aside0.mk (below_step HB20.out ha_); have HR20a := Aside0.mk (HR20.out.below ha_); have LW_20a := Aside0.mk (LW_20.out.below ha_); have LP_20a := Aside0.mk (LP_20.out.below ha_); have LM_20a := Aside0.mk (LM_20.out.below ha_); have LQ_20a := Aside0.mk (LQ_20.out.below ha_); have LG_20a := Aside0.mk (LG_20.out.below ha_); have LB_20a := Aside0.mk (LB_20.out.below ha_); have LL_20a : Aside0 (IntsAt (w20.alloc (.cells #[.int .i64 0, .int .i64 2] 3)) (.slice (some ⟨w20.heap.size, 0, none⟩) 2 2) [0, 2]) := ⟨ints_lit w20 [0, 2] (by simp)⟩; clear ha_; (with_reducible refine (xs_checkBare HR20a.out LL_20a.out LB_20a.out).mono ?_); rintro e w21 ⟨rfl, hb_⟩; have BK21 := Aside0.mk (blk_below BK20a.out hb_); have HB21 := Aside0.mk (below_step HB20a.out hb_); have HR21 := Aside0.mk (HR20a.out.below hb_); have LW_21 := Aside0.mk (LW_20a.out.below hb_); have LP_21 := Aside0.mk (LP_20a.out.below hb_); have LM_21 := Aside0.mk (LM_20a.out.below hb_); have LQ_21 := Aside0.mk (LQ_20a.out.below hb_); have LG_21 := Aside0.mk (LG_20a.out.below hb_); have LB_21 := Aside0.mk (LB_20a.out.below hb_); clear q0 q1 q2 q3 q4; have q0 : w21.cell? ⟨g, 0, none⟩ = some (.int .i64 1) := (blk_cell BK21.out 0).trans rfl; have q1 : w21.cell? ⟨g, 1, none⟩ = some (.int .i64 100) := (blk_cell BK21.out 1).trans rfl; have q2 : w21.cell? ⟨g, 2, none⟩ = some (.int .i64 200) := (blk_cell BK21.out 2).trans rfl; have q3 : w21.cell? ⟨g, 3, none⟩ = some (.slice A 2 c) := (blk_cell BK21.out 3).trans rfl; have q4 : w21.cell? ⟨g, 4, none⟩ = some (.slice (some ad) 4 d) := (blk_cell BK21.out 4).trans rfl; clear hb_) | (go_at_call 33; have ha_ : Below w21.heap.size w21 (w21.alloc (.cells #[.int .i64 0, .int .i64 2] 3)) := below_alloc (Below.refl _ _) _; have BK21a := Aside0.mk (blk_below BK21.out ha_); have HB21a := Aside0.mk (below_step HB21.out ha_); have HR21a := Aside0.mk (HR21.out.below ha_); have LW_21a := Aside0.mk (LW_21.out.below ha_); have LP_21a := Aside0.mk (LP_21.out.below ha_); have LM_21a := Aside0.mk (LM_21.out.below ha_); have LQ_21a := Aside0.mk (LQ_21.out.below ha_); have LG_21a := Aside0.mk (LG_21.out.below ha_); have LB_21a := Aside0.mk (LB_21.out.below ha_); have LL_21a : Aside0 (IntsAt (w21.alloc (.cells #[.int .i64 0, .int .i64 2] 3)) (.slice (some ⟨w21.heap.size, 0, none⟩) 2 2) [0, 2]) := ⟨ints_lit w21 [0, 2] (by simp)⟩; clear ha_; have ha_ : Below (w21.alloc (.cells #[.int .i64 0, .int .i64 2] 3)).heap.size (w21.alloc (.cells #[.int .i64 0, .int .i64 2] 3)) ((w21.alloc (.cells #[.int .i64 0, .int .i64 2] 3)).alloc (.cells #[.int .i64 149, .int .i64 150] 3)) := below_alloc (Below.refl _ _) _; have BK21ab := Aside0.mk (blk_below BK21a.out ha_); have HB21ab := Aside0.mk (below_step HB21a.out ha_); have HR21ab := Aside0.mk (HR21a.out.below ha_); have LW_21ab := Aside0.mk (LW_21a.out.below ha_); have LP_21ab := Aside0.mk (LP_21a.out.below ha_); have LM_21ab := Aside0.mk (LM_21a.out.below ha_); have LQ_21ab := Aside0.mk (LQ_21a.out.below ha_); have LG_21ab := Aside0.mk (LG_21a.out.below ha_); have LB_21ab := Aside0.mk (LB_21a.out.below ha_); have LL_21ab := Aside0.mk (LL_21a.out.below ha_); have LM2_21ab : Aside0 (IntsAt ((w21.alloc (.cells #[.int .i64 0, .int .i64 2] 3)).alloc (.cells #[.int .i64 149, .int .i64 150] 3)) (.slice (some ⟨w21.heap.size + 1, 0, none⟩) 2 2) [149, 150]) := ⟨by have h := ints_lit (w21.alloc (.cells #[.int .i64 0, .int .i64 2] 3)) [149, 150] (by simp); rw [alloc_sz] at h; exact h⟩; clear ha_; (with_reducible refine (xs_checkBare2 HR21ab.out LL_21ab.out LM2_21ab.out).mono ?_); rintro e w22 ⟨rfl, hb_⟩; have BK22 := Aside0.mk (blk_below BK21ab.out hb_); have HB22 := Aside0.mk (below_step HB21ab.out hb_); have HR22 := Aside0.mk (HR21ab.out.below hb_); have LW_22 := Aside0.mk (LW_21ab.out.below hb_); have LP_22 := Aside0.mk (LP_21ab.out.below hb_); have LM_22 := Aside0.mk (LM_21ab.out.below hb_); have LQ_22 := Aside0.mk (LQ_21ab.out.below hb_); have LG_22 := Aside0.mk (LG_21ab.out.below hb_); have LB_22 := Aside0.mk (LB_21ab.out.below hb_); clear q0 q1 q2 q3 q4; have q0 : w22.cell? ⟨g, 0, none⟩ = some (.int .i64 1) := (blk_cell BK22.out 0).trans rfl; have q1 : w22.cell? ⟨g, 1, none⟩ = some (.int .i64 100) := (blk_cell BK22.out 1).trans rfl; have q2 : w22.cell? ⟨g, 2, none⟩ = some (.int .i64 200) := (blk_cell BK22.out 2).trans rfl; have q3 : w22.cell? ⟨g, 3, none⟩ = some (.slice A 2 c) := (blk_cell BK22.out 3).trans rfl; have q4 : w22.cell? ⟨g, 4, none⟩ = some (.slice (some ad) 4 d) := (blk_cell BK22.out 4).trans rfl; clear hb_) | (go_at_call 36; have ha_ : Below w22.heap.size w22 (w22.alloc (.cells #[.int .i64 0, .int .i64 2] 3)) := below_alloc (Below.refl _ _) _; have BK22a := Aside0.mk (blk_below BK22.out ha_); have HB22a := Aside0.mk (below_step HB22.out ha_); have HR22a := Aside0.mk (HR22.out.below ha_); have LW_22a := Aside0.mk (LW_22.out.below ha_); have LP_22a := Aside0.mk (LP_22.out.below ha_); have LM_22a := Aside0.mk (LM_22.out.below ha_); have LQ_22a := Aside0.mk (LQ_22.out.below ha_); have LG_22a := Aside0.mk (LG_22.out.below ha_); have LB_22a := Aside0.mk (LB_22.out.below ha_); have LL_22a : Aside0 (IntsAt (w22.alloc (.cells #[.int .i64 0, .int .i64 2] 3)) (.slice (some ⟨w22.heap.size, 0, none⟩) 2 2) [0, 2]) := ⟨ints_lit w22 [0, 2] (by simp)⟩; clear ha_; (with_reducible refine (xs_checkPlan HR22a.out LL_22a.out).mono ?_); rintro e w23 ⟨rfl, hb_⟩; have BK23 := Aside0.mk (blk_below BK22a.out hb_); have HB23 := Aside0.mk (below_step HB22a.out hb_); have HR23 := Aside0.mk (HR22a.out.below hb_); have LW_23 := Aside0.mk (LW_22a.out.below hb_); have LP_23 := Aside0.mk (LP_22a.out.below hb_); have LM_23 := Aside0.mk (LM_22a.out.below hb_); have LQ_23 := Aside0.mk (LQ_22a.out.below hb_); have LG_23 := Aside0.mk (LG_22a.out.below hb_); have LB_23 := Aside0.mk (LB_22a.out.below hb_); clear q0 q1 q2 q3 q4; have q0 : w23.cell? ⟨g, 0, none⟩ = some (.int .i64 1) := (blk_cell BK23.out 0).trans rfl; have q1 : w23.cell? ⟨g, 1, none⟩ = some (.int .i64 100) := (blk_cell BK23.out 1).trans rfl; have q2 : w23.cell? ⟨g, 2, none⟩ = some (.int .i64 200) := (blk_cell BK23.out 2).trans rfl; have q3 : w23.cell? ⟨g, 3, none⟩ = some (.slice A 2 c) := (blk_cell BK23.out 3).trans rfl; have q4 : w23.cell? ⟨g, 4, none⟩ = some (.slice (some ad) 4 d) := (blk_cell BK23.out 4).trans rfl; clear hb_) | (go_at_call 76; (with_reducible refine (ex2_calls _).mono ?_); rintro e w24 ⟨ve2, rfl, he_, hb_⟩; have HE24 := Aside0.mk he_; have BK24 := Aside0.mk (blk_below BK23.out hb_); have HB24 := Aside0.mk (below_step HB23.out hb_); have HR24 := Aside0.mk (HR23.out.below hb_); have LW_24 := Aside0.mk (LW_23.out.below hb_); have LP_24 := Aside0.mk (LP_23.out.below hb_); have LM_24 := Aside0.mk (LM_23.out.below hb_); have LQ_24 := Aside0.mk (LQ_23.out.below hb_); have LG_24 := Aside0.mk (LG_23.out.below hb_); have LB_24 := Aside0.mk (LB_23.out.below hb_); clear q0 q1 q2 q3 q4; have q0 : w24.cell? ⟨g, 0, none⟩ = some (.int .i64 1) := (blk_cell BK24.out 0).trans rfl; have q1 : w24.cell? ⟨g, 1, none⟩ = some (.int .i64 100) := (blk_cell BK24.out 1).trans rfl; have q2 : w24.cell? ⟨g, 2, none⟩ = some (.int .i64 200) := (blk_cell BK24.out 2).trans rfl; have q3 : w24.cell? ⟨g, 3, none⟩ = some (.slice A 2 c) := (blk_cell BK24.out 3).trans rfl; have q4 : w24.cell? ⟨g, 4, none⟩ = some (.slice (some ad) 4 d) := (blk_cell BK24.out 4).trans rfl; clear hb_ he_) | (go_at_call 26; have ha_ : Below w24.heap.size w24 (w24.alloc (.cells #[.int .i64 0] 3)) := below_alloc (Below.refl _ _) _; have BK24a := Aside0.mk (blk_below BK24.out ha_); have HB24a := Aside0.mk (below_step HB24.out ha_); have HR24a := Aside0.mk (HR24.out.below ha_); have LW_24a := Aside0.mk (LW_24.out.below ha_); have LP_24a := Aside0.mk (LP_24.out.below ha_); have LM_24a := Aside0.mk (LM_24.out.below ha_); have LQ_24a := Aside0.mk (LQ_24.out.below ha_); have LG_24a := Aside0.mk (LG_24.out.below ha_); have LB_24a := Aside0.mk (LB_24.out.below ha_); have LL_24a : Aside0 (IntsAt (w24.alloc (.cells #[.int .i64 0] 3)) (.slice (some ⟨w24.heap.size, 0, none⟩) 1 1) [0]) := ⟨ints_lit w24 [0] (by simp)⟩; clear ha_; (with_reducible refine (xs_checkGap (HE24.out.below (below_alloc (Below.refl _ _) _)) LL_24a.out).mono ?_); rintro e w25 ⟨rfl, hb_⟩; have BK25 := Aside0.mk (blk_below BK24a.out hb_); have HB25 := Aside0.mk (below_step HB24a.out hb_); have HR25 := Aside0.mk (HR24a.out.below hb_); have LW_25 := Aside0.mk (LW_24a.out.below hb_); have LP_25 := Aside0.mk (LP_24a.out.below hb_); have LM_25 := Aside0.mk (LM_24a.out.below hb_); have LQ_25 := Aside0.mk (LQ_24a.out.below hb_); have LG_25 := Aside0.mk (LG_24a.out.below hb_); have LB_25 := Aside0.mk (LB_24a.out.below hb_); clear q0 q1 q2 q3 q4; have q0 : w25.cell? ⟨g, 0, none⟩ = some (.int .i64 1) := (blk_cell BK25.out 0).trans rfl; have q1 : w25.cell? ⟨g, 1, none⟩ = some (.int .i64 100) := (blk_cell BK25.out 1).trans rfl; have q2 : w25.cell? ⟨g, 2, none⟩ = some (.int .i64 200) := (blk_cell BK25.out 2).trans rfl; have q3 : w25.cell? ⟨g, 3, none⟩ = some (.slice A 2 c) := (blk_cell BK25.out 3).trans rfl; have q4 : w25.cell? ⟨g, 4, none⟩ = some (.slice (some ad) 4 d) := (blk_cell BK25.out 4).trans rfl; clear hb_) | (go_at_call 28; (with_reducible refine (xs_checkPrices HR25.out LQ_25.out).mono ?_); rintro e w26 ⟨rfl, hb_⟩; have BK26 := Aside0.mk (blk_below BK25.out hb_); have HB26 := Aside0.mk (below_step HB25.out hb_); have HR26 := Aside0.mk (HR25.out.below hb_); have LW_26 := Aside0.mk (LW_25.out.below hb_); have LP_26 := Aside0.mk (LP_25.out.below hb_); have LM_26 := Aside0.mk (LM_25.out.below hb_); have LQ_26 := Aside0.mk (LQ_25.out.below hb_); have LG_26 := Aside0.mk (LG_25.out.below hb_); have LB_26 := Aside0.mk (LB_25.out.below hb_); clear q0 q1 q2 q3 q4; have q0 : w26.cell? ⟨g, 0, none⟩ = some (.int .i64 1) := (blk_cell BK26.out 0).trans rfl; have q1 : w26.cell? ⟨g, 1, none⟩ = some (.int .i64 100) := (blk_cell BK26.out 1).trans rfl; have q2 : w26.cell? ⟨g, 2, none⟩ = some (.int .i64 200) := (blk_cell BK26.out 2).trans rfl; have q3 : w26.cell? ⟨g, 3, none⟩ = some (.slice A 2 c) := (blk_cell BK26.out 3).trans rfl; have q4 : w26.cell? ⟨g, 4, none⟩ = some (.slice (some ad) 4 d) := (blk_cell BK26.out 4).trans rfl; clear hb_) | (go_at_call 28; (with_reducible refine (xs_checkPrices2 HR26.out LQ_26.out).mono ?_); rintro e w27 ⟨rfl, hb_⟩; have BK27 := Aside0.mk (blk_below BK26.out hb_); have HB27 := Aside0.mk (below_step HB26.out hb_); have HR27 := Aside0.mk (HR26.out.below hb_); have LW_27 := Aside0.mk (LW_26.out.below hb_); have LP_27 := Aside0.mk (LP_26.out.below hb_); have LM_27 := Aside0.mk (LM_26.out.below hb_); have LQ_27 := Aside0.mk (LQ_26.out.below hb_); have LG_27 := Aside0.mk (LG_26.out.below hb_); have LB_27 := Aside0.mk (LB_26.out.below hb_); clear q0 q1 q2 q3 q4; have q0 : w27.cell? ⟨g, 0, none⟩ = some (.int .i64 1) := (blk_cell BK27.out 0).trans rfl; have q1 : w27.cell? ⟨g, 1, none⟩ = some (.int .i64 100) := (blk_cell BK27.out 1).trans rfl; have q2 : w27.cell? ⟨g, 2, none⟩ = some (.int .i64 200) := (blk_cell BK27.out 2).trans rfl; have q3 : w27.cell? ⟨g, 3, none⟩ = some (.slice A 2 c) := (blk_cell BK27.out 3).trans rfl; have q4 : w27.cell? ⟨g, 4, none⟩ = some (.slice (some ad) 4 d) := (blk_cell BK27.out 4).trans rfl; clear hb_) | (go_at_call 48; (with_reducible refine (xs_check _).mono ?_); rintro e w28 ⟨rfl, hb_⟩; have HB28 := Aside0.mk (below_step HB27.out hb_); clear hb_))
  go_ret
  exact ⟨rfl, HB28.out⟩
end Go.Proofs.YtflolfbkpjgjaaaGreatDoor
end
section
namespace Go.Proofs.YtflolfbkpjgjaaaGreatDoor
open Go.RowKit Go.Proofs.YtflolfbkpjgjaaaGreatDoorW.PrintWords Go.Proofs.YtflolfbkpjgjaaaGreatDoorW.PrintMore
theorem right_f (t : Trn) : ref_Right.f t.gate t.clock t.frm t.clock2 t.til t.cost = some (isTurnB t) := by
  unfold ref_Right.f
  by_cases h : isTurnB t = true
  · rw [h]
    have h2 := (isTurnB_iff t).1 h
    rw [if_pos (by omega), if_pos (by omega), if_pos (by omega), if_pos (by omega), if_pos (by omega), if_pos (by omega), if_pos (by omega), if_pos (by omega), if_pos (by omega), if_pos (by omega), if_pos (by omega), decide_eq_true (by omega)]
  · rw [Bool.not_eq_true] at h
    have h2 : ¬ ((0 ≤ t.gate ∧ t.gate ≤ 7) ∧ (0 ≤ t.clock ∧ t.clock ≤ 7) ∧ (0 ≤ t.clock2 ∧ t.clock2 ≤ 7) ∧ (0 ≤ t.frm ∧ t.frm ≤ 16777216) ∧ (0 ≤ t.til ∧ t.til ≤ 16777216) ∧ (0 ≤ t.cost ∧ t.cost ≤ 10000)) := by
      rw [← isTurnB_iff, h]
      simp
    rw [h]
    repeat' split
    all_goals first | rfl | (congr 1; exact decide_eq_false (by omega))
theorem right_calls (t : Trn) (w : World) : Calls Tryz.prog 120 #[.agg (trnC t)] w fun e w' => e = .returned (.bool (isTurnB t)) ∧ Below w.heap.size w w' :=
  ref_Right.calls _ _ _ _ _ _ _ w (right_f t)
def cloB (m : List (List Int)) (n : Nat) (a b c : Nat) : Bool := !decide ((m.getD a []).getD c 0 > (m.getD a []).getD b 0 + (m.getD b []).getD c 0)
def clo2 (m : List (List Int)) (n a b c0 : Nat) : Bool := (List.range' c0 (n - c0)).all (cloB m n a b)
def clo1 (m : List (List Int)) (n a b0 : Nat) : Bool := (List.range' b0 (n - b0)).all fun b => clo2 m n a b 0
def clo0 (m : List (List Int)) (n a0 : Nat) : Bool := (List.range' a0 (n - a0)).all fun a => clo1 m n a 0
theorem range'_cons {s n : Nat} (h : s < n) : List.range' s (n - s) = s :: List.range' (s + 1) (n - (s + 1)) := by
  rw [show n - s = (n - (s + 1)) + 1 by omega, List.range'_succ]
theorem range'_end {n : Nat} : List.range' n (n - n) = [] := by simp
structure MOk (m : List (List Int)) : Prop where
  n8 : m.length ≤ 8
  row : ∀ a, a < m.length → (m.getD a []).length = m.length
  bnd : ∀ a b, a < m.length → b < m.length → -1048576 ≤ (m.getD a []).getD b 0 ∧ (m.getD a []).getD b 0 ≤ 1048576
theorem rd_L1_nat (m : List (List Int)) (a : Nat) : rd_L1 m (a : Int) = m.getD a [] := rfl
theorem rd_nat (l : List Int) (a : Nat) : rd l (a : Int) = l.getD a 0 := rfl
theorem w64i {n : Int} (h : -9223372036854775808 ≤ n ∧ n ≤ 9223372036854775807) : wrap64 n = n := by unfold wrap64; omega
theorem clo_l2 {m : List (List Int)} (M : MOk m) {a b : Nat} (ha : a < m.length) (hb : b < m.length) {x : Bool} (hn : ∃ k, ref_closed.l1 k m (m.length : Int) (a : Int) ((b + 1 : Nat) : Int) = some x) :
    ∀ (d c : Nat), c + d = m.length → ∃ k, ref_closed.l2 k m (m.length : Int) (a : Int) (b : Int) (c : Int) = some (clo2 m m.length a b c && x)
  | 0, c, h => by
    obtain ⟨k, hk⟩ := hn
    refine ⟨k + 1, ?_⟩
    have hcn : c = m.length := by omega
    subst hcn
    unfold ref_closed.l2
    rw [if_neg (by omega), w64i (by have := M.n8; omega), show ((b : Int) + 1) = ((b + 1 : Nat) : Int) by omega, hk]
    unfold clo2
    rw [range'_end]
    rfl
  | d + 1, c, h => by
    have hc : c < m.length := by omega
    obtain ⟨k, hk⟩ := clo_l2 M ha hb hn d (c + 1) (by omega)
    refine ⟨k + 1, ?_⟩
    unfold ref_closed.l2
    have b1 := M.bnd a b ha hb
    have b2 := M.bnd b c hb hc
    have r1 := M.row a ha
    have r2 := M.row b hb
    rw [rd_L1_nat, rd_L1_nat, r1, r2, rd_nat, rd_nat, rd_nat]
    rw [if_pos (by omega), if_pos (by omega), if_pos (by omega), if_pos (by omega), if_pos (by omega), if_pos (by omega), if_pos (by omega), if_pos (by omega), if_pos (by omega), w64i (by omega)]
    unfold clo2
    rw [range'_cons hc, List.all_cons]
    by_cases hgt : (m.getD a []).getD c 0 > (m.getD a []).getD b 0 + (m.getD b []).getD c 0
    · rw [if_pos hgt]
      unfold cloB
      rw [decide_eq_true hgt]
      rfl
    · rw [if_neg hgt, w64i (by have := M.n8; omega), show ((c : Int) + 1) = ((c + 1 : Nat) : Int) by omega, hk]
      unfold cloB
      rw [decide_eq_false hgt]
      rfl
theorem clo_l1 {m : List (List Int)} (M : MOk m) {a : Nat} (ha : a < m.length) {x : Bool} (hn : ∃ k, ref_closed.l0 k m (m.length : Int) ((a + 1 : Nat) : Int) = some x) :
    ∀ (d b : Nat), b + d = m.length → ∃ k, ref_closed.l1 k m (m.length : Int) (a : Int) (b : Int) = some (clo1 m m.length a b && x)
  | 0, b, h => by
    obtain ⟨k, hk⟩ := hn
    refine ⟨k + 1, ?_⟩
    have hbn : b = m.length := by omega
    subst hbn
    unfold ref_closed.l1
    rw [if_neg (by omega), w64i (by have := M.n8; omega), show ((a : Int) + 1) = ((a + 1 : Nat) : Int) by omega, hk]
    unfold clo1
    rw [range'_end]
    rfl
  | d + 1, b, h => by
    have hb : b < m.length := by omega
    obtain ⟨k, hk⟩ := clo_l2 M ha hb (clo_l1 M ha hn d (b + 1) (by omega)) m.length 0 (by omega)
    refine ⟨k + 1, ?_⟩
    unfold ref_closed.l1
    rw [if_pos (by omega)]
    refine hk.trans ?_
    unfold clo1
    rw [range'_cons hb, List.all_cons, Bool.and_assoc]
theorem clo_l0 {m : List (List Int)} (M : MOk m) : ∀ (d a : Nat), a + d = m.length → ∃ k, ref_closed.l0 k m (m.length : Int) (a : Int) = some (clo0 m m.length a)
  | 0, a, h => by
    refine ⟨1, ?_⟩
    have han : a = m.length := by omega
    subst han
    unfold ref_closed.l0
    rw [if_neg (by omega)]
    unfold clo0
    rw [range'_end]
    rfl
  | d + 1, a, h => by
    have ha : a < m.length := by omega
    obtain ⟨k, hk⟩ := clo_l1 M ha (clo_l0 M d (a + 1) (by omega)) m.length 0 (by omega)
    refine ⟨k + 1, ?_⟩
    unfold ref_closed.l0
    rw [if_pos (by omega)]
    refine hk.trans ?_
    unfold clo0
    rw [range'_cons ha, List.all_cons]
def cloR (m : List (List Int)) : Bool := clo0 m m.length 0
theorem cloR_iff (m : List (List Int)) : cloR m = true ↔ ∀ a b c, a < m.length → b < m.length → c < m.length → (m.getD a []).getD c 0 ≤ (m.getD a []).getD b 0 + (m.getD b []).getD c 0 := by
  unfold cloR clo0 clo1 clo2
  simp only [List.all_eq_true, List.mem_range'_1, Nat.sub_zero, Nat.zero_le, Nat.zero_add, true_and, cloB, Bool.not_eq_true', decide_eq_false_iff_not]
  exact ⟨fun h a b c ha hb hc => by have := h a ha b hb c hc; omega, fun h a ha b hb c hc => by have := h a b c ha hb hc; omega⟩
theorem closedR_calls (A : Option Addr) (c : Nat) (m : List (List Int)) (w : World) (M : MOk m) (hA : CII w A m.length m) (hc : m.length ≤ c) :
    Calls Tryz.prog 121 #[.slice A m.length c] w fun e w' => e = .returned (.bool (cloR m)) ∧ Below w.heap.size w w' := by
  obtain ⟨k, hk⟩ := clo_l0 M m.length 0 (by omega)
  refine (ref_closed.calls k A c m (cloR m) w hA hc hk).mono ?_
  rintro e w' ⟨rfl, n, rfl⟩
  exact ⟨rfl, pw_below_drewN (Below.refl _ _) _⟩
end Go.Proofs.YtflolfbkpjgjaaaGreatDoor
end
section
namespace Go.Proofs.YtflolfbkpjgjaaaGreatDoor
open Go.RowKit Go.Proofs.YtflolfbkpjgjaaaGreatDoorW.PrintWords
open Go.Proofs.YtflolfbkpjgjaaaGreatDoorW.PrintMore
def o34_17_0 : Oper := { dst := some 105, op := Op.fieldAddr 25 (Operand.tmp 1) 4, type := 0, pos := "ref.go:41", after := #[], guard := none }
def o34_17_1 : Oper := { dst := some 106, op := Op.load 23 (Operand.tmp 105), type := 23, pos := "ref.go:41", after := #[{ on := 0, ground := Ground.data }], guard := none }
def o34_17_2 : Oper := { dst := some 107, op := Op.move (Operand.tmp 6), type := 3, pos := "ref.go:41", after := #[], guard := none }
def o34_17_3 : Oper := { dst := some 108, op := Op.indexAddr 23 (Operand.tmp 106) (Operand.tmp 107), type := 0, pos := "ref.go:41", after := #[{ on := 1, ground := Ground.data }, { on := 2, ground := Ground.data }], guard := none }
def o34_17_4 : Oper := { dst := some 109, op := Op.fieldAddr 45 (Operand.tmp 108) 0, type := 0, pos := "ref.go:41", after := #[{ on := 3, ground := Ground.data }], guard := none }
def o34_17_5 : Oper := { dst := some 110, op := Op.load 3 (Operand.tmp 109), type := 3, pos := "ref.go:41", after := #[{ on := 4, ground := Ground.data }], guard := none }
def o34_17_6 : Oper := { dst := some 111, op := Op.fieldAddr 25 (Operand.tmp 1) 0, type := 0, pos := "ref.go:41", after := #[], guard := none }
def o34_17_7 : Oper := { dst := some 112, op := Op.load 3 (Operand.tmp 111), type := 3, pos := "ref.go:41", after := #[{ on := 6, ground := Ground.data }], guard := none }
def o34_17_8 : Oper := { dst := some 113, op := Op.binOp BinOp.geq 3 (Operand.tmp 110) (Operand.tmp 112) 3, type := 4, pos := "ref.go:41", after := #[{ on := 5, ground := Ground.data }, { on := 7, ground := Ground.data }], guard := none }
def o34_17_9 : Oper := { dst := some 114, op := Op.move (Operand.tmp 113), type := 4, pos := "ref.go:41", after := #[{ on := 8, ground := Ground.data }], guard := none }
def o34_17_10 : Oper := { dst := some 115, op := Op.fieldAddr 25 (Operand.tmp 1) 4, type := 0, pos := "ref.go:41", after := #[{ on := 9, ground := Ground.guard }], guard := some (9, false) }
def o34_17_11 : Oper := { dst := some 116, op := Op.load 23 (Operand.tmp 115), type := 23, pos := "ref.go:41", after := #[{ on := 10, ground := Ground.data }, { on := 9, ground := Ground.guard }], guard := some (9, false) }
def o34_17_12 : Oper := { dst := some 117, op := Op.move (Operand.tmp 6), type := 3, pos := "ref.go:41", after := #[{ on := 9, ground := Ground.guard }], guard := some (9, false) }
def o34_17_13 : Oper := { dst := some 118, op := Op.indexAddr 23 (Operand.tmp 116) (Operand.tmp 117), type := 0, pos := "ref.go:41", after := #[{ on := 11, ground := Ground.data }, { on := 12, ground := Ground.data }, { on := 9, ground := Ground.guard }], guard := some (9, false) }
def o34_17_14 : Oper := { dst := some 119, op := Op.fieldAddr 45 (Operand.tmp 118) 1, type := 0, pos := "ref.go:41", after := #[{ on := 13, ground := Ground.data }, { on := 9, ground := Ground.guard }], guard := some (9, false) }
def o34_17_15 : Oper := { dst := some 120, op := Op.load 3 (Operand.tmp 119), type := 3, pos := "ref.go:41", after := #[{ on := 14, ground := Ground.data }, { on := 9, ground := Ground.guard }], guard := some (9, false) }
def o34_17_16 : Oper := { dst := some 121, op := Op.move (Operand.tmp 3), type := 3, pos := "ref.go:41", after := #[{ on := 9, ground := Ground.guard }], guard := some (9, false) }
def o34_17_17 : Oper := { dst := some 122, op := Op.binOp BinOp.geq 3 (Operand.tmp 120) (Operand.tmp 121) 3, type := 4, pos := "ref.go:41", after := #[{ on := 15, ground := Ground.data }, { on := 16, ground := Ground.data }, { on := 9, ground := Ground.guard }], guard := some (9, false) }
def o34_17_18 : Oper := { dst := some 123, op := Op.pick (Operand.tmp 114) (Operand.const (Value.bool true)) (Operand.tmp 122), type := 4, pos := "ref.go:41", after := #[{ on := 9, ground := Ground.data }, { on := 17, ground := Ground.data }], guard := none }
def o34_17_19 : Oper := { dst := some 124, op := Op.move (Operand.tmp 123), type := 4, pos := "ref.go:41", after := #[{ on := 18, ground := Ground.data }, { on := 9, ground := Ground.chain }], guard := none }
def o34_17_20 : Oper := { dst := some 125, op := Op.fieldAddr 25 (Operand.tmp 1) 4, type := 0, pos := "ref.go:41", after := #[{ on := 19, ground := Ground.guard }], guard := some (19, false) }
def o34_17_21 : Oper := { dst := some 126, op := Op.load 23 (Operand.tmp 125), type := 23, pos := "ref.go:41", after := #[{ on := 20, ground := Ground.data }, { on := 19, ground := Ground.guard }], guard := some (19, false) }
def o34_17_22 : Oper := { dst := some 127, op := Op.move (Operand.tmp 6), type := 3, pos := "ref.go:41", after := #[{ on := 19, ground := Ground.guard }], guard := some (19, false) }
def o34_17_23 : Oper := { dst := some 128, op := Op.indexAddr 23 (Operand.tmp 126) (Operand.tmp 127), type := 0, pos := "ref.go:41", after := #[{ on := 21, ground := Ground.data }, { on := 22, ground := Ground.data }, { on := 19, ground := Ground.guard }], guard := some (19, false) }
def o34_17_24 : Oper := { dst := some 129, op := Op.fieldAddr 45 (Operand.tmp 128) 3, type := 0, pos := "ref.go:41", after := #[{ on := 23, ground := Ground.data }, { on := 19, ground := Ground.guard }], guard := some (19, false) }
def o34_17_25 : Oper := { dst := some 130, op := Op.load 3 (Operand.tmp 129), type := 3, pos := "ref.go:41", after := #[{ on := 24, ground := Ground.data }, { on := 19, ground := Ground.guard }], guard := some (19, false) }
def o34_17_26 : Oper := { dst := some 131, op := Op.move (Operand.tmp 3), type := 3, pos := "ref.go:41", after := #[{ on := 19, ground := Ground.guard }], guard := some (19, false) }
def o34_17_27 : Oper := { dst := some 132, op := Op.binOp BinOp.geq 3 (Operand.tmp 130) (Operand.tmp 131) 3, type := 4, pos := "ref.go:41", after := #[{ on := 25, ground := Ground.data }, { on := 26, ground := Ground.data }, { on := 19, ground := Ground.guard }], guard := some (19, false) }
def o34_17_28 : Oper := { dst := some 133, op := Op.pick (Operand.tmp 124) (Operand.const (Value.bool true)) (Operand.tmp 132), type := 4, pos := "ref.go:41", after := #[{ on := 19, ground := Ground.data }, { on := 27, ground := Ground.data }], guard := none }
def o34_17_29 : Oper := { dst := some 134, op := Op.move (Operand.tmp 133), type := 4, pos := "ref.go:41", after := #[{ on := 28, ground := Ground.data }, { on := 19, ground := Ground.chain }], guard := none }
def o34_17_30 : Oper := { dst := some 135, op := Op.fieldAddr 25 (Operand.tmp 1) 4, type := 0, pos := "ref.go:41", after := #[{ on := 29, ground := Ground.guard }], guard := some (29, false) }
def o34_17_31 : Oper := { dst := some 136, op := Op.load 23 (Operand.tmp 135), type := 23, pos := "ref.go:41", after := #[{ on := 30, ground := Ground.data }, { on := 29, ground := Ground.guard }], guard := some (29, false) }
def o34_17_32 : Oper := { dst := some 137, op := Op.move (Operand.tmp 6), type := 3, pos := "ref.go:41", after := #[{ on := 29, ground := Ground.guard }], guard := some (29, false) }
def o34_17_33 : Oper := { dst := some 138, op := Op.indexAddr 23 (Operand.tmp 136) (Operand.tmp 137), type := 0, pos := "ref.go:41", after := #[{ on := 31, ground := Ground.data }, { on := 32, ground := Ground.data }, { on := 29, ground := Ground.guard }], guard := some (29, false) }
def o34_17_34 : Oper := { dst := some 139, op := Op.load 45 (Operand.tmp 138), type := 45, pos := "ref.go:41", after := #[{ on := 33, ground := Ground.data }, { on := 29, ground := Ground.guard }], guard := some (29, false) }
def o34_17_35 : Oper := { dst := some 140, op := Op.call { callee := Callee.value (Operand.func 120), args := #[Operand.tmp 139], argTypes := #[45] }, type := 4, pos := "ref.go:41", after := #[{ on := 34, ground := Ground.data }, { on := 29, ground := Ground.chain }, { on := 29, ground := Ground.guard }], guard := some (29, false) }
def o34_17_36 : Oper := { dst := some 141, op := Op.unOp UnOp.not 4 (Operand.tmp 140), type := 4, pos := "ref.go:41", after := #[{ on := 35, ground := Ground.data }, { on := 29, ground := Ground.guard }], guard := some (29, false) }
def o34_17_37 : Oper := { dst := some 142, op := Op.pick (Operand.tmp 134) (Operand.const (Value.bool true)) (Operand.tmp 141), type := 4, pos := "ref.go:41", after := #[{ on := 29, ground := Ground.data }, { on := 36, ground := Ground.data }], guard := none }
theorem notValid {r : Ros} (h : ¬ Valid r) : checkB r = false := by
  rw [← Bool.not_eq_true, checkB_iff]
  exact h
def TurnR (r : Ros) (t : Trn) : Prop := t.gate < r.gates ∧ t.clock < r.ahead.length ∧ t.clock2 < r.ahead.length ∧ isTurnB t = true
theorem Valid.turnR {r : Ros} (V : Valid r) {k : Nat} (h : k < r.turns.length) : TurnR r (r.turns.getD k Trn.z) := by
  have h1 := V.turn k (by omega) (by omega)
  have h2 := V.gates
  have h3 := V.clocks
  have e : tn r (k : Int) = r.turns.getD k Trn.z := rfl
  rw [e] at h1
  exact ⟨by omega, by omega, by omega, (isTurnB_iff _).2 (by omega)⟩
def RowR (r : Ros) (a : Nat) : Prop := (r.ahead.getD a []).length = r.ahead.length ∧ (r.ahead.getD a []).getD a 0 = 0 ∧ ∀ b, b < r.ahead.length → -1048576 ≤ (r.ahead.getD a []).getD b 0 ∧ (r.ahead.getD a []).getD b 0 ≤ 1048576
theorem Valid.rowR {r : Ros} (V : Valid r) {a : Nat} (h : a < r.ahead.length) : RowR r a :=
  ⟨V.row a (by omega) (by omega), V.zero a (by omega) (by omega), fun b hb => V.bnd a b (by omega) (by omega) (by omega) (by omega)⟩
theorem valid_of {r : Ros} (h0 : (1 ≤ r.gates ∧ r.gates ≤ 8) ∧ 0 ≤ r.frm ∧ r.frm < r.til ∧ r.til ≤ 16777216 ∧ (1 ≤ r.ahead.length ∧ r.ahead.length ≤ 8) ∧ r.turns.length ≤ 24)
    (h1 : ∀ a, a < r.ahead.length → RowR r a) (h2 : ∀ i, i < r.turns.length → TurnR r (r.turns.getD i Trn.z)) : cloR r.ahead = checkB r := by
  have hv : cloR r.ahead = true ↔ Valid r := by
    rw [cloR_iff]
    constructor
    · intro h
      refine ⟨h0.1, h0.2.1, h0.2.2.1, h0.2.2.2.1, h0.2.2.2.2.1, h0.2.2.2.2.2, fun a a0 a1 => (h1 a.toNat (by omega)).1, fun a a0 a1 => (h1 a.toNat (by omega)).2.1, fun a b a0 a1 b0 b1 => (h1 a.toNat (by omega)).2.2 b.toNat (by omega),
        fun a b c a0 a1 b0 b1 c0 c1 => h a.toNat b.toNat c.toNat (by omega) (by omega) (by omega), fun i i0 i1 => ?_⟩
      have := h2 i.toNat (by omega)
      unfold TurnR at this
      rw [isTurnB_iff] at this
      unfold tn
      omega
    · exact fun V a b c ha hb hc => V.tri a b c (by omega) (by omega) (by omega) (by omega) (by omega) (by omega)
  cases hc : checkB r
  · rw [← Bool.not_eq_true, hv, ← checkB_iff, hc]
    simp
  · exact hv.2 ((checkB_iff r).1 hc)
set_option maxHeartbeats 8000000 in
set_option maxRecDepth 100000 in
theorem valid_calls (v : Value) (r : Ros) (w : World) (hv : RosAt w v r) : Calls Tryz.prog 34 #[v] w fun e w' => e = .returned (.bool (checkB r)) ∧ Below w.heap.size w w' := by
  obtain ⟨A, c, T, d, rfl, h1, h2, h3, h4⟩ := hv
  have hm := h4.2.1
  have hm3 := h3.2.1
  have H3 := Aside0.mk h3
  have H4 := Aside0.mk h4
  clear h3 h4
  have hno : ∀ W, Below w.heap.size w W → ¬ Valid r → (Ending.returned (.bool false) = Ending.returned (.bool (checkB r)) ∧ Below w.heap.size w W) := fun W hW hn => ⟨by rw [notValid hn], hW⟩
  by_cases c0 : r.gates < 1
  · have d0 := decide_eq_true c0
    clear H3 H4
    go_enter Tryz.func34, Tryz.ntmps34
    go_wp2_with ((with_reducible refine gate_dst (N := 1) rfl ?_); refine box_event ?hg (N := 1) ?hd (cs := rosC r A c T d) (t := 25) ?hr ?_; (case hd => rfl); (case hg => rfl); (case hr => first | (go_simp; done) | (go_simp; rfl)); intro g hg w3 hbox_ hb_; have BK := Aside0.mk hbox_; have Hg := Aside0.mk hg; have HB := Aside0.mk hb_; obtain ⟨q0, q1, q2, q3, q4⟩ := rosC_cells hbox_; clear hbox_ hb_ hg)
    go_ret
    exact hno _ HB.out (fun V => by have := V.gates; have := V.frm; have := V.frmtil; have := V.til; have := V.clocks; have := V.turns; omega)
  have d0 := decide_eq_false c0
  by_cases c1 : (8 : Int) < r.gates
  · have d1 := decide_eq_true c1
    clear H3 H4
    go_enter Tryz.func34, Tryz.ntmps34
    go_wp2_with ((with_reducible refine gate_dst (N := 1) rfl ?_); refine box_event ?hg (N := 1) ?hd (cs := rosC r A c T d) (t := 25) ?hr ?_; (case hd => rfl); (case hg => rfl); (case hr => first | (go_simp; done) | (go_simp; rfl)); intro g hg w3 hbox_ hb_; have BK := Aside0.mk hbox_; have Hg := Aside0.mk hg; have HB := Aside0.mk hb_; obtain ⟨q0, q1, q2, q3, q4⟩ := rosC_cells hbox_; clear hbox_ hb_ hg)
    go_ret
    exact hno _ HB.out (fun V => by have := V.gates; have := V.frm; have := V.frmtil; have := V.til; have := V.clocks; have := V.turns; omega)
  have d1 := decide_eq_false c1
  by_cases c2 : r.frm < 0
  · have d2 := decide_eq_true c2
    clear H3 H4
    go_enter Tryz.func34, Tryz.ntmps34
    go_wp2_with ((with_reducible refine gate_dst (N := 1) rfl ?_); refine box_event ?hg (N := 1) ?hd (cs := rosC r A c T d) (t := 25) ?hr ?_; (case hd => rfl); (case hg => rfl); (case hr => first | (go_simp; done) | (go_simp; rfl)); intro g hg w3 hbox_ hb_; have BK := Aside0.mk hbox_; have Hg := Aside0.mk hg; have HB := Aside0.mk hb_; obtain ⟨q0, q1, q2, q3, q4⟩ := rosC_cells hbox_; clear hbox_ hb_ hg)
    go_ret
    exact hno _ HB.out (fun V => by have := V.gates; have := V.frm; have := V.frmtil; have := V.til; have := V.clocks; have := V.turns; omega)
  have d2 := decide_eq_false c2
  by_cases c3 : r.til ≤ r.frm
  · have d3 := decide_eq_true c3
    clear H3 H4
    go_enter Tryz.func34, Tryz.ntmps34
    go_wp2_with ((with_reducible refine gate_dst (N := 1) rfl ?_); refine box_event ?hg (N := 1) ?hd (cs := rosC r A c T d) (t := 25) ?hr ?_; (case hd => rfl); (case hg => rfl); (case hr => first | (go_simp; done) | (go_simp; rfl)); intro g hg w3 hbox_ hb_; have BK := Aside0.mk hbox_; have Hg := Aside0.mk hg; have HB := Aside0.mk hb_; obtain ⟨q0, q1, q2, q3, q4⟩ := rosC_cells hbox_; clear hbox_ hb_ hg)
    go_ret
    exact hno _ HB.out (fun V => by have := V.gates; have := V.frm; have := V.frmtil; have := V.til; have := V.clocks; have := V.turns; omega)
  have d3 := decide_eq_false c3
  by_cases c4 : (16777216 : Int) < r.til
  · have d4 := decide_eq_true c4
    clear H3 H4
    go_enter Tryz.func34, Tryz.ntmps34
    go_wp2_with ((with_reducible refine gate_dst (N := 1) rfl ?_); refine box_event ?hg (N := 1) ?hd (cs := rosC r A c T d) (t := 25) ?hr ?_; (case hd => rfl); (case hg => rfl); (case hr => first | (go_simp; done) | (go_simp; rfl)); intro g hg w3 hbox_ hb_; have BK := Aside0.mk hbox_; have Hg := Aside0.mk hg; have HB := Aside0.mk hb_; obtain ⟨q0, q1, q2, q3, q4⟩ := rosC_cells hbox_; clear hbox_ hb_ hg)
    go_ret
    exact hno _ HB.out (fun V => by have := V.gates; have := V.frm; have := V.frmtil; have := V.til; have := V.clocks; have := V.turns; omega)
  have d4 := decide_eq_false c4
  by_cases c5 : (r.ahead.length : Int) < 1
  · have d5 := decide_eq_true c5
    clear H3 H4
    go_enter Tryz.func34, Tryz.ntmps34
    go_wp2_with ((with_reducible refine gate_dst (N := 1) rfl ?_); refine box_event ?hg (N := 1) ?hd (cs := rosC r A c T d) (t := 25) ?hr ?_; (case hd => rfl); (case hg => rfl); (case hr => first | (go_simp; done) | (go_simp; rfl)); intro g hg w3 hbox_ hb_; have BK := Aside0.mk hbox_; have Hg := Aside0.mk hg; have HB := Aside0.mk hb_; obtain ⟨q0, q1, q2, q3, q4⟩ := rosC_cells hbox_; clear hbox_ hb_ hg)
    go_ret
    exact hno _ HB.out (fun V => by have := V.gates; have := V.frm; have := V.frmtil; have := V.til; have := V.clocks; have := V.turns; omega)
  have d5 := decide_eq_false c5
  by_cases c6 : (8 : Int) < (r.ahead.length : Int)
  · have d6 := decide_eq_true c6
    clear H3 H4
    go_enter Tryz.func34, Tryz.ntmps34
    go_wp2_with ((with_reducible refine gate_dst (N := 1) rfl ?_); refine box_event ?hg (N := 1) ?hd (cs := rosC r A c T d) (t := 25) ?hr ?_; (case hd => rfl); (case hg => rfl); (case hr => first | (go_simp; done) | (go_simp; rfl)); intro g hg w3 hbox_ hb_; have BK := Aside0.mk hbox_; have Hg := Aside0.mk hg; have HB := Aside0.mk hb_; obtain ⟨q0, q1, q2, q3, q4⟩ := rosC_cells hbox_; clear hbox_ hb_ hg)
    go_ret
    exact hno _ HB.out (fun V => by have := V.gates; have := V.frm; have := V.frmtil; have := V.til; have := V.clocks; have := V.turns; omega)
  have d6 := decide_eq_false c6
  by_cases c7 : (24 : Int) < (r.turns.length : Int)
  · have d7 := decide_eq_true c7
    clear H3 H4
    go_enter Tryz.func34, Tryz.ntmps34
    go_wp2_with ((with_reducible refine gate_dst (N := 1) rfl ?_); refine box_event ?hg (N := 1) ?hd (cs := rosC r A c T d) (t := 25) ?hr ?_; (case hd => rfl); (case hg => rfl); (case hr => first | (go_simp; done) | (go_simp; rfl)); intro g hg w3 hbox_ hb_; have BK := Aside0.mk hbox_; have Hg := Aside0.mk hg; have HB := Aside0.mk hb_; obtain ⟨q0, q1, q2, q3, q4⟩ := rosC_cells hbox_; clear hbox_ hb_ hg)
    go_ret
    exact hno _ HB.out (fun V => by have := V.gates; have := V.frm; have := V.frmtil; have := V.til; have := V.clocks; have := V.turns; omega)
  have d7 := decide_eq_false c7
  have H0 : Aside0 ((1 ≤ r.gates ∧ r.gates ≤ 8) ∧ 0 ≤ r.frm ∧ r.frm < r.til ∧ r.til ≤ 16777216 ∧ (1 ≤ r.ahead.length ∧ r.ahead.length ≤ 8) ∧ r.turns.length ≤ 24) := ⟨by omega⟩
  have hn8 := H0.out.2.2.2.2.1.2
  have hn1 := H0.out.2.2.2.2.1.1
  have hn24 := H0.out.2.2.2.2.2
  clear c0 c1 c2 c3 c4 c5 c6 c7
  go_enter Tryz.func34, Tryz.ntmps34
  go_wp2_with (first | ((with_reducible refine gate_dst (N := 1) rfl ?_); refine box_event ?hg (N := 1) ?hd (cs := rosC r A c T d) (t := 25) ?hr ?_; (case hd => rfl); (case hg => rfl); (case hr => first | (go_simp; done) | (go_simp; rfl)); intro g hg w3 hbox_ hb_; have BK := Aside0.mk hbox_; have Hg := Aside0.mk hg; have HB := Aside0.mk hb_; obtain ⟨q0, q1, q2, q3, q4⟩ := rosC_cells hbox_; clear hbox_ hb_ hg))
  clear q0 q1 q2 q3 q4 d0 d1 d2 d3 d4 d5 d6 d7
  go_loopw [4] (fun i wr => ∃ k : Nat, k ≤ r.ahead.length ∧ i = .int .i64 k ∧ Aside0 (∀ a, a < k → RowR r a) ∧ Aside0 (wr.heap[g]? = some (.cells (rosC r A c T d) 25 (0, 0))) ∧ Aside0 (Below w.heap.size w wr)) (fun i _ => r.ahead.length - (intOf i).toNat)
  case atStart => exact ⟨0, Nat.zero_le _, rfl, ⟨fun a ha => absurd ha (Nat.not_lt_zero _)⟩, BK, HB⟩
  case round =>
    clear BK HB
    obtain ⟨k, hk, rfl, HO, BK, HB⟩ := hrel
    obtain ⟨q0, q1, q2, q3, q4⟩ := rosC_cells BK.out
    by_cases hlt : k < r.ahead.length
    · obtain ⟨ad, A0, c0, hA, g1, g2, g3⟩ := CII_at H3.out k (by omega) (by omega)
      cases hA
      rw [show ((k : Int)).toNat = k from rfl] at g1 g2 g3
      have g1' := pw_cell_below HB.out g1
      have HX := Aside0.mk g3
      have HNO := Aside0.mk (fun W (hW : Below w.heap.size w W) (hn : ¬ RowR r k) => hno W hW (fun V => hn (V.rowR hlt)))
      have HO' := Aside0.mk (fun (h : RowR r k) => (fun i (hi : i < k + 1) => (by
        by_cases he : i = k
        · rw [he]; exact h
        · exact HO.out i (by omega)) : ∀ i, i < k + 1 → RowR r i))
      unfold RowR at HO' HNO
      clear HO g3
      generalize r.ahead.getD k [] = row at *
      by_cases hrl : row.length = r.ahead.length
      · rw [hrl] at g1' g2 HX g1
        have G1 := Aside0.mk g1
        clear g1
        have HL := Aside0.mk hrl
        have hne : (((r.ahead.length : Int)) != (r.ahead.length : Int)) = false := by simp
        obtain ⟨ad', hA', g4⟩ := CI_at HX.out k (by omega) (by omega)
        cases hA'
        rw [show ((k : Int)).toNat = k from rfl] at g4
        have g4' := pw_cell_below HB.out g4
        clear hrl g4
        cases e1 : (row.getD k 0 != 0)
        · generalize hdd : row.getD k 0 = dd at *
          have HZ : Aside0 (dd = 0) := ⟨by simpa using e1⟩
          go_wp2
          have HDD := Aside0.mk hdd
          clear e1 g4' hdd q0 q1 q2 q3 q4
          obtain ⟨wo, rfl⟩ : ∃ wo : World, wo = wr := ⟨_, rfl⟩
          go_loopw [5] (fun i wr => ∃ j : Nat, j ≤ r.ahead.length ∧ i = .int .i64 j ∧ Aside0 (∀ b, b < j → -1048576 ≤ row.getD b 0 ∧ row.getD b 0 ≤ 1048576) ∧ Aside0 (wr.heap[g]? = some (.cells (rosC r (some ad) c T d) 25 (0, 0))) ∧ Aside0 (Below w.heap.size w wr)) (fun i _ => r.ahead.length - (intOf i).toNat)
          case atStart => exact ⟨0, Nat.zero_le _, rfl, ⟨fun a ha => absurd ha (Nat.not_lt_zero _)⟩, BK, HB⟩
          case round =>
            clear BK HB g1'
            obtain ⟨j, hj, rfl, HOj, BK, HB⟩ := hrel
            obtain ⟨q0, q1, q2, q3, q4⟩ := rosC_cells BK.out
            by_cases hlt1 : j < r.ahead.length
            · obtain ⟨ad2, hA2, g5⟩ := CI_at HX.out j (by omega) (by omega)
              cases hA2
              rw [show ((j : Int)).toNat = j from rfl] at g5
              have g5' := pw_cell_below HB.out g5
              have g1' := pw_cell_below HB.out G1.out
              have HS := Aside0.mk (fun (h : -1048576 ≤ row.getD j 0 ∧ row.getD j 0 ≤ 1048576) => (fun b (hb : b < j + 1) => (by
                by_cases he : b = j
                · rw [he]; exact h
                · exact HOj.out b (by omega)) : ∀ b, b < j + 1 → -1048576 ≤ row.getD b 0 ∧ row.getD b 0 ≤ 1048576))
              have HN2 := Aside0.mk (fun W (hW : Below w.heap.size w W) (hn : ¬ (-1048576 ≤ row.getD j 0 ∧ row.getD j 0 ≤ 1048576)) => HNO.out W hW (fun h => hn (h.2.2 j hlt1)))
              clear g5 HOj HNO HO'
              generalize row.getD j 0 = x at *
              by_cases l1 : x < -1048576
              · have l1' := decide_eq_true l1
                go_wp2
                go_ret
                exact HN2.out _ HB.out (by omega)
              · have l1' := decide_eq_false l1
                by_cases l2 : (1048576 : Int) < x
                · have l2' := decide_eq_true l2
                  go_wp2
                  go_ret
                  exact HN2.out _ HB.out (by omega)
                · have l2' := decide_eq_false l2
                  have HQ := Aside0.mk (HS.out (by omega))
                  clear HN2 HS
                  go_wp2
                  go_roundw
                  case rel => exact ⟨j + 1, by omega, by go_num, HQ, BK, HB⟩
                  case measure => simp [intOf]; omega
            · have e : j = r.ahead.length := by omega
              have HQ := Aside0.mk (HO'.out ⟨HL.out, HZ.out, fun b hb => HOj.out b (by omega)⟩)
              clear HO' HNO HOj G1
              go_wp2
              go_roundw
              case rel => exact ⟨k + 1, by omega, by go_num, HQ, BK, HB⟩
              case measure => simp [intOf]; omega
        · have e1' := e1
          generalize row.getD k 0 = dd at *
          go_wp2
          go_ret
          exact HNO.out _ HB.out (fun h => by rw [h.2.1] at e1'; simp at e1')
      · have hne : (((row.length : Int)) != (r.ahead.length : Int)) = true := by simp; omega
        go_wp2
        go_ret
        exact HNO.out _ HB.out (fun h => hrl h.1)
    · have e : k = r.ahead.length := by omega
      subst e
      have HRW := HO
      clear HO hlt hk
      go_wp2
      clear q0 q1 q2 q3 q4
      obtain ⟨wo, rfl⟩ : ∃ wo : World, wo = wr := ⟨_, rfl⟩
      go_loopw [6] (fun i wr => ∃ k : Nat, k ≤ r.turns.length ∧ i = .int .i64 k ∧ Aside0 (∀ a, a < k → TurnR r (r.turns.getD a Trn.z)) ∧ Aside0 (wr.heap[g]? = some (.cells (rosC r A c T d) 25 (0, 0))) ∧ Aside0 (Below w.heap.size w wr)) (fun i _ => r.turns.length - (intOf i).toNat)
      case atStart => exact ⟨0, Nat.zero_le _, rfl, ⟨fun a ha => absurd ha (Nat.not_lt_zero _)⟩, BK, HB⟩
      case round =>
        clear BK HB
        obtain ⟨k, hk, rfl, HO, BK, HB⟩ := hrel
        obtain ⟨q0, q1, q2, q3, q4⟩ := rosC_cells BK.out
        by_cases hlt : k < r.turns.length
        · obtain ⟨ad, hA, g0, g1, g2, g3, g4, g5⟩ := CT_at H4.out k (by omega) (by omega)
          cases hA
          rw [show ((k : Int)).toNat = k from rfl] at g0 g1 g2 g3 g4 g5
          have hright := fun W => right_calls (r.turns.getD k Trn.z) W
          have HO' := Aside0.mk (fun (h : TurnR r (r.turns.getD k Trn.z)) => (fun i (hi : i < k + 1) => (by
            by_cases he : i = k
            · rw [he]; exact h
            · exact HO.out i (by omega)) : ∀ i, i < k + 1 → TurnR r (r.turns.getD i Trn.z)))
          have HNO := Aside0.mk (fun W (hW : Below w.heap.size w W) (hn : ¬ TurnR r (r.turns.getD k Trn.z)) => hno W hW (fun V => hn (V.turnR hlt)))
          clear HO
          generalize htt : r.turns.getD k Trn.z = t at *
          clear htt
          unfold TurnR at HO' HNO
          obtain ⟨tg, tc, tf, td, tt, tk_⟩ := t
          change ∀ W, Calls _ 120 #[.agg #[.int .i64 tg, .int .i64 tc, .int .i64 tf, .int .i64 td, .int .i64 tt, .int .i64 tk_]] _ _ at hright
          dsimp only at HO' HNO g0 g1 g2 g3 g4 g5
          have HSW : Aside0 (∀ W, Below wr.heap.size wr W → (fun w' => w'.cell? ⟨g, 0, none⟩ = some (.int .i64 r.gates) ∧ w'.cell? ⟨g, 4, none⟩ = some (.slice (some ad) r.turns.length d) ∧ w'.cell? (ad.add (k * 6)) = some (.int .i64 tg) ∧ w'.cell? ⟨(ad.add (k * 6)).block, (ad.add (k * 6)).off + 1, none⟩ = some (.int .i64 tc) ∧ w'.cell? ⟨(ad.add (k * 6)).block, (ad.add (k * 6)).off + 2, none⟩ = some (.int .i64 tf) ∧ w'.cell? ⟨(ad.add (k * 6)).block, (ad.add (k * 6)).off + 3, none⟩ = some (.int .i64 td) ∧ w'.cell? ⟨(ad.add (k * 6)).block, (ad.add (k * 6)).off + 4, none⟩ = some (.int .i64 tt) ∧ w'.cell? ⟨(ad.add (k * 6)).block, (ad.add (k * 6)).off + 5, none⟩ = some (.int .i64 tk_)) W) := ⟨fun W h => by
            have h' := below_step HB.out h
            have hq := rosC_cells (blk_below BK.out h)
            exact ⟨hq.1, hq.2.2.2.2, pw_cell_below h' g0, pw_cell_below h' g1, pw_cell_below h' g2, pw_cell_below h' g3, pw_cell_below h' g4, pw_cell_below h' g5⟩⟩
          generalize hrt : isTurnB ⟨tg, tc, tf, td, tt, tk_⟩ = rb at *
          clear hrt g0 g1 g2 g3 g4 g5
          have i0 : (0 : Int) ≤ (k : Int) := by omega
          have i1 : (k : Int) < (r.turns.length : Int) := by omega
          generalize e1 : decide (r.gates ≤ tg) = m1 at *
          generalize e2 : decide ((r.ahead.length : Int) ≤ tc) = m2 at *
          generalize e3 : decide ((r.ahead.length : Int) ≤ td) = m3 at *
          go_wp2
          clear q0 q1 q2 q3 q4
          refine wp_region_held_drew (S := (fun w' => w'.cell? ⟨g, 0, none⟩ = some (.int .i64 r.gates) ∧ w'.cell? ⟨g, 4, none⟩ = some (.slice (some ad) r.turns.length d) ∧ w'.cell? (ad.add (k * 6)) = some (.int .i64 tg) ∧ w'.cell? ⟨(ad.add (k * 6)).block, (ad.add (k * 6)).off + 1, none⟩ = some (.int .i64 tc) ∧ w'.cell? ⟨(ad.add (k * 6)).block, (ad.add (k * 6)).off + 2, none⟩ = some (.int .i64 tf) ∧ w'.cell? ⟨(ad.add (k * 6)).block, (ad.add (k * 6)).off + 3, none⟩ = some (.int .i64 td) ∧ w'.cell? ⟨(ad.add (k * 6)).block, (ad.add (k * 6)).off + 4, none⟩ = some (.int .i64 tt) ∧ w'.cell? ⟨(ad.add (k * 6)).block, (ad.add (k * 6)).off + 5, none⟩ = some (.int .i64 tk_))) (by kernel_rfl) ?_ (fun hH0 => ?_)
          · exact HSW.out _ (below_drew (Below.refl _ _))
          refine tk 0 (oi := o34_17_0) (v := ?_) rfl (by kernel_rfl) (fun _ _ _ h => h) (by rfl) ?_ hH0 ?_
          rotate_left
          · (intro w hSw; (try dsimp only at hSw); unfold o34_17_0; go_simp <;> (with_reducible rfl))
          simp only [Act.put, o34_17_0, List.setIfInBounds_toArray, List.set_cons_zero, List.set_cons_succ]
          refine tk 1 (oi := o34_17_1) (v := ?_) rfl (by kernel_rfl) (fun _ _ _ h => h) (by rfl) ?_ hH0 ?_
          rotate_left
          · (intro w hSw; (try dsimp only at hSw); unfold o34_17_1; go_simp <;> (with_reducible rfl))
          simp only [Act.put, o34_17_1, List.setIfInBounds_toArray, List.set_cons_zero, List.set_cons_succ]
          refine tk 2 (oi := o34_17_2) (v := ?_) rfl (by kernel_rfl) (fun _ _ _ h => h) (by rfl) ?_ hH0 ?_
          rotate_left
          · (intro w hSw; (try dsimp only at hSw); unfold o34_17_2; go_simp <;> (with_reducible rfl))
          simp only [Act.put, o34_17_2, List.setIfInBounds_toArray, List.set_cons_zero, List.set_cons_succ]
          refine tk 3 (oi := o34_17_3) (v := ?_) rfl (by kernel_rfl) (fun _ _ _ h => h) (by rfl) ?_ hH0 ?_
          rotate_left
          · (intro w hSw; (try dsimp only at hSw); unfold o34_17_3; go_simp <;> (with_reducible rfl))
          simp only [Act.put, o34_17_3, List.setIfInBounds_toArray, List.set_cons_zero, List.set_cons_succ]
          refine tk 4 (oi := o34_17_4) (v := ?_) rfl (by kernel_rfl) (fun _ _ _ h => h) (by rfl) ?_ hH0 ?_
          rotate_left
          · (intro w hSw; (try dsimp only at hSw); unfold o34_17_4; go_simp <;> (with_reducible rfl))
          simp only [Act.put, o34_17_4, List.setIfInBounds_toArray, List.set_cons_zero, List.set_cons_succ]
          refine tk 5 (oi := o34_17_5) (v := ?_) rfl (by kernel_rfl) (fun _ _ _ h => h) (by rfl) ?_ hH0 ?_
          rotate_left
          · (intro w hSw; (try dsimp only at hSw); unfold o34_17_5; go_simp <;> (with_reducible rfl))
          simp only [Act.put, o34_17_5, List.setIfInBounds_toArray, List.set_cons_zero, List.set_cons_succ]
          refine tk 6 (oi := o34_17_6) (v := ?_) rfl (by kernel_rfl) (fun _ _ _ h => h) (by rfl) ?_ hH0 ?_
          rotate_left
          · (intro w hSw; (try dsimp only at hSw); unfold o34_17_6; go_simp <;> (with_reducible rfl))
          simp only [Act.put, o34_17_6, List.setIfInBounds_toArray, List.set_cons_zero, List.set_cons_succ]
          refine tk 7 (oi := o34_17_7) (v := ?_) rfl (by kernel_rfl) (fun _ _ _ h => h) (by rfl) ?_ hH0 ?_
          rotate_left
          · (intro w hSw; (try dsimp only at hSw); unfold o34_17_7; go_simp <;> (with_reducible rfl))
          simp only [Act.put, o34_17_7, List.setIfInBounds_toArray, List.set_cons_zero, List.set_cons_succ]
          refine tk 8 (oi := o34_17_8) (v := ?_) rfl (by kernel_rfl) (fun _ _ _ h => h) (by rfl) ?_ hH0 ?_
          rotate_left
          · (intro w hSw; (try dsimp only at hSw); unfold o34_17_8; go_simp <;> (with_reducible rfl))
          simp only [Act.put, o34_17_8, List.setIfInBounds_toArray, List.set_cons_zero, List.set_cons_succ]
          refine tk 9 (oi := o34_17_9) (v := ?_) rfl (by kernel_rfl) (fun _ _ _ h => h) (by rfl) ?_ hH0 ?_
          rotate_left
          · (intro w hSw; (try dsimp only at hSw); unfold o34_17_9; go_simp <;> (with_reducible rfl))
          simp only [Act.put, o34_17_9, List.setIfInBounds_toArray, List.set_cons_zero, List.set_cons_succ]
          cases m1
          · refine tk 10 (oi := o34_17_10) (v := ?_) rfl (by kernel_rfl) (fun _ _ _ h => h) (by rfl) ?_ hH0 ?_
            rotate_left
            · (intro w hSw; (try dsimp only at hSw); unfold o34_17_10; go_simp <;> (with_reducible rfl))
            simp only [Act.put, o34_17_10, List.setIfInBounds_toArray, List.set_cons_zero, List.set_cons_succ]
            refine tk 11 (oi := o34_17_11) (v := ?_) rfl (by kernel_rfl) (fun _ _ _ h => h) (by rfl) ?_ hH0 ?_
            rotate_left
            · (intro w hSw; (try dsimp only at hSw); unfold o34_17_11; go_simp <;> (with_reducible rfl))
            simp only [Act.put, o34_17_11, List.setIfInBounds_toArray, List.set_cons_zero, List.set_cons_succ]
            refine tk 12 (oi := o34_17_12) (v := ?_) rfl (by kernel_rfl) (fun _ _ _ h => h) (by rfl) ?_ hH0 ?_
            rotate_left
            · (intro w hSw; (try dsimp only at hSw); unfold o34_17_12; go_simp <;> (with_reducible rfl))
            simp only [Act.put, o34_17_12, List.setIfInBounds_toArray, List.set_cons_zero, List.set_cons_succ]
            refine tk 13 (oi := o34_17_13) (v := ?_) rfl (by kernel_rfl) (fun _ _ _ h => h) (by rfl) ?_ hH0 ?_
            rotate_left
            · (intro w hSw; (try dsimp only at hSw); unfold o34_17_13; go_simp <;> (with_reducible rfl))
            simp only [Act.put, o34_17_13, List.setIfInBounds_toArray, List.set_cons_zero, List.set_cons_succ]
            refine tk 14 (oi := o34_17_14) (v := ?_) rfl (by kernel_rfl) (fun _ _ _ h => h) (by rfl) ?_ hH0 ?_
            rotate_left
            · (intro w hSw; (try dsimp only at hSw); unfold o34_17_14; go_simp <;> (with_reducible rfl))
            simp only [Act.put, o34_17_14, List.setIfInBounds_toArray, List.set_cons_zero, List.set_cons_succ]
            refine tk 15 (oi := o34_17_15) (v := ?_) rfl (by kernel_rfl) (fun _ _ _ h => h) (by rfl) ?_ hH0 ?_
            rotate_left
            · (intro w hSw; (try dsimp only at hSw); unfold o34_17_15; go_simp <;> (with_reducible rfl))
            simp only [Act.put, o34_17_15, List.setIfInBounds_toArray, List.set_cons_zero, List.set_cons_succ]
            refine tk 16 (oi := o34_17_16) (v := ?_) rfl (by kernel_rfl) (fun _ _ _ h => h) (by rfl) ?_ hH0 ?_
            rotate_left
            · (intro w hSw; (try dsimp only at hSw); unfold o34_17_16; go_simp <;> (with_reducible rfl))
            simp only [Act.put, o34_17_16, List.setIfInBounds_toArray, List.set_cons_zero, List.set_cons_succ]
            refine tk 17 (oi := o34_17_17) (v := ?_) rfl (by kernel_rfl) (fun _ _ _ h => h) (by rfl) ?_ hH0 ?_
            rotate_left
            · (intro w hSw; (try dsimp only at hSw); unfold o34_17_17; go_simp <;> (with_reducible rfl))
            simp only [Act.put, o34_17_17, List.setIfInBounds_toArray, List.set_cons_zero, List.set_cons_succ]
            refine tk 18 (oi := o34_17_18) (v := ?_) rfl (by kernel_rfl) (fun _ _ _ h => h) (by rfl) ?_ hH0 ?_
            rotate_left
            · (intro w hSw; (try dsimp only at hSw); unfold o34_17_18; go_simp <;> (with_reducible rfl))
            simp only [Act.put, o34_17_18, List.setIfInBounds_toArray, List.set_cons_zero, List.set_cons_succ]
            refine tk 19 (oi := o34_17_19) (v := ?_) rfl (by kernel_rfl) (fun _ _ _ h => h) (by rfl) ?_ hH0 ?_
            rotate_left
            · (intro w hSw; (try dsimp only at hSw); unfold o34_17_19; go_simp <;> (with_reducible rfl))
            simp only [Act.put, o34_17_19, List.setIfInBounds_toArray, List.set_cons_zero, List.set_cons_succ]
            cases m2
            · refine tk 20 (oi := o34_17_20) (v := ?_) rfl (by kernel_rfl) (fun _ _ _ h => h) (by rfl) ?_ hH0 ?_
              rotate_left
              · (intro w hSw; (try dsimp only at hSw); unfold o34_17_20; go_simp <;> (with_reducible rfl))
              simp only [Act.put, o34_17_20, List.setIfInBounds_toArray, List.set_cons_zero, List.set_cons_succ]
              refine tk 21 (oi := o34_17_21) (v := ?_) rfl (by kernel_rfl) (fun _ _ _ h => h) (by rfl) ?_ hH0 ?_
              rotate_left
              · (intro w hSw; (try dsimp only at hSw); unfold o34_17_21; go_simp <;> (with_reducible rfl))
              simp only [Act.put, o34_17_21, List.setIfInBounds_toArray, List.set_cons_zero, List.set_cons_succ]
              refine tk 22 (oi := o34_17_22) (v := ?_) rfl (by kernel_rfl) (fun _ _ _ h => h) (by rfl) ?_ hH0 ?_
              rotate_left
              · (intro w hSw; (try dsimp only at hSw); unfold o34_17_22; go_simp <;> (with_reducible rfl))
              simp only [Act.put, o34_17_22, List.setIfInBounds_toArray, List.set_cons_zero, List.set_cons_succ]
              refine tk 23 (oi := o34_17_23) (v := ?_) rfl (by kernel_rfl) (fun _ _ _ h => h) (by rfl) ?_ hH0 ?_
              rotate_left
              · (intro w hSw; (try dsimp only at hSw); unfold o34_17_23; go_simp <;> (with_reducible rfl))
              simp only [Act.put, o34_17_23, List.setIfInBounds_toArray, List.set_cons_zero, List.set_cons_succ]
              refine tk 24 (oi := o34_17_24) (v := ?_) rfl (by kernel_rfl) (fun _ _ _ h => h) (by rfl) ?_ hH0 ?_
              rotate_left
              · (intro w hSw; (try dsimp only at hSw); unfold o34_17_24; go_simp <;> (with_reducible rfl))
              simp only [Act.put, o34_17_24, List.setIfInBounds_toArray, List.set_cons_zero, List.set_cons_succ]
              refine tk 25 (oi := o34_17_25) (v := ?_) rfl (by kernel_rfl) (fun _ _ _ h => h) (by rfl) ?_ hH0 ?_
              rotate_left
              · (intro w hSw; (try dsimp only at hSw); unfold o34_17_25; go_simp <;> (with_reducible rfl))
              simp only [Act.put, o34_17_25, List.setIfInBounds_toArray, List.set_cons_zero, List.set_cons_succ]
              refine tk 26 (oi := o34_17_26) (v := ?_) rfl (by kernel_rfl) (fun _ _ _ h => h) (by rfl) ?_ hH0 ?_
              rotate_left
              · (intro w hSw; (try dsimp only at hSw); unfold o34_17_26; go_simp <;> (with_reducible rfl))
              simp only [Act.put, o34_17_26, List.setIfInBounds_toArray, List.set_cons_zero, List.set_cons_succ]
              refine tk 27 (oi := o34_17_27) (v := ?_) rfl (by kernel_rfl) (fun _ _ _ h => h) (by rfl) ?_ hH0 ?_
              rotate_left
              · (intro w hSw; (try dsimp only at hSw); unfold o34_17_27; go_simp <;> (with_reducible rfl))
              simp only [Act.put, o34_17_27, List.setIfInBounds_toArray, List.set_cons_zero, List.set_cons_succ]
              refine tk 28 (oi := o34_17_28) (v := ?_) rfl (by kernel_rfl) (fun _ _ _ h => h) (by rfl) ?_ hH0 ?_
              rotate_left
              · (intro w hSw; (try dsimp only at hSw); unfold o34_17_28; go_simp <;> (with_reducible rfl))
              simp only [Act.put, o34_17_28, List.setIfInBounds_toArray, List.set_cons_zero, List.set_cons_succ]
              refine tk 29 (oi := o34_17_29) (v := ?_) rfl (by kernel_rfl) (fun _ _ _ h => h) (by rfl) ?_ hH0 ?_
              rotate_left
              · (intro w hSw; (try dsimp only at hSw); unfold o34_17_29; go_simp <;> (with_reducible rfl))
              simp only [Act.put, o34_17_29, List.setIfInBounds_toArray, List.set_cons_zero, List.set_cons_succ]
              cases m3
              · refine tk 30 (oi := o34_17_30) (v := ?_) rfl (by kernel_rfl) (fun _ _ _ h => h) (by rfl) ?_ hH0 ?_
                rotate_left
                · (intro w hSw; (try dsimp only at hSw); unfold o34_17_30; go_simp <;> (with_reducible rfl))
                simp only [Act.put, o34_17_30, List.setIfInBounds_toArray, List.set_cons_zero, List.set_cons_succ]
                refine tk 31 (oi := o34_17_31) (v := ?_) rfl (by kernel_rfl) (fun _ _ _ h => h) (by rfl) ?_ hH0 ?_
                rotate_left
                · (intro w hSw; (try dsimp only at hSw); unfold o34_17_31; go_simp <;> (with_reducible rfl))
                simp only [Act.put, o34_17_31, List.setIfInBounds_toArray, List.set_cons_zero, List.set_cons_succ]
                refine tk 32 (oi := o34_17_32) (v := ?_) rfl (by kernel_rfl) (fun _ _ _ h => h) (by rfl) ?_ hH0 ?_
                rotate_left
                · (intro w hSw; (try dsimp only at hSw); unfold o34_17_32; go_simp <;> (with_reducible rfl))
                simp only [Act.put, o34_17_32, List.setIfInBounds_toArray, List.set_cons_zero, List.set_cons_succ]
                refine tk 33 (oi := o34_17_33) (v := ?_) rfl (by kernel_rfl) (fun _ _ _ h => h) (by rfl) ?_ hH0 ?_
                rotate_left
                · (intro w hSw; (try dsimp only at hSw); unfold o34_17_33; go_simp <;> (with_reducible rfl))
                simp only [Act.put, o34_17_33, List.setIfInBounds_toArray, List.set_cons_zero, List.set_cons_succ]
                refine tk 34 (oi := o34_17_34) (v := ?_) rfl (by kernel_rfl) (fun _ _ _ h => h) (by rfl) ?_ hH0 ?_
                rotate_left
                · (intro w hSw; (try dsimp only at hSw); unfold o34_17_34; go_simp <;> (with_reducible rfl))
                simp only [Act.put, o34_17_34, List.setIfInBounds_toArray, List.set_cons_zero, List.set_cons_succ]
                refine wpAnyH_ready (rs := [35]) (by kernel_rfl) (by simp) (AllReadyH.cons (o := o34_17_35) rfl (fun K' hK' => ?_) AllReadyH.nil)
                unfold o34_17_35
                go_simp
                go_at_call 120; refine (hright _).mono ?_; rintro e w5 ⟨rfl, hb_⟩; have HB5 := Aside0.mk hb_; have hk_ := HSW.out _ (below_step (below_drew (Below.refl _ wr)) HB5.out); clear hb_
                refine hK'.out _ _ (by exact hk_) (fun hH1 => ?_)
                clear hK' K'
                try simp only [Act.put, List.setIfInBounds_toArray, List.set_cons_zero, List.set_cons_succ]
                refine tk 36 (oi := o34_17_36) (v := ?_) rfl (by kernel_rfl) (fun _ _ _ h => h) (by rfl) ?_ hH1 ?_
                rotate_left
                · (intro w hSw; (try dsimp only at hSw); unfold o34_17_36; go_simp <;> (with_reducible rfl))
                simp only [Act.put, o34_17_36, List.setIfInBounds_toArray, List.set_cons_zero, List.set_cons_succ]
                refine tk 37 (oi := o34_17_37) (v := ?_) rfl (by kernel_rfl) (fun _ _ _ h => h) (by rfl) ?_ hH1 ?_
                rotate_left
                · (intro w hSw; (try dsimp only at hSw); unfold o34_17_37; go_simp <;> (with_reducible rfl))
                simp only [Act.put, o34_17_37, List.setIfInBounds_toArray, List.set_cons_zero, List.set_cons_succ]
                refine wpAnyH_done (by kernel_rfl) ?_ _
                clear HSW
                cases rb
                · go_wp2
                  go_ret
                  exact HNO.out _ (below_step (below_drew HB.out) HB5.out) (fun h => by simp at h)
                · go_wp2
                  go_roundw
                  case rel => exact ⟨k + 1, by omega, by go_num, ⟨HO'.out (by have := of_decide_eq_false e1; have := of_decide_eq_false e2; have := of_decide_eq_false e3; exact ⟨by omega, by omega, by omega, rfl⟩)⟩, ⟨blk_below (blk_below BK.out (below_drew (Below.refl _ _))) HB5.out⟩, ⟨below_step (below_drew HB.out) HB5.out⟩⟩
                  case measure => simp [intOf]; omega
              · refine tu 30 (oi := o34_17_30) rfl (by kernel_rfl) (fun _ _ _ h => h) (by rfl) hH0 ?_
                simp only [Act.put, o34_17_30, List.setIfInBounds_toArray, List.set_cons_zero, List.set_cons_succ]
                refine tu 31 (oi := o34_17_31) rfl (by kernel_rfl) (fun _ _ _ h => h) (by rfl) hH0 ?_
                simp only [Act.put, o34_17_31, List.setIfInBounds_toArray, List.set_cons_zero, List.set_cons_succ]
                refine tu 32 (oi := o34_17_32) rfl (by kernel_rfl) (fun _ _ _ h => h) (by rfl) hH0 ?_
                simp only [Act.put, o34_17_32, List.setIfInBounds_toArray, List.set_cons_zero, List.set_cons_succ]
                refine tu 33 (oi := o34_17_33) rfl (by kernel_rfl) (fun _ _ _ h => h) (by rfl) hH0 ?_
                simp only [Act.put, o34_17_33, List.setIfInBounds_toArray, List.set_cons_zero, List.set_cons_succ]
                refine tu 34 (oi := o34_17_34) rfl (by kernel_rfl) (fun _ _ _ h => h) (by rfl) hH0 ?_
                simp only [Act.put, o34_17_34, List.setIfInBounds_toArray, List.set_cons_zero, List.set_cons_succ]
                refine tu 35 (oi := o34_17_35) rfl (by kernel_rfl) (fun _ _ _ h => h) (by rfl) hH0 ?_
                simp only [Act.put, o34_17_35, List.setIfInBounds_toArray, List.set_cons_zero, List.set_cons_succ]
                refine tu 36 (oi := o34_17_36) rfl (by kernel_rfl) (fun _ _ _ h => h) (by rfl) hH0 ?_
                simp only [Act.put, o34_17_36, List.setIfInBounds_toArray, List.set_cons_zero, List.set_cons_succ]
                refine tk 37 (oi := o34_17_37) (v := ?_) rfl (by kernel_rfl) (fun _ _ _ h => h) (by rfl) ?_ hH0 ?_
                rotate_left
                · (intro w hSw; (try dsimp only at hSw); unfold o34_17_37; go_simp <;> (with_reducible rfl))
                simp only [Act.put, o34_17_37, List.setIfInBounds_toArray, List.set_cons_zero, List.set_cons_succ]
                refine wpAnyH_done (by kernel_rfl) ?_ _
                clear HSW
                go_wp2
                go_ret
                exact HNO.out _ (below_drew HB.out) (fun h => by have := of_decide_eq_true e3; omega)
            · refine tu 20 (oi := o34_17_20) rfl (by kernel_rfl) (fun _ _ _ h => h) (by rfl) hH0 ?_
              simp only [Act.put, o34_17_20, List.setIfInBounds_toArray, List.set_cons_zero, List.set_cons_succ]
              refine tu 21 (oi := o34_17_21) rfl (by kernel_rfl) (fun _ _ _ h => h) (by rfl) hH0 ?_
              simp only [Act.put, o34_17_21, List.setIfInBounds_toArray, List.set_cons_zero, List.set_cons_succ]
              refine tu 22 (oi := o34_17_22) rfl (by kernel_rfl) (fun _ _ _ h => h) (by rfl) hH0 ?_
              simp only [Act.put, o34_17_22, List.setIfInBounds_toArray, List.set_cons_zero, List.set_cons_succ]
              refine tu 23 (oi := o34_17_23) rfl (by kernel_rfl) (fun _ _ _ h => h) (by rfl) hH0 ?_
              simp only [Act.put, o34_17_23, List.setIfInBounds_toArray, List.set_cons_zero, List.set_cons_succ]
              refine tu 24 (oi := o34_17_24) rfl (by kernel_rfl) (fun _ _ _ h => h) (by rfl) hH0 ?_
              simp only [Act.put, o34_17_24, List.setIfInBounds_toArray, List.set_cons_zero, List.set_cons_succ]
              refine tu 25 (oi := o34_17_25) rfl (by kernel_rfl) (fun _ _ _ h => h) (by rfl) hH0 ?_
              simp only [Act.put, o34_17_25, List.setIfInBounds_toArray, List.set_cons_zero, List.set_cons_succ]
              refine tu 26 (oi := o34_17_26) rfl (by kernel_rfl) (fun _ _ _ h => h) (by rfl) hH0 ?_
              simp only [Act.put, o34_17_26, List.setIfInBounds_toArray, List.set_cons_zero, List.set_cons_succ]
              refine tu 27 (oi := o34_17_27) rfl (by kernel_rfl) (fun _ _ _ h => h) (by rfl) hH0 ?_
              simp only [Act.put, o34_17_27, List.setIfInBounds_toArray, List.set_cons_zero, List.set_cons_succ]
              refine tk 28 (oi := o34_17_28) (v := ?_) rfl (by kernel_rfl) (fun _ _ _ h => h) (by rfl) ?_ hH0 ?_
              rotate_left
              · (intro w hSw; (try dsimp only at hSw); unfold o34_17_28; go_simp <;> (with_reducible rfl))
              simp only [Act.put, o34_17_28, List.setIfInBounds_toArray, List.set_cons_zero, List.set_cons_succ]
              refine tk 29 (oi := o34_17_29) (v := ?_) rfl (by kernel_rfl) (fun _ _ _ h => h) (by rfl) ?_ hH0 ?_
              rotate_left
              · (intro w hSw; (try dsimp only at hSw); unfold o34_17_29; go_simp <;> (with_reducible rfl))
              simp only [Act.put, o34_17_29, List.setIfInBounds_toArray, List.set_cons_zero, List.set_cons_succ]
              refine tu 30 (oi := o34_17_30) rfl (by kernel_rfl) (fun _ _ _ h => h) (by rfl) hH0 ?_
              simp only [Act.put, o34_17_30, List.setIfInBounds_toArray, List.set_cons_zero, List.set_cons_succ]
              refine tu 31 (oi := o34_17_31) rfl (by kernel_rfl) (fun _ _ _ h => h) (by rfl) hH0 ?_
              simp only [Act.put, o34_17_31, List.setIfInBounds_toArray, List.set_cons_zero, List.set_cons_succ]
              refine tu 32 (oi := o34_17_32) rfl (by kernel_rfl) (fun _ _ _ h => h) (by rfl) hH0 ?_
              simp only [Act.put, o34_17_32, List.setIfInBounds_toArray, List.set_cons_zero, List.set_cons_succ]
              refine tu 33 (oi := o34_17_33) rfl (by kernel_rfl) (fun _ _ _ h => h) (by rfl) hH0 ?_
              simp only [Act.put, o34_17_33, List.setIfInBounds_toArray, List.set_cons_zero, List.set_cons_succ]
              refine tu 34 (oi := o34_17_34) rfl (by kernel_rfl) (fun _ _ _ h => h) (by rfl) hH0 ?_
              simp only [Act.put, o34_17_34, List.setIfInBounds_toArray, List.set_cons_zero, List.set_cons_succ]
              refine tu 35 (oi := o34_17_35) rfl (by kernel_rfl) (fun _ _ _ h => h) (by rfl) hH0 ?_
              simp only [Act.put, o34_17_35, List.setIfInBounds_toArray, List.set_cons_zero, List.set_cons_succ]
              refine tu 36 (oi := o34_17_36) rfl (by kernel_rfl) (fun _ _ _ h => h) (by rfl) hH0 ?_
              simp only [Act.put, o34_17_36, List.setIfInBounds_toArray, List.set_cons_zero, List.set_cons_succ]
              refine tk 37 (oi := o34_17_37) (v := ?_) rfl (by kernel_rfl) (fun _ _ _ h => h) (by rfl) ?_ hH0 ?_
              rotate_left
              · (intro w hSw; (try dsimp only at hSw); unfold o34_17_37; go_simp <;> (with_reducible rfl))
              simp only [Act.put, o34_17_37, List.setIfInBounds_toArray, List.set_cons_zero, List.set_cons_succ]
              refine wpAnyH_done (by kernel_rfl) ?_ _
              clear HSW
              go_wp2
              go_ret
              exact HNO.out _ (below_drew HB.out) (fun h => by have := of_decide_eq_true e2; omega)
          · refine tu 10 (oi := o34_17_10) rfl (by kernel_rfl) (fun _ _ _ h => h) (by rfl) hH0 ?_
            simp only [Act.put, o34_17_10, List.setIfInBounds_toArray, List.set_cons_zero, List.set_cons_succ]
            refine tu 11 (oi := o34_17_11) rfl (by kernel_rfl) (fun _ _ _ h => h) (by rfl) hH0 ?_
            simp only [Act.put, o34_17_11, List.setIfInBounds_toArray, List.set_cons_zero, List.set_cons_succ]
            refine tu 12 (oi := o34_17_12) rfl (by kernel_rfl) (fun _ _ _ h => h) (by rfl) hH0 ?_
            simp only [Act.put, o34_17_12, List.setIfInBounds_toArray, List.set_cons_zero, List.set_cons_succ]
            refine tu 13 (oi := o34_17_13) rfl (by kernel_rfl) (fun _ _ _ h => h) (by rfl) hH0 ?_
            simp only [Act.put, o34_17_13, List.setIfInBounds_toArray, List.set_cons_zero, List.set_cons_succ]
            refine tu 14 (oi := o34_17_14) rfl (by kernel_rfl) (fun _ _ _ h => h) (by rfl) hH0 ?_
            simp only [Act.put, o34_17_14, List.setIfInBounds_toArray, List.set_cons_zero, List.set_cons_succ]
            refine tu 15 (oi := o34_17_15) rfl (by kernel_rfl) (fun _ _ _ h => h) (by rfl) hH0 ?_
            simp only [Act.put, o34_17_15, List.setIfInBounds_toArray, List.set_cons_zero, List.set_cons_succ]
            refine tu 16 (oi := o34_17_16) rfl (by kernel_rfl) (fun _ _ _ h => h) (by rfl) hH0 ?_
            simp only [Act.put, o34_17_16, List.setIfInBounds_toArray, List.set_cons_zero, List.set_cons_succ]
            refine tu 17 (oi := o34_17_17) rfl (by kernel_rfl) (fun _ _ _ h => h) (by rfl) hH0 ?_
            simp only [Act.put, o34_17_17, List.setIfInBounds_toArray, List.set_cons_zero, List.set_cons_succ]
            refine tk 18 (oi := o34_17_18) (v := ?_) rfl (by kernel_rfl) (fun _ _ _ h => h) (by rfl) ?_ hH0 ?_
            rotate_left
            · (intro w hSw; (try dsimp only at hSw); unfold o34_17_18; go_simp <;> (with_reducible rfl))
            simp only [Act.put, o34_17_18, List.setIfInBounds_toArray, List.set_cons_zero, List.set_cons_succ]
            refine tk 19 (oi := o34_17_19) (v := ?_) rfl (by kernel_rfl) (fun _ _ _ h => h) (by rfl) ?_ hH0 ?_
            rotate_left
            · (intro w hSw; (try dsimp only at hSw); unfold o34_17_19; go_simp <;> (with_reducible rfl))
            simp only [Act.put, o34_17_19, List.setIfInBounds_toArray, List.set_cons_zero, List.set_cons_succ]
            refine tu 20 (oi := o34_17_20) rfl (by kernel_rfl) (fun _ _ _ h => h) (by rfl) hH0 ?_
            simp only [Act.put, o34_17_20, List.setIfInBounds_toArray, List.set_cons_zero, List.set_cons_succ]
            refine tu 21 (oi := o34_17_21) rfl (by kernel_rfl) (fun _ _ _ h => h) (by rfl) hH0 ?_
            simp only [Act.put, o34_17_21, List.setIfInBounds_toArray, List.set_cons_zero, List.set_cons_succ]
            refine tu 22 (oi := o34_17_22) rfl (by kernel_rfl) (fun _ _ _ h => h) (by rfl) hH0 ?_
            simp only [Act.put, o34_17_22, List.setIfInBounds_toArray, List.set_cons_zero, List.set_cons_succ]
            refine tu 23 (oi := o34_17_23) rfl (by kernel_rfl) (fun _ _ _ h => h) (by rfl) hH0 ?_
            simp only [Act.put, o34_17_23, List.setIfInBounds_toArray, List.set_cons_zero, List.set_cons_succ]
            refine tu 24 (oi := o34_17_24) rfl (by kernel_rfl) (fun _ _ _ h => h) (by rfl) hH0 ?_
            simp only [Act.put, o34_17_24, List.setIfInBounds_toArray, List.set_cons_zero, List.set_cons_succ]
            refine tu 25 (oi := o34_17_25) rfl (by kernel_rfl) (fun _ _ _ h => h) (by rfl) hH0 ?_
            simp only [Act.put, o34_17_25, List.setIfInBounds_toArray, List.set_cons_zero, List.set_cons_succ]
            refine tu 26 (oi := o34_17_26) rfl (by kernel_rfl) (fun _ _ _ h => h) (by rfl) hH0 ?_
            simp only [Act.put, o34_17_26, List.setIfInBounds_toArray, List.set_cons_zero, List.set_cons_succ]
            refine tu 27 (oi := o34_17_27) rfl (by kernel_rfl) (fun _ _ _ h => h) (by rfl) hH0 ?_
            simp only [Act.put, o34_17_27, List.setIfInBounds_toArray, List.set_cons_zero, List.set_cons_succ]
            refine tk 28 (oi := o34_17_28) (v := ?_) rfl (by kernel_rfl) (fun _ _ _ h => h) (by rfl) ?_ hH0 ?_
            rotate_left
            · (intro w hSw; (try dsimp only at hSw); unfold o34_17_28; go_simp <;> (with_reducible rfl))
            simp only [Act.put, o34_17_28, List.setIfInBounds_toArray, List.set_cons_zero, List.set_cons_succ]
            refine tk 29 (oi := o34_17_29) (v := ?_) rfl (by kernel_rfl) (fun _ _ _ h => h) (by rfl) ?_ hH0 ?_
            rotate_left
            · (intro w hSw; (try dsimp only at hSw); unfold o34_17_29; go_simp <;> (with_reducible rfl))
            simp only [Act.put, o34_17_29, List.setIfInBounds_toArray, List.set_cons_zero, List.set_cons_succ]
            refine tu 30 (oi := o34_17_30) rfl (by kernel_rfl) (fun _ _ _ h => h) (by rfl) hH0 ?_
            simp only [Act.put, o34_17_30, List.setIfInBounds_toArray, List.set_cons_zero, List.set_cons_succ]
            refine tu 31 (oi := o34_17_31) rfl (by kernel_rfl) (fun _ _ _ h => h) (by rfl) hH0 ?_
            simp only [Act.put, o34_17_31, List.setIfInBounds_toArray, List.set_cons_zero, List.set_cons_succ]
            refine tu 32 (oi := o34_17_32) rfl (by kernel_rfl) (fun _ _ _ h => h) (by rfl) hH0 ?_
            simp only [Act.put, o34_17_32, List.setIfInBounds_toArray, List.set_cons_zero, List.set_cons_succ]
            refine tu 33 (oi := o34_17_33) rfl (by kernel_rfl) (fun _ _ _ h => h) (by rfl) hH0 ?_
            simp only [Act.put, o34_17_33, List.setIfInBounds_toArray, List.set_cons_zero, List.set_cons_succ]
            refine tu 34 (oi := o34_17_34) rfl (by kernel_rfl) (fun _ _ _ h => h) (by rfl) hH0 ?_
            simp only [Act.put, o34_17_34, List.setIfInBounds_toArray, List.set_cons_zero, List.set_cons_succ]
            refine tu 35 (oi := o34_17_35) rfl (by kernel_rfl) (fun _ _ _ h => h) (by rfl) hH0 ?_
            simp only [Act.put, o34_17_35, List.setIfInBounds_toArray, List.set_cons_zero, List.set_cons_succ]
            refine tu 36 (oi := o34_17_36) rfl (by kernel_rfl) (fun _ _ _ h => h) (by rfl) hH0 ?_
            simp only [Act.put, o34_17_36, List.setIfInBounds_toArray, List.set_cons_zero, List.set_cons_succ]
            refine tk 37 (oi := o34_17_37) (v := ?_) rfl (by kernel_rfl) (fun _ _ _ h => h) (by rfl) ?_ hH0 ?_
            rotate_left
            · (intro w hSw; (try dsimp only at hSw); unfold o34_17_37; go_simp <;> (with_reducible rfl))
            simp only [Act.put, o34_17_37, List.setIfInBounds_toArray, List.set_cons_zero, List.set_cons_succ]
            refine wpAnyH_done (by kernel_rfl) ?_ _
            clear HSW
            go_wp2
            go_ret
            exact HNO.out _ (below_drew HB.out) (fun h => by have := of_decide_eq_true e1; omega)
        · have e : k = r.turns.length := by omega
          subst e
          have HCL : Aside0 (cloR r.ahead = checkB r) := ⟨valid_of H0.out HRW.out HO.out⟩
          have HM : Aside0 (MOk r.ahead) := ⟨⟨hn8, fun a ha => (HRW.out a ha).1, fun a b ha hb => (HRW.out a ha).2.2 b hb⟩⟩
          clear HO HRW H4
          go_wp2_with (go_at_call 121; refine (closedR_calls A c r.ahead _ HM.out (Kd.C_below H3.out HB.out) h1).mono ?_; rintro e w7 ⟨rfl, hb_⟩; have HB7 := Aside0.mk (below_step HB.out hb_); clear hb_)
          go_ret
          exact ⟨by rw [HCL.out]; rfl, HB7.out⟩
end Go.Proofs.YtflolfbkpjgjaaaGreatDoor
end
section
namespace Go.Proofs.YtflolfbkpjgjaaaGreatDoor
open Go.RowKit Go.Proofs.YtflolfbkpjgjaaaGreatDoorW.PrintWords Go.Proofs.YtflolfbkpjgjaaaGreatDoorW.PrintMore
theorem cii_alloc (w : World) (xs : List (Value × List Int)) (t : TypeId) (h : xs.length ≤ 1000) (hx : ∀ x ∈ xs, IntsAt w x.1 x.2) :
    CII (w.alloc (.cells (xs.map (·.1)).toArray t)) (some ⟨w.heap.size, 0, none⟩) (xs.map (·.2)).length (xs.map (·.2)) := by
  refine ⟨rfl, by simp; omega, fun h0 => ⟨_, rfl, fun j p hj => ?_⟩⟩
  rw [List.getElem?_map] at hj
  cases hq : xs[j]? with
  | none => rw [hq] at hj; simp at hj
  | some q =>
    rw [hq] at hj
    obtain rfl : q.2 = p := by simpa using hj
    obtain ⟨A, c, e, h1, h2⟩ := (hx q (List.mem_of_getElem? hq)).below (below_alloc (Below.refl w.heap.size w) (.cells (xs.map (·.1)).toArray t))
    refine ⟨[q.1], rfl, ⟨A, c, by rw [e], h1, h2⟩, fun i u hu => ?_⟩
    have hi : i = 0 := by
      rcases i with _ | i
      · rfl
      · simp at hu
    subst hi
    simp at hu
    subst hu
    have ha := alloc_at w (.cells (xs.map (·.1)).toArray t)
    have hb := blk_cell ha j
    rw [List.getElem?_toArray, List.getElem?_map, hq] at hb
    rw [show (Kd.slice 3 (Kd.int .i64)).sz = 1 from rfl, Nat.mul_one, Nat.add_zero, add_plain]
    exact hb
theorem few2_calls (v lv mv : Value) (r : Ros) (l m : List Int) (w : World) (hv : RosAt w v r) (hl : IntsAt w lv l) (hm : IntsAt w mv m) :
    Calls Tryz.prog 18 #[v, .slice (some ⟨w.heap.size, 0, none⟩) 2 2] (w.alloc (.cells #[lv, mv] 26)) fun e w' => e = .returned (.bool (fewB r [l, m])) ∧ Below (w.alloc (.cells #[lv, mv] 26)).heap.size (w.alloc (.cells #[lv, mv] 26)) w' :=
  few_calls v _ r [l, m] _ (hv.below (below_alloc (Below.refl _ _) _)) (some ⟨w.heap.size, 0, none⟩) 2 rfl (Nat.le_refl _) (cii_alloc w [(lv, l), (mv, m)] 26 (by simp) (by simp [hl, hm])) (by simp)
theorem few1_calls (v lv : Value) (r : Ros) (l : List Int) (w : World) (hv : RosAt w v r) (hl : IntsAt w lv l) :
    Calls Tryz.prog 18 #[v, .slice (some ⟨w.heap.size, 0, none⟩) 1 1] (w.alloc (.cells #[lv] 26)) fun e w' => e = .returned (.bool (fewB r [l])) ∧ Below (w.alloc (.cells #[lv] 26)).heap.size (w.alloc (.cells #[lv] 26)) w' :=
  few_calls v _ r [l] _ (hv.below (below_alloc (Below.refl _ _) _)) (some ⟨w.heap.size, 0, none⟩) 1 rfl (Nat.le_refl _) (cii_alloc w [(lv, l)] 26 (by simp) (by simp [hl])) (by simp)
def planR (r : Ros) (gate : Int) : List Nat := bestR (grOf r gate) (wtBy r)
def fewR (r : Ros) (gate : Int) : List Nat := bestR (grOf r gate) (wtSh r)
theorem planR_best {r : Ros} (V : Valid r) (gate : Int) : Best (grOf r gate) (wtBy r) (planR r gate) := bestR_best (by_ord V gate)
theorem fewR_best {r : Ros} (V : Valid r) (gate : Int) : Best (grOf r gate) (wtSh r) (fewR r gate) := bestR_best (short_ord V gate)
theorem plan0_calls {v : Value} {r : Ros} {gate : Int} {w : World} (V : Valid r) (h0 : 0 ≤ gate) (h1 : gate < r.gates) (hv : RosAt w v r) : Calls Tryz.prog 35 #[v, .int .i64 gate] w fun e w' => ∃ lv, e = .returned (.tuple #[lv, .bool (decide (planR r gate ≠ [])), .int .i64 0]) ∧ IntsAt w' lv (intsN (planR r gate)) ∧ Below w.heap.size w w' := by
  have := planF_calls v r gate w hv
  rw [gatedE_good V h0 h1] at this
  refine this.mono ?_
  rintro e w' ⟨lv, P, ba, rfl, hl, hb, h2, _⟩
  obtain rfl := Best.same (by_ord V gate) (h2 rfl) (planR_best V gate)
  exact ⟨lv, rfl, hl.ints, hb⟩
theorem few0_calls {v : Value} {r : Ros} {gate : Int} {w : World} (V : Valid r) (h0 : 0 ≤ gate) (h1 : gate < r.gates) (hv : RosAt w v r) : Calls Tryz.prog 60 #[v, .int .i64 gate] w fun e w' => ∃ lv, e = .returned (.tuple #[lv, .bool (decide (fewR r gate ≠ [])), .int .i64 0]) ∧ IntsAt w' lv (intsN (fewR r gate)) ∧ Below w.heap.size w w' := by
  have := fewest_calls v r gate w hv
  rw [gatedE_good V h0 h1] at this
  refine this.mono ?_
  rintro e w' ⟨lv, P, ba, rfl, hl, hb, h2, _⟩
  obtain rfl := Best.same (short_ord V gate) (h2 rfl) (fewR_best V gate)
  exact ⟨lv, rfl, hl.ints, hb⟩
theorem gap0_calls {v : Value} {r : Ros} {gate : Int} {w : World} (V : Valid r) (h0 : 0 ≤ gate) (h1 : gate < r.gates) (hv : RosAt w v r) : Calls Tryz.prog 21 #[v, .int .i64 gate] w fun e w' => ∃ lv, e = .returned (.tuple #[lv, .bool (gapB r gate), .int .i64 0]) ∧ IntsAt w' lv (gapO r gate) ∧ Below w.heap.size w w' := by
  have := gap_calls v r gate w hv
  rw [gatedE_good V h0 h1] at this
  refine this.mono ?_
  rintro e w' ⟨lv, rfl, hl, hb⟩
  exact ⟨lv, rfl, intsAt_of_own hl, hb⟩
theorem cost0_calls {v lv : Value} {r : Ros} {l : List Int} {w : World} (V : Valid r) (hin : ∀ x ∈ l, 0 ≤ x ∧ x < r.turns.length) (hd : diffB l = true) (hv : RosAt w v r) (hl : IntsAt w lv l) : Calls Tryz.prog 54 #[v, lv] w fun e w' => e = .returned (.tuple #[.int .i64 (costL r l), .int .i64 0]) ∧ Below w.heap.size w w' := by
  have := costOf_calls v lv r l w hv hl
  have h0 : l.any (outB r) = false := by
    rw [List.any_eq_false]
    intro x hx h
    rw [(outB_iff r x).2 (hin x hx)] at h
    simp at h
  have he : turnsE r l = 0 := by rw [turnsE_of V, h0]; rfl
  unfold costV costE at this
  rw [he, hd] at this
  exact this
structure Either (r : Ros) (gate : Int) (P : List Nat) (l m : List Int) : Prop where
  gap : gapB r gate = !decide (P ≠ [])
  plan : P ≠ [] → checkPlanE r gate (intsN P) = 0
  gapped : gapB r gate = true → checkGapE r gate (gapO r gate) = 0
  lst : checkPlanE r gate l = 0 → P ≠ []
  gst : checkGapE r gate m = 0 → gapB r gate = true
theorem either_law {r : Ros} {gate : Int} {P : List Nat} (V : Valid r) (h0 : 0 ≤ gate) (h1 : gate < r.gates) (hB : Best (grOf r gate) (wtBy r) P) (l m : List Int) : Either r gate P l m := by
  have hg := gatedE_good V h0 h1
  have hgap : gapB r gate = !decide (P ≠ []) := by
    unfold gapB
    rw [hg]
    cases h : (reachL r gate (-1)).any (endB r)
    · have h2 : ¬ ∃ p, Plan (grOf r gate) p := by rw [← reach_late_all V, h]; simp
      rw [← best_ne hB] at h2
      rw [decide_eq_false h2]
      rfl
    · have h2 := (best_ne hB).2 ((reach_late_all V).1 h)
      rw [decide_eq_true h2]
      rfl
  have hplan : ∀ l, checkPlanE r gate l = 0 ↔ planB r gate l = true := fun l => by
    rw [checkPlanE_zero V h0 h1]
    cases planB r gate l <;> simp
  refine ⟨hgap, fun hne => ?_, fun hb => ?_, fun h => ?_, fun h => ?_⟩
  · rw [hplan, planB_iff V]
    exact ⟨P, rfl, hB.plan.resolve_left hne⟩
  · rw [checkGapE_zero V h0 h1]
    unfold gapO
    rw [if_pos hb]
    refine reach_gap V (fun p hp => ?_)
    rw [hgap] at hb
    have := (best_ne hB).2 ⟨p, hp⟩
    rw [decide_eq_true this] at hb
    simp at hb
  · rw [hplan, planB_iff V] at h
    obtain ⟨p, _, hp⟩ := h
    exact (best_ne hB).2 ⟨p, hp⟩
  · rw [checkGapE_zero V h0 h1] at h
    rw [hgap]
    have : ¬ P ≠ [] := fun hne => h.none P (hB.plan.resolve_left hne)
    rw [decide_eq_false this]
    rfl
end Go.Proofs.YtflolfbkpjgjaaaGreatDoor
end
