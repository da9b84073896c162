/- What the proofs lean on, part 3: contracts of the functions that all the laws reach, and the plain words for them. -/
import Derived.Deep.RegionHeld3
import Derived.StillTailTactics
import Derived.Deep.QuietTactic
import Derived.BigQuiet
import Derived.ArgAppend
import Derived.Test.YtflolfbkpjgjaaaGreatDoorY2
set_option linter.unusedVariables false
set_option linter.unusedSimpArgs false
section
namespace Go.Proofs.YtflolfbkpjgjaaaGreatDoor
open Go.RowKit Go.Proofs.YtflolfbkpjgjaaaGreatDoorW.PrintWords
open Go.Proofs.YtflolfbkpjgjaaaGreatDoorW.PrintMore
structure LagDo (g : Nat) (lb : Array Value) (gv : Nat) (I : World → List Lag → World → Prop) : Prop where
  step : ∀ (w0 : World) (xs : List Lag) (x : Int) (y : Bool) (W : World), xs.length ≤ 1000 → I w0 xs W → Calls Tryz.prog g (#[.agg #[.int .i64 x, .bool y]] ++ lb) W fun e w' => e = .returned (.tuple #[]) ∧ I w0 (xs ++ [(x, y)]) w'
  below : ∀ (w0 : World) (xs : List Lag) (W W' : World), I w0 xs W → Below W.heap.size W W' → I w0 xs W'
  kept : ∀ (w0 : World) (xs : List Lag) (W : World), I w0 xs W → Kept w0 W (fun k => k = gv)
  base : ∀ (w0 : World) (xs : List Lag) (W : World), I w0 xs W → Below gv w0 W
def begL (r : Ros) (i : Int) : Lag := (begLate r i, 0 == (tn r i).clock)
def endL (r : Ros) (i : Int) : Lag := (endLate r i, (tn r i).clock2 == 0)
def meetL (r : Ros) (i j : Int) : Lag := (meetLate r i j, (tn r i).clock2 == (tn r j).clock)
def lagsN (r : Ros) (l : List Int) (k : Nat) : List Lag := begL r (l.getD 0 0) :: (List.range k).map fun j => meetL r (l.getD j 0) (l.getD (j + 1) 0)
def lagsL (r : Ros) (l : List Int) : List Lag := lagsN r l (l.length - 1) ++ [endL r (l.getD (l.length - 1) 0)]
theorem lagsN_succ (r : Ros) (l : List Int) (k : Nat) : lagsN r l (k + 1) = lagsN r l k ++ [meetL r (l.getD k 0) (l.getD (k + 1) 0)] := by
  unfold lagsN
  rw [List.range_succ, List.map_append, List.cons_append]
  rfl
theorem lagsN_len (r : Ros) (l : List Int) (k : Nat) : (lagsN r l k).length = k + 1 := by simp [lagsN]
set_option maxHeartbeats 4000000 in
set_option maxRecDepth 100000 in
theorem lags_calls (v lv : Value) (r : Ros) (l : List Int) (g : Nat) (lb : Array Value) (gv : Nat) (I : World → List Lag → World → Prop) (wp w : World) (V : Valid r) (hv : RosAt wp v r) (hl : IntsAt wp lv l) (hin : ∀ x ∈ l, 0 ≤ x ∧ x < r.turns.length)
    (hne : 0 < l.length) (hlen : l.length ≤ 900) (eg : CanEnter g) (hd : LagDo g lb gv I) (hpw : Below wp.heap.size wp w) (hgv : wp.heap.size ≤ gv) (hgw : gv < w.heap.size) (h0 : ∀ w0, Below w.heap.size w w0 → I w0 [] w0) :
    Calls Tryz.prog 131 #[v, lv, .func (.func g) #[] lb] w fun e w' => e = .returned (.tuple #[]) ∧ ∃ w0, Below w.heap.size w w0 ∧ I w0 (lagsL r l) w' := by
  have eg' : ∀ args w, (callFunc g args).run Tryz.prog w = .ok (.enter g args) w := eg
  have hR := Aside0.mk hv
  have HV := Aside0.mk V
  have HIn := Aside0.mk hin
  have HD := Aside0.mk hd
  have HLen := Aside0.mk hlen
  have HP := Aside0.mk hpw
  have HGP := Aside0.mk hgv
  have HGW := Aside0.mk hgw
  have H0 := Aside0.mk h0
  obtain ⟨A, c, T, d, rfl, h1, h2, h3, h4⟩ := hv
  obtain ⟨A1, c1, rfl, hc1, hl1⟩ := hl
  have HL := Aside0.mk hl1
  clear h3 h4 hl1 V hin hd hlen hpw hgv hgw h0 eg
  have m0 := HIn.out _ (mem_getD l 0 hne)
  go_enter Tryz.func131, Tryz.ntmps131
  go_wp2_with ((with_reducible refine gate_dst (N := 3) rfl ?_); refine box_event ?hg (N := 3) ?hd (cs := rosC r A c T d) (t := 25) ?hr ?_; (case hd => rfl); (case hg => rfl); (case hr => first | (go_simp; done) | (go_simp; rfl)); intro gr hgr w3 hbox_ hb_; have BK := Aside0.mk hbox_; have Hgr := Aside0.mk hgr; have HB := Aside0.mk hb_; obtain ⟨q0, q1, q2, q3, q4⟩ := rosC_cells hbox_; have HG3 : Aside0 (gr = w.heap.size) := ⟨hgr⟩; have pr : gr < w3.heap.size := blk_lt hbox_; clear hbox_ hb_ hgr)
  have HP3 : Aside0 (Below wp.heap.size wp w3) := ⟨below_step HP.out HB.out⟩
  obtain ⟨ad, hAd, g0⟩ := CI_at (Kd.C_below HL.out HP3.out) ((0 : Nat) : Int) (by omega) (by omega)
  cases hAd
  rw [show (((0 : Nat) : Int)).toNat = 0 from rfl] at g0
  have g0 : w3.cell? ad = some (.int .i64 (l.getD 0 0)) := by rwa [show ad.add 0 = ad by simp [Addr.add]] at g0
  have HAp : Aside0 (ad.block < wp.heap.size) := ⟨by
    obtain ⟨ad', hAd', g0'⟩ := CI_at HL.out ((0 : Nat) : Int) (by omega) (by omega)
    cases hAd'
    exact World.block_lt_of_cell? wp _ g0'⟩
  have HA2 : Aside0 (∀ n, (ad.add n).block < wp.heap.size) := ⟨fun n => by
    have h := HAp.out
    unfold Addr.add
    split <;> exact h⟩
  have pa : ad.block < w3.heap.size := World.block_lt_of_cell? w3 _ g0
  have HX : Aside0 (begL r (l.getD 0 0) = (begLate r (l.getD 0 0), 0 == (tn r (l.getD 0 0)).clock)) := ⟨rfl⟩
  have HN0 : Aside0 (lagsN r l 0 = [begL r (l.getD 0 0)]) := ⟨rfl⟩
  have i0 : (0 : Int) < (l.length : Int) := by omega
  generalize hx0 : l.getD 0 0 = x0 at *
  go_region_held3 (fun w' => (w'.cell? ⟨gr, 0, none⟩ = some (.int .i64 r.gates) ∧ w'.cell? ⟨gr, 1, none⟩ = some (.int .i64 r.frm) ∧ w'.cell? ⟨gr, 2, none⟩ = some (.int .i64 r.til) ∧ w'.cell? ⟨gr, 3, none⟩ = some (.slice A r.ahead.length c) ∧ w'.cell? ⟨gr, 4, none⟩ = some (.slice T r.turns.length d)) ∧ w'.cell? ad = some (.int .i64 x0)) (go_keep) (first | (go_at_call 96; refine (begin_calls _ r x0 _ (hR.out.below (below_step HP3.out ?_)) HV.out m0.1 m0.2).mono ?_; (repeat (first | exact Below.refl _ _ | apply below_alloc | apply pw_below_drewN | apply below_drew)); rintro e w4 ⟨rfl, hb4⟩; have HB4 := Aside0.mk hb4; obtain ⟨s0, s1, s2, s3, s4⟩ := rosC_cells (blk_below (w := w3.drew) BK.out hb4); have sg : w4.cell? ad = some (.int .i64 x0) := pw_cell_below (w := w3.drew) hb4 g0) | (go_at_fn g; refine ((HD.out).step _ [] _ _ _ (by simp) (H0.out _ (below_step (below_drew HB.out) HB4.out))).mono ?_; rintro e wd ⟨rfl, hi_⟩; have HId := Aside0.mk hi_; have HKd := Aside0.mk ((HD.out).kept _ _ _ hi_); have HBd := Aside0.mk ((HD.out).base _ _ _ hi_); obtain ⟨t0, t1, t2, t3, t4⟩ := rosC_cells (blk_kept (blk_below (w := w3.drew) BK.out HB4.out) HKd.out (by show ¬ gr = gv; rw [HG3.out]; have := HGW.out; omega)); have tg : wd.cell? ad = some (.int .i64 x0) := ((HBd.out).cell (Nat.lt_of_lt_of_le HAp.out HGP.out)).trans sg; have HX0 : Aside0 (∃ w0, Below w.heap.size w w0 ∧ w0.heap[gr]? = some (.cells (rosC r A c T d) 25 (0, 0)) ∧ I w0 [begL r x0] wd) := ⟨_, below_step (below_drew HB.out) HB4.out, blk_below (w := w3.drew) BK.out HB4.out, hi_⟩; clear hi_))
  go_wp2
  obtain ⟨w0, hw0, hb0, hi0⟩ := HX0.out
  have HW0 := Aside0.mk hw0
  have HK0 := Aside0.mk hb0
  have HI0 := Aside0.mk hi0
  clear HX0 hw0 hb0 hi0 HId HKd HBd t0 t1 t2 t3 t4 tg s0 s1 s2 s3 s4 sg HB4 q0 q1 q2 q3 q4 g0 pr pa HB BK HP3
  go_loopw [6] (fun iv wr => ∃ k : Nat, 1 ≤ k ∧ k ≤ l.length ∧ iv = .int .i64 k ∧ Aside0 (I w0 (lagsN r l (k - 1)) wr)) (fun iv _ => l.length - (intOf iv).toNat)
  case atStart => exact ⟨1, by omega, by omega, rfl, ⟨by rw [show 1 - 1 = 0 from rfl, HN0.out]; exact HI0.out⟩⟩
  case round =>
    obtain ⟨k, hk1, hk, rfl, HI⟩ := hrel
    have HKr := Aside0.mk ((HD.out).kept _ _ _ HI.out)
    have HBr : Aside0 (Below wp.heap.size wp wr) := ⟨below_weaken (below_step HP.out HW0.out) HGP.out ((HD.out).base _ _ _ HI.out)⟩
    have HBK := Aside0.mk (blk_kept HK0.out HKr.out (by show ¬ gr = gv; rw [HG3.out]; have := HGW.out; omega))
    obtain ⟨q0, q1, q2, q3, q4⟩ := rosC_cells HBK.out
    by_cases hlt : k < l.length
    · obtain ⟨ad1, hAd1, g1⟩ := CI_at (Kd.C_below HL.out HBr.out) ((k - 1 : Nat) : Int) (by omega) (by omega)
      cases hAd1
      obtain ⟨ad1, hAd1, g2⟩ := CI_at (Kd.C_below HL.out HBr.out) (k : Int) (by omega) (by omega)
      cases hAd1
      rw [show (((k - 1 : Nat) : Int)).toNat = k - 1 from rfl] at g1
      rw [show ((k : Nat) : Int).toNat = k from rfl] at g2
      have m1 := HIn.out _ (mem_getD l (k - 1) (by omega))
      have G1 : Aside0 (wp.cell? (ad.add (k - 1)) = some (.int .i64 (l.getD (k - 1) 0))) := ⟨((HBr.out).cell (HA2.out _)).symm.trans g1⟩
      have G2 : Aside0 (wp.cell? (ad.add k) = some (.int .i64 (l.getD k 0))) := ⟨((HBr.out).cell (HA2.out _)).symm.trans g2⟩
      have m2 := HIn.out _ (mem_getD l k hlt)
      have HN : Aside0 (lagsN r l k = lagsN r l (k - 1) ++ [meetL r (l.getD (k - 1) 0) (l.getD k 0)]) := ⟨by
        have h := lagsN_succ r l (k - 1)
        rwa [show k - 1 + 1 = k by omega] at h⟩
      generalize l.getD (k - 1) 0 = x1 at *
      generalize l.getD k 0 = x2 at *
      have hb1 : (0 : Int) ≤ (k : Int) - 1 := by omega
      have hlen := HLen.out
      have hbt : ((k : Int) - 1).toNat = k - 1 := by omega
      have hwr : IntKind.i64.wrap ((k : Int) - 1) = (k : Int) - 1 := by rw [IntWalk.i64_left, IntWalk.wrap64_in _ (by omega)]
      have hwr2 : wrap64 ((k : Int) - 1) = (k : Int) - 1 := IntWalk.wrap64_in _ (by omega)
      have hb4 : (1 : Int) ≤ (k : Int) := by omega
      have hb5 : (0 : Int) < (k : Int) := by omega
      have hb2 : (k : Int) - 1 < (l.length : Int) := by omega
      have hb3 : (k : Int) < (l.length : Int) := by omega
      go_wp2
      go_region_held3 (fun w' => (w'.cell? ⟨gr, 0, none⟩ = some (.int .i64 r.gates) ∧ w'.cell? ⟨gr, 1, none⟩ = some (.int .i64 r.frm) ∧ w'.cell? ⟨gr, 2, none⟩ = some (.int .i64 r.til) ∧ w'.cell? ⟨gr, 3, none⟩ = some (.slice A r.ahead.length c) ∧ w'.cell? ⟨gr, 4, none⟩ = some (.slice T r.turns.length d)) ∧ w'.cell? (ad.add (k - 1)) = some (.int .i64 x1) ∧ w'.cell? (ad.add k) = some (.int .i64 x2)) (go_keep) (first | (go_at_call 155; refine (meet_calls _ r x1 x2 _ (hR.out.below (below_step HBr.out ?_)) HV.out m1.1 m1.2 m2.1 m2.2).mono ?_; (repeat (first | exact Below.refl _ _ | apply below_alloc | apply pw_below_drewN | apply below_drew)); rintro e w4 ⟨rfl, hb4⟩; have HB4 := Aside0.mk hb4; obtain ⟨s0, s1, s2, s3, s4⟩ := rosC_cells (blk_below (w := wr.drew) HBK.out hb4); have sg1 : w4.cell? (ad.add (k - 1)) = some (.int .i64 x1) := pw_cell_below (w := wr.drew) hb4 g1; have sg2 : w4.cell? (ad.add k) = some (.int .i64 x2) := pw_cell_below (w := wr.drew) hb4 g2) | (go_at_fn g; refine ((HD.out).step w0 (lagsN r l (k - 1)) _ _ _ (by rw [lagsN_len]; have := HLen.out; omega) ((HD.out).below _ _ _ _ HI.out (below_step (below_drew (Below.refl _ _)) HB4.out))).mono ?_; rintro e wd ⟨rfl, hi_⟩; have HId := Aside0.mk hi_; have HBd : Aside0 (Below wp.heap.size wp wd) := ⟨below_weaken (below_step HP.out HW0.out) HGP.out ((HD.out).base _ _ _ hi_)⟩; obtain ⟨t0, t1, t2, t3, t4⟩ := rosC_cells (blk_kept HK0.out ((HD.out).kept _ _ _ hi_) (by show ¬ gr = gv; rw [HG3.out]; have := HGW.out; omega)); have tg1 : wd.cell? (ad.add (k - 1)) = some (.int .i64 x1) := (HBd.out).cell (HA2.out _) |>.trans G1.out; have tg2 : wd.cell? (ad.add k) = some (.int .i64 x2) := (HBd.out).cell (HA2.out _) |>.trans G2.out; clear hi_))
      go_wp2
      go_roundw
      case rel => exact ⟨k + 1, by omega, by omega, by go_num, ⟨by rw [show k + 1 - 1 = k by omega, HN.out]; exact HId.out⟩⟩
      case measure => simp [intOf]; omega
    · have hkl : k = l.length := by omega
      subst hkl
      obtain ⟨ad1, hAd1, g1⟩ := CI_at (Kd.C_below HL.out HBr.out) ((l.length - 1 : Nat) : Int) (by omega) (by omega)
      cases hAd1
      rw [show (((l.length - 1 : Nat) : Int)).toNat = l.length - 1 from rfl] at g1
      have m1 := HIn.out _ (mem_getD l (l.length - 1) (by omega))
      have G1 : Aside0 (wp.cell? (ad.add (l.length - 1)) = some (.int .i64 (l.getD (l.length - 1) 0))) := ⟨((HBr.out).cell (HA2.out _)).symm.trans g1⟩
      have HN : Aside0 (lagsL r l = lagsN r l (l.length - 1) ++ [endL r (l.getD (l.length - 1) 0)]) := ⟨rfl⟩
      generalize l.getD (l.length - 1) 0 = x1 at *
      have hb1 : (0 : Int) ≤ (l.length : Int) - 1 := by omega
      have hb2 : (l.length : Int) - 1 < (l.length : Int) := by omega
      have hlen := HLen.out
      have hbt : ((l.length : Int) - 1).toNat = l.length - 1 := by omega
      have hwr : IntKind.i64.wrap ((l.length : Int) - 1) = (l.length : Int) - 1 := by rw [IntWalk.i64_left, IntWalk.wrap64_in _ (by omega)]
      have hwr2 : wrap64 ((l.length : Int) - 1) = (l.length : Int) - 1 := IntWalk.wrap64_in _ (by omega)
      have hb4 : (1 : Int) ≤ (l.length : Int) := by omega
      have hb5 : (0 : Int) < (l.length : Int) := by omega
      go_wp2
      go_region_held3 (fun w' => (w'.cell? ⟨gr, 0, none⟩ = some (.int .i64 r.gates) ∧ w'.cell? ⟨gr, 1, none⟩ = some (.int .i64 r.frm) ∧ w'.cell? ⟨gr, 2, none⟩ = some (.int .i64 r.til) ∧ w'.cell? ⟨gr, 3, none⟩ = some (.slice A r.ahead.length c) ∧ w'.cell? ⟨gr, 4, none⟩ = some (.slice T r.turns.length d)) ∧ w'.cell? (ad.add (l.length - 1)) = some (.int .i64 x1)) (go_keep) (first | (go_at_call 106; refine (end_calls _ r x1 _ (hR.out.below (below_step HBr.out ?_)) HV.out m1.1 m1.2).mono ?_; (repeat (first | exact Below.refl _ _ | apply below_alloc | apply pw_below_drewN | apply below_drew)); rintro e w4 ⟨rfl, hb4⟩; have HB4 := Aside0.mk hb4; obtain ⟨s0, s1, s2, s3, s4⟩ := rosC_cells (blk_below (w := wr.drew) HBK.out hb4); have sg1 : w4.cell? (ad.add (l.length - 1)) = some (.int .i64 x1) := pw_cell_below (w := wr.drew) hb4 g1) | (go_at_fn g; refine ((HD.out).step w0 (lagsN r l (l.length - 1)) _ _ _ (by rw [lagsN_len]; have := HLen.out; omega) ((HD.out).below _ _ _ _ HI.out (below_step (below_drew (Below.refl _ _)) HB4.out))).mono ?_; rintro e wd ⟨rfl, hi_⟩; have HId := Aside0.mk hi_; have HBd : Aside0 (Below wp.heap.size wp wd) := ⟨below_weaken (below_step HP.out HW0.out) HGP.out ((HD.out).base _ _ _ hi_)⟩; obtain ⟨t0, t1, t2, t3, t4⟩ := rosC_cells (blk_kept HK0.out ((HD.out).kept _ _ _ hi_) (by show ¬ gr = gv; rw [HG3.out]; have := HGW.out; omega)); have tg1 : wd.cell? (ad.add (l.length - 1)) = some (.int .i64 x1) := (HBd.out).cell (HA2.out _) |>.trans G1.out; clear hi_))
      go_wp2
      go_end0
      exact ⟨rfl, w0, HW0.out, by rw [HN.out]; exact HId.out⟩
end Go.Proofs.YtflolfbkpjgjaaaGreatDoor
end
section
namespace Go.Proofs.YtflolfbkpjgjaaaGreatDoor
open Go.RowKit Go.Proofs.YtflolfbkpjgjaaaGreatDoorW.PrintWords
open Go.Proofs.YtflolfbkpjgjaaaGreatDoorW.PrintMore
def GatI (gv : Nat) (w0 : World) (xs : List Lag) (W : World) : Prop :=
  (∃ A c, W.heap[gv]? = some (.cells #[.slice A xs.length c] 145 (0, 0)) ∧ W.ownsRow w0.heap.size 98 2 (.slice A xs.length c) xs.length (lagCells xs)) ∧ Kept w0 W (fun k => k = gv) ∧ Below gv w0 W ∧ gv < w0.heap.size
theorem info98 : (Tryz.prog.info? 98).map (fun i => (i.zero, i.size, i.bytes)) = some (some (.agg #[.int .i64 0, .bool false]), 2, 16) := by kernel_rfl
set_option maxHeartbeats 2000000 in
set_option maxRecDepth 100000 in
theorem gather_calls (gv : Nat) (w0 : World) (xs : List Lag) (x : Int) (y : Bool) (W : World) (hl : xs.length ≤ 1000) (hi : GatI gv w0 xs W) :
    Calls Tryz.prog 161 #[.agg #[.int .i64 x, .bool y], .pointer (some ⟨gv, 0, none⟩)] W fun e w' => e = .returned (.tuple #[]) ∧ GatI gv w0 (xs ++ [(x, y)]) w' := by
  obtain ⟨⟨A, c, hb, ho⟩, hk, hbel, hgv⟩ := hi
  have HB0 := Aside0.mk hb
  have HO0 := Aside0.mk ho
  have HK0 := Aside0.mk hk
  have HL0 := Aside0.mk hbel
  have HG0 := Aside0.mk hgv
  have q0 : W.cell? ⟨gv, 0, none⟩ = some (.slice A xs.length c) := (blk_cell hb 0).trans rfl
  clear hb ho hk hbel hgv
  go_enter Tryz.func161, Tryz.ntmps161
  go_wp2_with (first | ((with_reducible refine gate_dst (N := 2) rfl ?_); refine box_event ?hg (N := 2) ?hd (cs := #[.int .i64 x, .bool y]) (t := 98) ?hr ?_; (case hd => rfl); (case hg => rfl); (case hr => first | (go_simp; done) | (go_simp; rfl)); intro g hg w3 hbox_ hb_; have BK := Aside0.mk hbox_; have Hg := Aside0.mk hg; have HB := Aside0.mk hb_; have q1 : w3.cell? ⟨g, 0, none⟩ = some (.int .i64 x) := (blk_cell hbox_ 0).trans rfl; have q2 : w3.cell? ⟨g, 1, none⟩ = some (.bool y) := (blk_cell hbox_ 1).trans rfl; have q3 : w3.cell? ⟨gv, 0, none⟩ = some (.slice A xs.length c) := (blk_cell (blk_below HB0.out hb_) 0).trans rfl; have HO3 := Aside0.mk (pw_own_below HO0.out hb_); have HBK3 := Aside0.mk (blk_below HB0.out hb_); have HK3 := Aside0.mk ((HK0.out).below hb_); clear hbox_ hb_ hg) | (at_builtin; refine print_append_cells (w0 := w3) w0.heap.size rfl (.tmp 3) (.tmp 5) 145 98 (.agg #[.int .i64 0, .bool false]) 2 16 rfl Tryz.underlying145 info98 rfl (by omega) (by omega) (.slice A xs.length c) xs.length (lagCells xs) [.int .i64 x, .bool y] rfl rfl rfl (by intro u hu; simp at hu; rcases hu with rfl | rfl <;> rfl) HO3.out (Below.refl _ _) HK3.out.1 (by omega) ?_; intro v1 w6 hown hbel hgr hat; obtain ⟨A2, c2, rfl⟩ := own_slice hown; have HO6 := Aside0.mk hown; have HBK6 : Aside0 (w6.heap[gv]? = some (.cells #[.slice A xs.length c] 145 (0, 0))) := ⟨(hbel.block gv HG0.out).trans HBK3.out⟩; have HGR := Aside0.mk hgr; have q6 : w6.cell? ⟨gv, 0, none⟩ = some (.slice A xs.length c) := (blk_cell HBK6.out 0).trans rfl; have q7 : w6.frozen? ⟨gv, 0, none⟩ = false := blk_frozen HBK6.out 0; clear hown hbel hgr hat q0 q1 q2 q3))
  have hr : ∀ k, (Value.slice A xs.length c).ownBlock = some k → w0.heap.size ≤ k := own_base HO3.out
  have hne : some gv ≠ (Value.slice A2 (xs.length + 1) c2).ownBlock := fun e => by
    have := own_base HO6.out gv e.symm
    have := HG0.out
    omega
  have hlen : (xs ++ [(x, y)]).length = xs.length + 1 := by simp
  have hgv := HG0.out
  have h3 : Below gv w0 w3 := below_then HL0.out (by have := HK0.out.1; omega) HB.out
  have R : GatI gv w0 (xs ++ [(x, y)]) (w6.setCell ⟨gv, 0, none⟩ (.slice A2 (xs.length + 1) c2)) := by
    refine ⟨⟨A2, c2, ?_, ?_⟩, ?_, ?_, HG0.out⟩
    · rw [hlen]; exact (blk_set HBK6.out 0 _).trans rfl
    · rw [hlen, lagCells_snoc]; exact own_setCell HO6.out hne _
    · exact (Kept.of_grown HGR.out HK3.out (fun k hk => .inr (hr k hk))).setCell (.inl rfl) _
    · exact (h3.grown HGR.out (by have := HK3.out.1; omega) (fun k hk => by have := hr k hk; omega)).setCell (Nat.le_refl _) _
  go_end0
  exact ⟨rfl, R⟩
theorem enter161 : CanEnter 161 := Go.Proofs.enters_of Tryz.func161 (by kernel_rfl) rfl
theorem gather_do (gv : Nat) : LagDo 161 #[.pointer (some ⟨gv, 0, none⟩)] gv (GatI gv) where
  step := fun w0 xs x y W hl hi => gather_calls gv w0 xs x y W hl hi
  below := fun w0 xs W W' ⟨⟨A, c, hb, ho⟩, hk, hbel, hgv⟩ hw => ⟨⟨A, c, blk_below hb hw, pw_own_below ho hw⟩, hk.below hw, below_then hbel (by have := hk.1; omega) hw, hgv⟩
  kept := fun w0 xs W h => h.2.1
  base := fun w0 xs W h => h.2.2.1
set_option maxHeartbeats 2000000 in
set_option maxRecDepth 100000 in
theorem other_calls (i : Int) (bb bg : Nat) (r : Ros) (gate : Int) (w : World) (hb : BoxAt w bb r) (hg : w.heap[bg]? = some (.cells #[.int .i64 gate] 3 (0, 0))) (i0 : 0 ≤ i) (i1 : i < r.turns.length) :
    Calls Tryz.prog 160 #[.int .i64 i, .pointer (some ⟨bb, 0, none⟩), .pointer (some ⟨bg, 0, none⟩)] w fun e w' => e = .returned (.bool ((tn r i).gate != gate)) ∧ Below w.heap.size w w' := by
  obtain ⟨A, c, T, d, h1, h2⟩ := hb.ex
  obtain ⟨q0, q1, q2, q3, q4⟩ := rosC_cells h1
  have q5 : w.cell? ⟨bg, 0, none⟩ = some (.int .i64 gate) := (blk_cell hg 0).trans rfl
  have H2 := Aside0.mk h2
  obtain ⟨A', c', T', d', e, h21, h22, h23, h24⟩ := h2
  cases e
  obtain ⟨ad, hAd, g0, _⟩ := CT_at h24 i i0 i1
  cases hAd
  change w.cell? _ = some (.int .i64 (tn r i).gate) at g0
  clear h1 h23 h24 hb hg
  generalize tn r i = t at *
  go_enter Tryz.func160, Tryz.ntmps160
  go_wp2
  go_still_tail 8, (by kernel_rfl)
  change wpList _ _ _ _ _ w.drew
  go_wp2
  go_ret
  exact ⟨rfl, below_drew (Below.refl _ _)⟩
theorem enter160 : CanEnter 160 := Go.Proofs.enters_of Tryz.func160 (by kernel_rfl) rfl
theorem other_pred {bb bg : Nat} {r : Ros} {gate : Int} {w : World} (hb : BoxAt w bb r) (hg : w.heap[bg]? = some (.cells #[.int .i64 gate] 3 (0, 0))) : PredIn 160 #[.pointer (some ⟨bb, 0, none⟩), .pointer (some ⟨bg, 0, none⟩)] (fun i => (tn r i).gate != gate) (fun x => 0 ≤ x ∧ x < r.turns.length) w :=
  fun W x hx hW => other_calls x bb bg r gate W (hb.below hW) (blk_below hg hW) hx.1 hx.2
end Go.Proofs.YtflolfbkpjgjaaaGreatDoor
end
section
namespace Go.Proofs.YtflolfbkpjgjaaaGreatDoor
open Go.RowKit Go.Proofs.YtflolfbkpjgjaaaGreatDoorW.PrintWords
open Go.Proofs.YtflolfbkpjgjaaaGreatDoorW.PrintMore
theorem diffB_iff (l : List Int) : diffB l = true ↔ l.Nodup := by
  unfold diffB diffN
  rw [List.all_eq_true, List.Nodup, List.pairwise_iff_getElem]
  constructor
  · intro h i j hi hj hij e
    have hm := h j (List.mem_range.2 hj)
    rw [Bool.not_eq_true', List.any_eq_false] at hm
    have hmem : l[i] ∈ l.take j := by
      rw [List.mem_take_iff_getElem]
      exact ⟨i, by omega, rfl⟩
    refine hm _ hmem ?_
    rw [List.getD_eq_getElem?_getD, List.getElem?_eq_getElem hj]
    simp [e]
  · intro h j hj
    have hj := List.mem_range.1 hj
    rw [Bool.not_eq_true', List.any_eq_false]
    intro x hx hxe
    rw [List.mem_take_iff_getElem] at hx
    obtain ⟨i, hi, rfl⟩ := hx
    rw [List.getD_eq_getElem?_getD, List.getElem?_eq_getElem hj] at hxe
    exact h i j (by omega) hj (by omega) (by simpa using hxe : l[j] = l[i]).symm
theorem outB_all {r : Ros} {l : List Int} (h : l.any (outB r) = false) : ∀ x ∈ l, 0 ≤ x ∧ x < r.turns.length := fun x hx => by
  rw [List.any_eq_false] at h
  exact (outB_iff r x).1 (by simpa using h x hx)
theorem cast_nats {n : Nat} : ∀ {l : List Int}, (∀ x ∈ l, 0 ≤ x ∧ x < n) → ∃ p : List Nat, l = p.map (fun i : Nat => (i : Int)) ∧ ∀ x ∈ p, x < n
  | [], _ => ⟨[], rfl, by simp⟩
  | x :: l, h => by
    obtain ⟨p, rfl, hp⟩ := cast_nats (l := l) (fun y hy => h y (List.mem_cons_of_mem _ hy))
    have hx := h x (List.mem_cons_self ..)
    refine ⟨x.toNat :: p, ?_, ?_⟩
    · rw [List.map_cons, Int.toNat_of_nonneg hx.1]
    · intro y hy
      rcases List.mem_cons.1 hy with rfl | hy
      · omega
      · exact hp y hy
theorem nodup_cast {p : List Nat} : (p.map (fun i : Nat => (i : Int))).Nodup ↔ p.Nodup := by
  unfold List.Nodup
  rw [List.pairwise_map]
  constructor
  · exact fun h => h.imp (fun hab e => hab (by rw [e]))
  · exact fun h => h.imp (fun hab e => hab (by omega))
theorem diff_len {n : Nat} {l : List Int} (hd : diffB l = true) (hin : ∀ x ∈ l, 0 ≤ x ∧ x < n) : l.length ≤ n := by
  obtain ⟨p, rfl, hp⟩ := cast_nats hin
  rw [List.length_map]
  exact nodup_len n p (nodup_cast.1 ((diffB_iff _).1 hd)) hp
theorem containsL_calls (lv : Value) (xs : List Int) (g : Nat) (lb : Array Value) (p : Int → Bool) (w : World) (eg : CanEnter g) (h : IntsAt w lv xs) (hp : PredIn g lb p (fun x => x ∈ xs) w) :
    Calls Tryz.prog 43 #[lv, .func (.func g) #[] lb] w fun e w' => e = .returned (.bool (xs.any p)) ∧ Below w.heap.size w w' := by
  obtain ⟨A, c, rfl, h1, h2⟩ := h
  exact containsFunc_calls A c xs g lb p w eg h2 hp h2.2.1
theorem gather_lags (v lv : Value) (r : Ros) (l : List Int) (w W : World) (gv : Nat) (V : Valid r) (hv : RosAt w v r) (hl : IntsAt w lv l) (hin : ∀ x ∈ l, 0 ≤ x ∧ x < r.turns.length) (hne : 0 < l.length) (hlen : l.length ≤ 900)
    (hpw : Below w.heap.size w W) (hgv : w.heap.size ≤ gv) (hb : W.heap[gv]? = some (.cells #[.slice none 0 0] 145 (0, 0))) :
    Calls Tryz.prog 131 #[v, lv, .func (.func 161) #[] #[.pointer (some ⟨gv, 0, none⟩)]] W fun e w' => e = .returned (.tuple #[]) ∧ (∃ A c, w'.heap[gv]? = some (.cells #[.slice A (lagsL r l).length c] 145 (0, 0)) ∧ CL w' A (lagsL r l).length (lagsL r l)) ∧ Below w.heap.size w w' := by
  refine (lags_calls v lv r l 161 #[.pointer (some ⟨gv, 0, none⟩)] gv (GatI gv) w W V hv hl hin hne hlen enter161 (gather_do gv) hpw hgv (blk_lt hb) ?_).mono ?_
  · intro w0 h0
    have h0b := blk_below hb h0
    exact ⟨⟨none, 0, h0b, own_nil _ _ _ _⟩, Kept.refl _ _, Below.refl _ _, blk_lt h0b⟩
  · rintro e w' ⟨he, w0, hw0, ⟨A, c, hb', ho⟩, _, hB, _⟩
    obtain ⟨A', c', e', hr⟩ := lags_reads ho
    cases e'
    exact ⟨he, ⟨A, c, hb', hr⟩, below_weaken (below_step hpw hw0) hgv hB⟩
theorem lagsL_len (r : Ros) (l : List Int) : (lagsL r l).length = l.length - 1 + 2 := by simp [lagsL, lagsN_len]
def planB (r : Ros) (gate : Int) (l : List Int) : Bool := !((l.length : Int) == 0) && (diffB l && (!(l.any (outB r)) && (!(l.any fun i => (tn r i).gate != gate) && (lagsL r l).all fun x => decide (x.1 ≤ 0))))
theorem turnsE_of {r : Ros} (V : Valid r) (l : List Int) : turnsE r l = if l.any (outB r) then 1 else 0 := by unfold turnsE; rw [checkE_valid V]; rfl
set_option maxHeartbeats 4000000 in
set_option maxRecDepth 100000 in
theorem isPlan_calls (v lv : Value) (r : Ros) (gate : Int) (l : List Int) (w : World) (V : Valid r) (hv : RosAt w v r) (hl : IntsAt w lv l) :
    Calls Tryz.prog 122 #[v, .int .i64 gate, lv] w fun e w' => e = .returned (.bool (planB r gate l)) ∧ Below w.heap.size w w' := by
  have hR := Aside0.mk hv
  obtain ⟨A, c, T, d, rfl, h1, h2, h3, h4⟩ := hv
  clear h3 h4
  have h24 := V.turns
  have HV := Aside0.mk V
  have hL := Aside0.mk hl
  have hbig : l.length ≤ 9223372036854775807 := by obtain ⟨_, _, _, _, h⟩ := hl; exact h.2.1
  have hdiff := fun w (h : IntsAt w lv l) => different_calls lv l w h
  have hturns := fun w (h : RosAt w (.agg (rosC r A c T d)) r) (h2 : IntsAt w lv l) => turns_calls (.agg (rosC r A c T d)) lv r l w h h2
  rw [turnsE_of V] at hturns
  have hgate := fun (hin : ∀ x ∈ l, 0 ≤ x ∧ x < r.turns.length) w b bg (h : IntsAt w lv l) (h2 : BoxAt w b r) (h3 : w.heap[bg]? = some (.cells #[.int .i64 gate] 3 (0, 0))) => containsL_calls lv l 160 #[.pointer (some ⟨b, 0, none⟩), .pointer (some ⟨bg, 0, none⟩)] (fun i => (tn r i).gate != gate) w enter160 h ((other_pred h2 h3).mono hin)
  have hlags := fun (hin : ∀ x ∈ l, 0 ≤ x ∧ x < r.turns.length) (hne : 0 < l.length) (hlen : l.length ≤ 900) W gv hpw hgv hb => gather_lags (.agg (rosC r A c T d)) lv r l w W gv V hR.out hl hin hne hlen hpw hgv hb
  have hevery := fun (h1 : (lagsL r l).length ≤ 9223372036854775807) A c w (h : CL w A (lagsL r l).length (lagsL r l)) => every_calls A c (lagsL r l) w h h1
  have hin := fun h => outB_all (r := r) (l := l) h
  have hdl := fun h hin => diff_len (n := r.turns.length) (l := l) h hin
  have hll := lagsL_len r l
  clear V
  obtain ⟨A1, c1, rfl, hc1, hl1⟩ := hl
  clear hl1
  have hmf : ∀ (fn : Fn) (first cap : Array Value) (w : World), (Instr.makeFunc fn first cap).run Tryz.prog w = .ok (.func fn first cap) w := fun _ _ _ _ => rfl
  unfold planB
  generalize hb0 : ((l.length : Int) == 0) = b0 at *
  generalize hb1 : diffB l = b1 at *
  generalize hb2 : l.any (outB r) = b2 at *
  generalize hb3 : (l.any fun i => (tn r i).gate != gate) = b3 at *
  cases b0
  · have hne : 0 < l.length := by have := beq_eq_false_iff_ne.1 hb0; omega
    cases b1
    · clear hgate hlags hevery hin hdl
      go_enter Tryz.func122, Tryz.ntmps122
      go_wp2_with (first | ((with_reducible refine gate_dst (N := 3) rfl ?_); refine box_event ?hg (N := 3) ?hd (cs := rosC r A c T d) (t := 25) ?hr ?_; (case hd => rfl); (case hg => rfl); (case hr => first | (go_simp; done) | (go_simp; rfl)); intro g hg w3 hbox_ hb_; have BK := Aside0.mk hbox_; have Hg := Aside0.mk hg; have HB := Aside0.mk hb_; clear hbox_ hb_ hg) | ((with_reducible refine gate_dst (N := 4) rfl ?_); refine box_event ?hg (N := 4) ?hd (cs := #[.int .i64 gate]) (t := 3) ?hr ?_; (case hd => rfl); (case hg => rfl); (case hr => first | (go_simp; done) | (go_simp; rfl)); intro gg hgg w4 hbox_ hb_; have BKg := Aside0.mk hbox_; have Hgg := Aside0.mk hgg; have HB4 := Aside0.mk (below_step HB.out hb_); have BK4 := Aside0.mk (blk_below BK.out hb_); obtain ⟨q0, q1, q2, q3, q4⟩ := rosC_cells BK4.out; clear hbox_ hb_ hgg) | (go_at_call 90; refine (hdiff _ (IntsAt.below hL.out HB4.out)).mono ?_; rintro e w6 ⟨rfl, rfl⟩) | (go_at_call 89; refine (hturns _ (hR.out.below HB4.out) (IntsAt.below hL.out HB4.out)).mono ?_; rintro e w7 ⟨rfl, hb_⟩; have HB7 := Aside0.mk (below_step HB4.out hb_); have BK7 := Aside0.mk (blk_below BK4.out hb_); have BKg7 := Aside0.mk (blk_below BKg.out hb_); clear q0 q1 q2 q3 q4 hb_) | (go_at_call 43; refine (hgate _ g gg (IntsAt.below hL.out HB7.out) ⟨A, c, T, d, BK7.out, hR.out.below HB7.out⟩ BKg7.out).mono ?_; rintro e w8 ⟨rfl, hb_⟩; have HB8 := Aside0.mk (below_step HB7.out hb_); have BK8 := Aside0.mk (blk_below BK7.out hb_); obtain ⟨q0, q1, q2, q3, q4⟩ := rosC_cells BK8.out; have pq := blk_lt BK8.out; clear hb_) | (go_at_call 131; refine (hlags _ _ (below_alloc HB8.out _) HB8.out.size (alloc_at _ _)).mono ?_; rintro e w9 ⟨rfl, ⟨A9, c9, hb9, hl9⟩, hw9⟩; have HB9 := Aside0.mk hw9; have HL9 := Aside0.mk hl9; have q9 := (blk_cell hb9 0).trans rfl; clear q0 q1 q2 q3 q4 hb9 hl9 hw9) | (go_at_call 162; refine (hevery A9 c9 _ HL9.out).mono ?_; rintro e w10 ⟨rfl, hb_⟩; have HB10 := Aside0.mk (below_step HB9.out hb_); clear hb_))
      go_ret
      exact ⟨rfl, HB4.out⟩
    · cases b2
      · have hin := hin rfl
        have hdl := hdl rfl hin
        have hgate := hgate hin
        cases b3
        · have hlags := hlags hin hne (by omega)
          have hevery := hevery (by omega)
          have HIn := Aside0.mk hin
          clear hin hll
          generalize lagsL r l = ls at *
          generalize (ls.all fun x => decide (x.1 ≤ 0)) = b4 at *
          go_enter Tryz.func122, Tryz.ntmps122
          go_wp2_with (first | ((with_reducible refine gate_dst (N := 3) rfl ?_); refine box_event ?hg (N := 3) ?hd (cs := rosC r A c T d) (t := 25) ?hr ?_; (case hd => rfl); (case hg => rfl); (case hr => first | (go_simp; done) | (go_simp; rfl)); intro g hg w3 hbox_ hb_; have BK := Aside0.mk hbox_; have Hg := Aside0.mk hg; have HB := Aside0.mk hb_; clear hbox_ hb_ hg) | ((with_reducible refine gate_dst (N := 4) rfl ?_); refine box_event ?hg (N := 4) ?hd (cs := #[.int .i64 gate]) (t := 3) ?hr ?_; (case hd => rfl); (case hg => rfl); (case hr => first | (go_simp; done) | (go_simp; rfl)); intro gg hgg w4 hbox_ hb_; have BKg := Aside0.mk hbox_; have Hgg := Aside0.mk hgg; have HB4 := Aside0.mk (below_step HB.out hb_); have BK4 := Aside0.mk (blk_below BK.out hb_); obtain ⟨q0, q1, q2, q3, q4⟩ := rosC_cells BK4.out; clear hbox_ hb_ hgg) | (go_at_call 90; refine (hdiff _ (IntsAt.below hL.out HB4.out)).mono ?_; rintro e w6 ⟨rfl, rfl⟩) | (go_at_call 89; refine (hturns _ (hR.out.below HB4.out) (IntsAt.below hL.out HB4.out)).mono ?_; rintro e w7 ⟨rfl, hb_⟩; have HB7 := Aside0.mk (below_step HB4.out hb_); have BK7 := Aside0.mk (blk_below BK4.out hb_); have BKg7 := Aside0.mk (blk_below BKg.out hb_); clear q0 q1 q2 q3 q4 hb_) | (go_at_call 43; refine (hgate _ g gg (IntsAt.below hL.out HB7.out) ⟨A, c, T, d, BK7.out, hR.out.below HB7.out⟩ BKg7.out).mono ?_; rintro e w8 ⟨rfl, hb_⟩; have HB8 := Aside0.mk (below_step HB7.out hb_); have BK8 := Aside0.mk (blk_below BK7.out hb_); obtain ⟨q0, q1, q2, q3, q4⟩ := rosC_cells BK8.out; have pq := blk_lt BK8.out; clear hb_) | (go_at_call 131; refine (hlags _ _ (below_alloc HB8.out _) HB8.out.size (alloc_at _ _)).mono ?_; rintro e w9 ⟨rfl, ⟨A9, c9, hb9, hl9⟩, hw9⟩; have HB9 := Aside0.mk hw9; have HL9 := Aside0.mk hl9; have q9 := (blk_cell hb9 0).trans rfl; clear q0 q1 q2 q3 q4 hb9 hl9 hw9) | (go_at_call 162; refine (hevery A9 c9 _ HL9.out).mono ?_; rintro e w10 ⟨rfl, hb_⟩; have HB10 := Aside0.mk (below_step HB9.out hb_); clear hb_))
          go_ret
          exact ⟨rfl, HB10.out⟩
        · clear hlags hevery hin hdl
          go_enter Tryz.func122, Tryz.ntmps122
          go_wp2_with (first | ((with_reducible refine gate_dst (N := 3) rfl ?_); refine box_event ?hg (N := 3) ?hd (cs := rosC r A c T d) (t := 25) ?hr ?_; (case hd => rfl); (case hg => rfl); (case hr => first | (go_simp; done) | (go_simp; rfl)); intro g hg w3 hbox_ hb_; have BK := Aside0.mk hbox_; have Hg := Aside0.mk hg; have HB := Aside0.mk hb_; clear hbox_ hb_ hg) | ((with_reducible refine gate_dst (N := 4) rfl ?_); refine box_event ?hg (N := 4) ?hd (cs := #[.int .i64 gate]) (t := 3) ?hr ?_; (case hd => rfl); (case hg => rfl); (case hr => first | (go_simp; done) | (go_simp; rfl)); intro gg hgg w4 hbox_ hb_; have BKg := Aside0.mk hbox_; have Hgg := Aside0.mk hgg; have HB4 := Aside0.mk (below_step HB.out hb_); have BK4 := Aside0.mk (blk_below BK.out hb_); obtain ⟨q0, q1, q2, q3, q4⟩ := rosC_cells BK4.out; clear hbox_ hb_ hgg) | (go_at_call 90; refine (hdiff _ (IntsAt.below hL.out HB4.out)).mono ?_; rintro e w6 ⟨rfl, rfl⟩) | (go_at_call 89; refine (hturns _ (hR.out.below HB4.out) (IntsAt.below hL.out HB4.out)).mono ?_; rintro e w7 ⟨rfl, hb_⟩; have HB7 := Aside0.mk (below_step HB4.out hb_); have BK7 := Aside0.mk (blk_below BK4.out hb_); have BKg7 := Aside0.mk (blk_below BKg.out hb_); clear q0 q1 q2 q3 q4 hb_) | (go_at_call 43; refine (hgate _ g gg (IntsAt.below hL.out HB7.out) ⟨A, c, T, d, BK7.out, hR.out.below HB7.out⟩ BKg7.out).mono ?_; rintro e w8 ⟨rfl, hb_⟩; have HB8 := Aside0.mk (below_step HB7.out hb_); have BK8 := Aside0.mk (blk_below BK7.out hb_); obtain ⟨q0, q1, q2, q3, q4⟩ := rosC_cells BK8.out; have pq := blk_lt BK8.out; clear hb_) | (go_at_call 131; refine (hlags _ _ (below_alloc HB8.out _) HB8.out.size (alloc_at _ _)).mono ?_; rintro e w9 ⟨rfl, ⟨A9, c9, hb9, hl9⟩, hw9⟩; have HB9 := Aside0.mk hw9; have HL9 := Aside0.mk hl9; have q9 := (blk_cell hb9 0).trans rfl; clear q0 q1 q2 q3 q4 hb9 hl9 hw9) | (go_at_call 162; refine (hevery A9 c9 _ HL9.out).mono ?_; rintro e w10 ⟨rfl, hb_⟩; have HB10 := Aside0.mk (below_step HB9.out hb_); clear hb_))
          go_ret
          exact ⟨rfl, HB8.out⟩
      · clear hgate hlags hevery hin hdl
        go_enter Tryz.func122, Tryz.ntmps122
        go_wp2_with (first | ((with_reducible refine gate_dst (N := 3) rfl ?_); refine box_event ?hg (N := 3) ?hd (cs := rosC r A c T d) (t := 25) ?hr ?_; (case hd => rfl); (case hg => rfl); (case hr => first | (go_simp; done) | (go_simp; rfl)); intro g hg w3 hbox_ hb_; have BK := Aside0.mk hbox_; have Hg := Aside0.mk hg; have HB := Aside0.mk hb_; clear hbox_ hb_ hg) | ((with_reducible refine gate_dst (N := 4) rfl ?_); refine box_event ?hg (N := 4) ?hd (cs := #[.int .i64 gate]) (t := 3) ?hr ?_; (case hd => rfl); (case hg => rfl); (case hr => first | (go_simp; done) | (go_simp; rfl)); intro gg hgg w4 hbox_ hb_; have BKg := Aside0.mk hbox_; have Hgg := Aside0.mk hgg; have HB4 := Aside0.mk (below_step HB.out hb_); have BK4 := Aside0.mk (blk_below BK.out hb_); obtain ⟨q0, q1, q2, q3, q4⟩ := rosC_cells BK4.out; clear hbox_ hb_ hgg) | (go_at_call 90; refine (hdiff _ (IntsAt.below hL.out HB4.out)).mono ?_; rintro e w6 ⟨rfl, rfl⟩) | (go_at_call 89; refine (hturns _ (hR.out.below HB4.out) (IntsAt.below hL.out HB4.out)).mono ?_; rintro e w7 ⟨rfl, hb_⟩; have HB7 := Aside0.mk (below_step HB4.out hb_); have BK7 := Aside0.mk (blk_below BK4.out hb_); have BKg7 := Aside0.mk (blk_below BKg.out hb_); clear q0 q1 q2 q3 q4 hb_) | (go_at_call 43; refine (hgate _ g gg (IntsAt.below hL.out HB7.out) ⟨A, c, T, d, BK7.out, hR.out.below HB7.out⟩ BKg7.out).mono ?_; rintro e w8 ⟨rfl, hb_⟩; have HB8 := Aside0.mk (below_step HB7.out hb_); have BK8 := Aside0.mk (blk_below BK7.out hb_); obtain ⟨q0, q1, q2, q3, q4⟩ := rosC_cells BK8.out; have pq := blk_lt BK8.out; clear hb_) | (go_at_call 131; refine (hlags _ _ (below_alloc HB8.out _) HB8.out.size (alloc_at _ _)).mono ?_; rintro e w9 ⟨rfl, ⟨A9, c9, hb9, hl9⟩, hw9⟩; have HB9 := Aside0.mk hw9; have HL9 := Aside0.mk hl9; have q9 := (blk_cell hb9 0).trans rfl; clear q0 q1 q2 q3 q4 hb9 hl9 hw9) | (go_at_call 162; refine (hevery A9 c9 _ HL9.out).mono ?_; rintro e w10 ⟨rfl, hb_⟩; have HB10 := Aside0.mk (below_step HB9.out hb_); clear hb_))
        go_ret
        exact ⟨rfl, HB7.out⟩
  · clear hdiff hturns hgate hlags hevery hin hdl
    go_enter Tryz.func122, Tryz.ntmps122
    go_wp2_with (first | ((with_reducible refine gate_dst (N := 3) rfl ?_); refine box_event ?hg (N := 3) ?hd (cs := rosC r A c T d) (t := 25) ?hr ?_; (case hd => rfl); (case hg => rfl); (case hr => first | (go_simp; done) | (go_simp; rfl)); intro g hg w3 hbox_ hb_; have BK := Aside0.mk hbox_; have Hg := Aside0.mk hg; have HB := Aside0.mk hb_; clear hbox_ hb_ hg) | ((with_reducible refine gate_dst (N := 4) rfl ?_); refine box_event ?hg (N := 4) ?hd (cs := #[.int .i64 gate]) (t := 3) ?hr ?_; (case hd => rfl); (case hg => rfl); (case hr => first | (go_simp; done) | (go_simp; rfl)); intro gg hgg w4 hbox_ hb_; have BKg := Aside0.mk hbox_; have Hgg := Aside0.mk hgg; have HB4 := Aside0.mk (below_step HB.out hb_); have BK4 := Aside0.mk (blk_below BK.out hb_); obtain ⟨q0, q1, q2, q3, q4⟩ := rosC_cells BK4.out; clear hbox_ hb_ hgg) | (go_at_call 90; refine (hdiff _ (IntsAt.below hL.out HB4.out)).mono ?_; rintro e w6 ⟨rfl, rfl⟩) | (go_at_call 89; refine (hturns _ (hR.out.below HB4.out) (IntsAt.below hL.out HB4.out)).mono ?_; rintro e w7 ⟨rfl, hb_⟩; have HB7 := Aside0.mk (below_step HB4.out hb_); have BK7 := Aside0.mk (blk_below BK4.out hb_); have BKg7 := Aside0.mk (blk_below BKg.out hb_); clear q0 q1 q2 q3 q4 hb_) | (go_at_call 43; refine (hgate _ g gg (IntsAt.below hL.out HB7.out) ⟨A, c, T, d, BK7.out, hR.out.below HB7.out⟩ BKg7.out).mono ?_; rintro e w8 ⟨rfl, hb_⟩; have HB8 := Aside0.mk (below_step HB7.out hb_); have BK8 := Aside0.mk (blk_below BK7.out hb_); obtain ⟨q0, q1, q2, q3, q4⟩ := rosC_cells BK8.out; have pq := blk_lt BK8.out; clear hb_) | (go_at_call 131; refine (hlags _ _ (below_alloc HB8.out _) HB8.out.size (alloc_at _ _)).mono ?_; rintro e w9 ⟨rfl, ⟨A9, c9, hb9, hl9⟩, hw9⟩; have HB9 := Aside0.mk hw9; have HL9 := Aside0.mk hl9; have q9 := (blk_cell hb9 0).trans rfl; clear q0 q1 q2 q3 q4 hb9 hl9 hw9) | (go_at_call 162; refine (hevery A9 c9 _ HL9.out).mono ?_; rintro e w10 ⟨rfl, hb_⟩; have HB10 := Aside0.mk (below_step HB9.out hb_); clear hb_))
    go_ret
    exact ⟨rfl, HB4.out⟩
end Go.Proofs.YtflolfbkpjgjaaaGreatDoor
end
section
namespace Go.Proofs.YtflolfbkpjgjaaaGreatDoor
open Go.RowKit Go.Proofs.YtflolfbkpjgjaaaGreatDoorW.PrintWords
open Go.Proofs.YtflolfbkpjgjaaaGreatDoorW.PrintMore
def checkPlanE (r : Ros) (gate : Int) (l : List Int) : Int := if gatedE r gate != 0 then gatedE r gate else if planB r gate l then 0 else 71
set_option maxHeartbeats 2000000 in
set_option maxRecDepth 100000 in
theorem checkPlan_calls (v lv : Value) (r : Ros) (gate : Int) (l : List Int) (w : World) (hv : RosAt w v r) (hl : IntsAt w lv l) :
    Calls Tryz.prog 36 #[v, .int .i64 gate, lv] w fun e w' => e = .returned (.int .i64 (checkPlanE r gate l)) ∧ Below w.heap.size w w' := by
  have hR := Aside0.mk hv
  obtain ⟨A, c, T, d, rfl, h1, h2, h3, h4⟩ := hv
  clear h3 h4
  have hL := Aside0.mk hl
  unfold checkPlanE
  have hgat := fun w (h : RosAt w (.agg (rosC r A c T d)) r) => gated_calls (.agg (rosC r A c T d)) r gate w h
  have hplan := fun (V : Valid r) w (h : RosAt w (.agg (rosC r A c T d)) r) (h2 : IntsAt w lv l) => isPlan_calls (.agg (rosC r A c T d)) lv r gate l w V h h2
  have hz := fun h => gatedE_zero (r := r) (gate := gate) h
  generalize hge : gatedE r gate = ge at *
  cases hc : (ge != 0)
  · have e0 : ge = 0 := by simpa using hc
    subst e0
    have hplan := hplan (hz rfl).1
    clear hz hc
    generalize planB r gate l = b0 at *
    cases b0
    all_goals
      go_enter Tryz.func36, Tryz.ntmps36
      go_wp2_with (first | ((with_reducible refine gate_dst (N := 3) rfl ?_); refine box_event ?hg (N := 3) ?hd (cs := rosC r A c T d) (t := 25) ?hr ?_; (case hd => rfl); (case hg => rfl); (case hr => first | (go_simp; done) | (go_simp; rfl)); intro g hg w3 hbox_ hb_; have BK := Aside0.mk hbox_; have Hg := Aside0.mk hg; have HB := Aside0.mk hb_; obtain ⟨q0, q1, q2, q3, q4⟩ := rosC_cells hbox_; clear hbox_ hb_ hg) | (go_at_call 77; refine (hgat _ (hR.out.below HB.out)).mono ?_; rintro e w4 ⟨rfl, hb_⟩; have HB4 := Aside0.mk (below_step HB.out hb_); have BK4 := Aside0.mk (blk_below BK.out hb_); clear q0 q1 q2 q3 q4; obtain ⟨q0, q1, q2, q3, q4⟩ := rosC_cells BK4.out; clear hb_) | (go_at_call 122; refine (hplan _ (hR.out.below HB4.out) (IntsAt.below hL.out HB4.out)).mono ?_; rintro e w5 ⟨rfl, hb_⟩; have HB5 := Aside0.mk (below_step HB4.out hb_); have BK5 := Aside0.mk (blk_below BK4.out hb_); clear q0 q1 q2 q3 q4; obtain ⟨q0, q1, q2, q3, q4⟩ := rosC_cells BK5.out; have pq := blk_lt BK5.out; clear hb_))
      go_ret
      exact ⟨rfl, HB5.out⟩
  · clear hplan
    go_enter Tryz.func36, Tryz.ntmps36
    go_wp2_with (first | ((with_reducible refine gate_dst (N := 3) rfl ?_); refine box_event ?hg (N := 3) ?hd (cs := rosC r A c T d) (t := 25) ?hr ?_; (case hd => rfl); (case hg => rfl); (case hr => first | (go_simp; done) | (go_simp; rfl)); intro g hg w3 hbox_ hb_; have BK := Aside0.mk hbox_; have Hg := Aside0.mk hg; have HB := Aside0.mk hb_; obtain ⟨q0, q1, q2, q3, q4⟩ := rosC_cells hbox_; clear hbox_ hb_ hg) | (go_at_call 77; refine (hgat _ (hR.out.below HB.out)).mono ?_; rintro e w4 ⟨rfl, hb_⟩; have HB4 := Aside0.mk (below_step HB.out hb_); have BK4 := Aside0.mk (blk_below BK.out hb_); clear q0 q1 q2 q3 q4; obtain ⟨q0, q1, q2, q3, q4⟩ := rosC_cells BK4.out; clear hb_))
    go_ret
    exact ⟨rfl, HB4.out⟩
def spareF (m : Int) (x : Lag) : Int := if x.2 then m else min m (wrap64 (-x.1))
def spareN (xs : List Lag) : Int := xs.foldl spareF 1048576
def SpaI (gv : Nat) (w0 : World) (xs : List Lag) (W : World) : Prop :=
  W.heap[gv]? = some (.cells #[.int .i64 (spareN xs)] 3 (0, 0)) ∧ Kept w0 W (fun k => k = gv) ∧ Below gv w0 W ∧ gv < w0.heap.size
set_option maxHeartbeats 2000000 in
set_option maxRecDepth 100000 in
theorem spare1_calls (gv : Nat) (w0 : World) (xs : List Lag) (x : Int) (y : Bool) (W : World) (hi : SpaI gv w0 xs W) :
    Calls Tryz.prog 132 #[.agg #[.int .i64 x, .bool y], .pointer (some ⟨gv, 0, none⟩)] W fun e w' => e = .returned (.tuple #[]) ∧ SpaI gv w0 (xs ++ [(x, y)]) w' := by
  obtain ⟨hb, hk, hbel, hgv⟩ := hi
  have HB0 := Aside0.mk hb
  have HK0 := Aside0.mk hk
  have HL0 := Aside0.mk hbel
  have HG0 := Aside0.mk hgv
  have HN : Aside0 (spareN (xs ++ [(x, y)]) = spareF (spareN xs) (x, y)) := ⟨by unfold spareN; rw [List.foldl_append]; rfl⟩
  clear hb hk hbel hgv
  generalize hm : spareN xs = m at *
  clear hm
  have hR0 : ∀ w3, w3.heap[gv]? = some (.cells #[.int .i64 m] 3 (0, 0)) → Kept w0 w3 (fun k => k = gv) → Below W.heap.size W w3 → SpaI gv w0 (xs ++ [(x, y)]) (w3.setCell ⟨gv, 0, none⟩ (.int .i64 (spareF m (x, y)))) := fun w3 hb3 hk3 hbl => by
    refine ⟨?_, hk3.setCell (.inl rfl) _, (below_then HL0.out (by have := HK0.out.1; have := HG0.out; omega) hbl).setCell (Nat.le_refl _) _, HG0.out⟩
    rw [HN.out]
    exact (blk_set hb3 0 _).trans rfl
  have hR1 : spareF m (x, y) = m → ∀ w3, w3.heap[gv]? = some (.cells #[.int .i64 m] 3 (0, 0)) → Kept w0 w3 (fun k => k = gv) → Below W.heap.size W w3 → SpaI gv w0 (xs ++ [(x, y)]) w3 := fun he w3 hb3 hk3 hbl =>
    ⟨by rw [HN.out, he]; exact hb3, hk3, below_then HL0.out (by have := HK0.out.1; have := HG0.out; omega) hbl, HG0.out⟩
  have HR0 := Aside0.mk hR0
  have HR1 := Aside0.mk hR1
  clear hR0 hR1
  cases y
  · go_enter Tryz.func132, Tryz.ntmps132
    go_wp2_with (first | ((with_reducible refine gate_dst (N := 2) rfl ?_); refine box_event ?hg (N := 2) ?hd (cs := #[.int .i64 x, .bool false]) (t := 98) ?hr ?_; (case hd => rfl); (case hg => rfl); (case hr => first | (go_simp; done) | (go_simp; rfl)); intro g hg w3 hbox_ hb_; have BK := Aside0.mk hbox_; have Hg := Aside0.mk hg; have HB := Aside0.mk hb_; have q1 : w3.cell? ⟨g, 0, none⟩ = some (.int .i64 x) := (blk_cell hbox_ 0).trans rfl; have q2 : w3.cell? ⟨g, 1, none⟩ = some (.bool false) := (blk_cell hbox_ 1).trans rfl; have q3 : w3.cell? ⟨gv, 0, none⟩ = some (.int .i64 m) := (blk_cell (blk_below HB0.out hb_) 0).trans rfl; have q4 : w3.frozen? ⟨gv, 0, none⟩ = false := blk_frozen (blk_below HB0.out hb_) 0; have HBK3 := Aside0.mk (blk_below HB0.out hb_); have HK3 := Aside0.mk ((HK0.out).below hb_); clear hbox_ hb_ hg))
    all_goals
      go_end0
      refine ⟨rfl, ?_⟩
    · have := HR0.out _ HBK3.out HK3.out HB.out; rwa [show spareF m (x, false) = wrap64 (-x) by unfold spareF; simp; omega] at this
    · have := HR0.out _ HBK3.out HK3.out HB.out; rwa [show spareF m (x, false) = m by unfold spareF; simp; omega] at this
  · go_enter Tryz.func132, Tryz.ntmps132
    go_wp2_with (first | ((with_reducible refine gate_dst (N := 2) rfl ?_); refine box_event ?hg (N := 2) ?hd (cs := #[.int .i64 x, .bool true]) (t := 98) ?hr ?_; (case hd => rfl); (case hg => rfl); (case hr => first | (go_simp; done) | (go_simp; rfl)); intro g hg w3 hbox_ hb_; have BK := Aside0.mk hbox_; have Hg := Aside0.mk hg; have HB := Aside0.mk hb_; have q1 : w3.cell? ⟨g, 0, none⟩ = some (.int .i64 x) := (blk_cell hbox_ 0).trans rfl; have q2 : w3.cell? ⟨g, 1, none⟩ = some (.bool true) := (blk_cell hbox_ 1).trans rfl; have q3 : w3.cell? ⟨gv, 0, none⟩ = some (.int .i64 m) := (blk_cell (blk_below HB0.out hb_) 0).trans rfl; have q4 : w3.frozen? ⟨gv, 0, none⟩ = false := blk_frozen (blk_below HB0.out hb_) 0; have HBK3 := Aside0.mk (blk_below HB0.out hb_); have HK3 := Aside0.mk ((HK0.out).below hb_); clear hbox_ hb_ hg))
    go_end0
    exact ⟨rfl, HR1.out rfl _ HBK3.out HK3.out HB.out⟩
theorem enter132 : CanEnter 132 := Go.Proofs.enters_of Tryz.func132 (by kernel_rfl) rfl
theorem spare_do (gv : Nat) : LagDo 132 #[.pointer (some ⟨gv, 0, none⟩)] gv (SpaI gv) where
  step := fun w0 xs x y W hl hi => spare1_calls gv w0 xs x y W hi
  below := fun w0 xs W W' ⟨hb, hk, hbel, hgv⟩ hw => ⟨blk_below hb hw, hk.below hw, below_then hbel (by have := hk.1; omega) hw, hgv⟩
  kept := fun w0 xs W h => h.2.1
  base := fun w0 xs W h => h.2.2.1
theorem spare_lags (v lv : Value) (r : Ros) (l : List Int) (w W : World) (gv : Nat) (V : Valid r) (hv : RosAt w v r) (hl : IntsAt w lv l) (hin : ∀ x ∈ l, 0 ≤ x ∧ x < r.turns.length) (hne : 0 < l.length) (hlen : l.length ≤ 900)
    (hpw : Below w.heap.size w W) (hgv : w.heap.size ≤ gv) (hb : W.heap[gv]? = some (.cells #[.int .i64 1048576] 3 (0, 0))) :
    Calls Tryz.prog 131 #[v, lv, .func (.func 132) #[] #[.pointer (some ⟨gv, 0, none⟩)]] W fun e w' => e = .returned (.tuple #[]) ∧ w'.heap[gv]? = some (.cells #[.int .i64 (spareN (lagsL r l))] 3 (0, 0)) ∧ Below w.heap.size w w' := by
  refine (lags_calls v lv r l 132 #[.pointer (some ⟨gv, 0, none⟩)] gv (SpaI gv) w W V hv hl hin hne hlen enter132 (spare_do gv) hpw hgv (blk_lt hb) ?_).mono ?_
  · intro w0 h0
    have h0b := blk_below hb h0
    exact ⟨h0b, Kept.refl _ _, Below.refl _ _, blk_lt h0b⟩
  · rintro e w' ⟨he, w0, hw0, hb', _, hB, _⟩
    exact ⟨he, hb', below_weaken (below_step hpw hw0) hgv hB⟩
theorem planB_ok {r : Ros} (V : Valid r) {gate : Int} {l : List Int} (h : planB r gate l = true) : (∀ x ∈ l, 0 ≤ x ∧ x < r.turns.length) ∧ 0 < l.length ∧ l.length ≤ 900 := by
  unfold planB at h
  simp only [Bool.and_eq_true, Bool.not_eq_true', beq_eq_false_iff_ne] at h
  obtain ⟨h0, h1, h2, -⟩ := h
  have hin := outB_all h2
  have := diff_len h1 hin
  have := V.turns
  exact ⟨hin, by omega, by omega⟩
def spareV (r : Ros) (gate : Int) (l : List Int) : Int := if gatedE r gate != 0 then 0 else if planB r gate l then spareN (lagsL r l) else 0
set_option maxHeartbeats 2000000 in
set_option maxRecDepth 100000 in
theorem spare_calls (v lv : Value) (r : Ros) (gate : Int) (l : List Int) (w : World) (hv : RosAt w v r) (hl : IntsAt w lv l) :
    Calls Tryz.prog 58 #[v, .int .i64 gate, lv] w fun e w' => e = .returned (.tuple #[.int .i64 (spareV r gate l), .int .i64 (checkPlanE r gate l)]) ∧ Below w.heap.size w w' := by
  have hR := Aside0.mk hv
  obtain ⟨A, c, T, d, rfl, h1, h2, h3, h4⟩ := hv
  clear h3 h4
  have hL := Aside0.mk hl
  unfold checkPlanE spareV
  have hgat := fun w (h : RosAt w (.agg (rosC r A c T d)) r) => gated_calls (.agg (rosC r A c T d)) r gate w h
  have hplan := fun (V : Valid r) w (h : RosAt w (.agg (rosC r A c T d)) r) (h2 : IntsAt w lv l) => isPlan_calls (.agg (rosC r A c T d)) lv r gate l w V h h2
  have hz := fun h => gatedE_zero (r := r) (gate := gate) h
  have hlags := fun (V : Valid r) (hp : planB r gate l = true) W gv hpw hgv hb => spare_lags (.agg (rosC r A c T d)) lv r l w W gv V hR.out hl (planB_ok V hp).1 (planB_ok V hp).2.1 (planB_ok V hp).2.2 hpw hgv hb
  generalize hge : gatedE r gate = ge at *
  cases hc : (ge != 0)
  · have e0 : ge = 0 := by simpa using hc
    subst e0
    have HV := (hz rfl).1
    have hplan := hplan HV
    have hlags := hlags HV
    clear hz hc HV
    generalize hbb : planB r gate l = b0 at *
    clear hbb
    cases b0
    · clear hlags
      go_enter Tryz.func58, Tryz.ntmps58
      go_wp2_with (first | ((with_reducible refine gate_dst (N := 3) rfl ?_); refine box_event ?hg (N := 3) ?hd (cs := rosC r A c T d) (t := 25) ?hr ?_; (case hd => rfl); (case hg => rfl); (case hr => first | (go_simp; done) | (go_simp; rfl)); intro g hg w3 hbox_ hb_; have BK := Aside0.mk hbox_; have Hg := Aside0.mk hg; have HB := Aside0.mk hb_; obtain ⟨q0, q1, q2, q3, q4⟩ := rosC_cells hbox_; clear hbox_ hb_ hg) | (go_at_call 77; refine (hgat _ (hR.out.below HB.out)).mono ?_; rintro e w4 ⟨rfl, hb_⟩; have HB4 := Aside0.mk (below_step HB.out hb_); have BK4 := Aside0.mk (blk_below BK.out hb_); clear q0 q1 q2 q3 q4; obtain ⟨q0, q1, q2, q3, q4⟩ := rosC_cells BK4.out; clear hb_) | (go_at_call 122; refine (hplan _ (hR.out.below HB4.out) (IntsAt.below hL.out HB4.out)).mono ?_; rintro e w5 ⟨rfl, hb_⟩; have HB5 := Aside0.mk (below_step HB4.out hb_); have BK5 := Aside0.mk (blk_below BK4.out hb_); clear q0 q1 q2 q3 q4; obtain ⟨q0, q1, q2, q3, q4⟩ := rosC_cells BK5.out; have pq := blk_lt BK5.out; clear hb_))
      go_ret2
      exact ⟨rfl, HB5.out⟩
    · have hlags2 := hlags rfl
      clear hlags
      have hmf : ∀ (fn : Fn) (first cap : Array Value) (w : World), (Instr.makeFunc fn first cap).run Tryz.prog w = .ok (.func fn first cap) w := fun _ _ _ _ => rfl
      go_enter Tryz.func58, Tryz.ntmps58
      go_wp2_with (first | ((with_reducible refine gate_dst (N := 3) rfl ?_); refine box_event ?hg (N := 3) ?hd (cs := rosC r A c T d) (t := 25) ?hr ?_; (case hd => rfl); (case hg => rfl); (case hr => first | (go_simp; done) | (go_simp; rfl)); intro g hg w3 hbox_ hb_; have BK := Aside0.mk hbox_; have Hg := Aside0.mk hg; have HB := Aside0.mk hb_; obtain ⟨q0, q1, q2, q3, q4⟩ := rosC_cells hbox_; clear hbox_ hb_ hg) | (go_at_call 77; refine (hgat _ (hR.out.below HB.out)).mono ?_; rintro e w4 ⟨rfl, hb_⟩; have HB4 := Aside0.mk (below_step HB.out hb_); have BK4 := Aside0.mk (blk_below BK.out hb_); clear q0 q1 q2 q3 q4; obtain ⟨q0, q1, q2, q3, q4⟩ := rosC_cells BK4.out; clear hb_) | (go_at_call 122; refine (hplan _ (hR.out.below HB4.out) (IntsAt.below hL.out HB4.out)).mono ?_; rintro e w5 ⟨rfl, hb_⟩; have HB5 := Aside0.mk (below_step HB4.out hb_); have BK5 := Aside0.mk (blk_below BK4.out hb_); clear q0 q1 q2 q3 q4; obtain ⟨q0, q1, q2, q3, q4⟩ := rosC_cells BK5.out; have pq := blk_lt BK5.out; clear hb_) | (go_at_call 131; refine (hlags2 _ _ (below_alloc HB5.out _) HB5.out.size (alloc_at _ _)).mono ?_; rintro e w9 ⟨rfl, hb9, hw9⟩; have HB9 := Aside0.mk hw9; have q9 := (blk_cell hb9 0).trans rfl; clear q0 q1 q2 q3 q4 hb9 hw9))
      go_ret2
      exact ⟨rfl, HB9.out⟩
  · clear hplan hlags
    go_enter Tryz.func58, Tryz.ntmps58
    go_wp2_with (first | ((with_reducible refine gate_dst (N := 3) rfl ?_); refine box_event ?hg (N := 3) ?hd (cs := rosC r A c T d) (t := 25) ?hr ?_; (case hd => rfl); (case hg => rfl); (case hr => first | (go_simp; done) | (go_simp; rfl)); intro g hg w3 hbox_ hb_; have BK := Aside0.mk hbox_; have Hg := Aside0.mk hg; have HB := Aside0.mk hb_; obtain ⟨q0, q1, q2, q3, q4⟩ := rosC_cells hbox_; clear hbox_ hb_ hg) | (go_at_call 77; refine (hgat _ (hR.out.below HB.out)).mono ?_; rintro e w4 ⟨rfl, hb_⟩; have HB4 := Aside0.mk (below_step HB.out hb_); have BK4 := Aside0.mk (blk_below BK.out hb_); clear q0 q1 q2 q3 q4; obtain ⟨q0, q1, q2, q3, q4⟩ := rosC_cells BK4.out; clear hb_))
    go_ret2
    exact ⟨rfl, HB4.out⟩
end Go.Proofs.YtflolfbkpjgjaaaGreatDoor
end
section
namespace Go.Proofs.YtflolfbkpjgjaaaGreatDoor
open Go.RowKit Go.Proofs.YtflolfbkpjgjaaaGreatDoorW.PrintWords
open Go.Proofs.YtflolfbkpjgjaaaGreatDoorW.PrintMore
def withoutB (r : Ros) (gate wo : Int) : Bool := (reachL r gate wo).any (endB r)
set_option maxHeartbeats 2000000 in
set_option maxRecDepth 100000 in
theorem needed1_calls (i : Int) (gr gg : Nat) (r : Ros) (gate : Int) (w : World) (V : Valid r) (hb : BoxAt w gr r) (hg : w.heap[gg]? = some (.cells #[.int .i64 gate] 3 (0, 0))) :
    Calls Tryz.prog 129 #[.int .i64 i, .pointer (some ⟨gr, 0, none⟩), .pointer (some ⟨gg, 0, none⟩)] w fun e w' => e = .returned (.bool (!withoutB r gate i)) ∧ Below w.heap.size w w' := by
  obtain ⟨A, c, T, d, h1, h2⟩ := hb.ex
  obtain ⟨q0, q1, q2, q3, q4⟩ := rosC_cells h1
  have q5 : w.cell? ⟨gg, 0, none⟩ = some (.int .i64 gate) := (blk_cell hg 0).trans rfl
  have BK := Aside0.mk h1
  have BG := Aside0.mk hg
  have hR := Aside0.mk h2
  have HV := Aside0.mk V
  have hlate := fun w lv (hv : RosAt w (.agg (rosC r A c T d)) r) hl => late_calls (.agg (rosC r A c T d)) lv r (reachL r gate i) w V hv hl reachL_in
  unfold withoutB
  generalize (reachL r gate i).any (endB r) = b0 at *
  clear h1 h2 hb hg V
  go_enter Tryz.func129, Tryz.ntmps129
  go_wp2
  go_region_held3 (fun w' => (w'.cell? ⟨gr, 0, none⟩ = some (.int .i64 r.gates) ∧ w'.cell? ⟨gr, 1, none⟩ = some (.int .i64 r.frm) ∧ w'.cell? ⟨gr, 2, none⟩ = some (.int .i64 r.til) ∧ w'.cell? ⟨gr, 3, none⟩ = some (.slice A r.ahead.length c) ∧ w'.cell? ⟨gr, 4, none⟩ = some (.slice T r.turns.length d)) ∧ w'.cell? ⟨gg, 0, none⟩ = some (.int .i64 gate)) (go_keep) (first | (go_at_call 78; refine (reached_list _ r gate i _ HV.out (hR.out.below ?_)).mono ?_; (repeat (first | exact Below.refl _ _ | apply below_alloc | apply pw_below_drewN | apply below_drew)); rintro e w5 ⟨lv, rfl, ho_, hb_⟩; have HO5 := Aside0.mk ho_; have HB5 := Aside0.mk (below_step (below_drew (Below.refl _ w)) hb_); have BK5 := Aside0.mk (blk_below (w := w.drew) BK.out hb_); have BG5 := Aside0.mk (blk_below (w := w.drew) BG.out hb_); obtain ⟨s0, s1, s2, s3, s4⟩ := rosC_cells BK5.out; have s5 := (blk_cell BG5.out 0).trans rfl; clear hb_ ho_) | (go_at_call 81; refine (hlate _ _ (hR.out.below HB5.out) (intsAt_own HO5.out)).mono ?_; rintro e w6 ⟨rfl, hb_⟩; have HB6 := Aside0.mk (below_step HB5.out hb_); obtain ⟨t0, t1, t2, t3, t4⟩ := rosC_cells (blk_below BK5.out hb_); have t5 := (blk_cell (blk_below BG5.out hb_) 0).trans rfl; clear hb_))
  go_wp2
  go_ret
  exact ⟨rfl, HB6.out⟩
theorem enter129 : CanEnter 129 := Go.Proofs.enters_of Tryz.func129 (by kernel_rfl) rfl
theorem needed1_pred {gr gg : Nat} {r : Ros} {gate : Int} {w : World} (V : Valid r) (hb : BoxAt w gr r) (hg : w.heap[gg]? = some (.cells #[.int .i64 gate] 3 (0, 0))) : PredIn 129 #[.pointer (some ⟨gr, 0, none⟩), .pointer (some ⟨gg, 0, none⟩)] (fun i => !withoutB r gate i) (fun x => 0 ≤ x ∧ x < r.turns.length) w :=
  fun W x hx hW => needed1_calls x gr gg r gate W V (hb.below hW) (blk_below hg hW)
def neededE (r : Ros) (gate : Int) : Int := if gatedE r gate != 0 then gatedE r gate else if withoutB r gate (-1) then 0 else 4
def neededL (r : Ros) (gate : Int) : List Int := ownL r gate fun i => !withoutB r gate i
def neededO (r : Ros) (gate : Int) : List Int := if gatedE r gate != 0 then [] else if withoutB r gate (-1) then neededL r gate else []
set_option maxHeartbeats 4000000 in
set_option maxRecDepth 100000 in
theorem needed_calls (v : Value) (r : Ros) (gate : Int) (w : World) (hv : RosAt w v r) :
    Calls Tryz.prog 56 #[v, .int .i64 gate] w fun e w' => ∃ lv, e = .returned (.tuple #[lv, .int .i64 (neededE r gate)]) ∧ w'.ownsRow w.heap.size 3 1 lv (neededO r gate).length (nums .i64 (neededO r gate)) ∧ Below w.heap.size w w' := by
  have hR := Aside0.mk hv
  obtain ⟨A, c, T, d, rfl, h1, h2, h3, h4⟩ := hv
  clear h3 h4
  unfold neededE neededO
  generalize hPost : (fun (e : Ending) (w' : World) => ∃ lv, e = .returned (.tuple #[lv, .int .i64 (if gatedE r gate != 0 then gatedE r gate else if withoutB r gate (-1) then 0 else 4)]) ∧ w'.ownsRow w.heap.size 3 1 lv (if gatedE r gate != 0 then [] else if withoutB r gate (-1) then neededL r gate else []).length (nums .i64 (if gatedE r gate != 0 then [] else if withoutB r gate (-1) then neededL r gate else [])) ∧ Below w.heap.size w w') = Post
  have HQ : Aside0 (∀ lv w', w'.ownsRow w.heap.size 3 1 lv (if gatedE r gate != 0 then [] else if withoutB r gate (-1) then neededL r gate else []).length (nums .i64 (if gatedE r gate != 0 then [] else if withoutB r gate (-1) then neededL r gate else [])) → Below w.heap.size w w' → Post (.returned (.tuple #[lv, .int .i64 (if gatedE r gate != 0 then gatedE r gate else if withoutB r gate (-1) then 0 else 4)])) w') := ⟨fun lv w' a b => hPost ▸ ⟨lv, rfl, a, b⟩⟩
  clear hPost
  have hgat := fun w (h : RosAt w (.agg (rosC r A c T d)) r) => gated_calls (.agg (rosC r A c T d)) r gate w h
  have hz := fun h => gatedE_zero (r := r) (gate := gate) h
  have hlate := fun V w lv (hv : RosAt w (.agg (rosC r A c T d)) r) hl => late_calls (.agg (rosC r A c T d)) lv r (reachL r gate (-1)) w V hv hl reachL_in
  have hown := fun (V : Valid r) w g gg (hv : RosAt w (.agg (rosC r A c T d)) r) (hb : BoxAt w g r) (hg : w.heap[gg]? = some (.cells #[.int .i64 gate] 3 (0, 0))) => own_calls (.agg (rosC r A c T d)) r gate 129 #[.pointer (some ⟨g, 0, none⟩), .pointer (some ⟨gg, 0, none⟩)] (fun i => !withoutB r gate i) w enter129 hv V.turns ((needed1_pred V hb hg).mono (fun x hx => ⟨hx.1, hx.2.1⟩))
  generalize hge : gatedE r gate = ge at *
  change ∀ _ _ _ _ _, Calls _ _ _ _ fun e w' => e = .returned (.bool (withoutB r gate (-1))) ∧ _ at hlate
  change ∀ _ _ _ _ _ _ _, Calls _ _ _ _ fun e w' => ∃ lv, e = .returned lv ∧ w'.ownsRow _ 3 1 lv (neededL r gate).length (nums .i64 (neededL r gate)) ∧ _ at hown
  generalize withoutB r gate (-1) = b0 at *
  generalize neededL r gate = nl at *
  have hmf : ∀ (fn : Fn) (first cap : Array Value) (w : World), (Instr.makeFunc fn first cap).run Tryz.prog w = .ok (.func fn first cap) w := fun _ _ _ _ => rfl
  cases hc : (ge != 0)
  · have e0 : ge = 0 := by simpa using hc
    subst e0
    have HV := Aside0.mk (hz rfl).1
    have hlate := hlate HV.out
    have hown := hown HV.out
    simp only [bne_self_eq_false, Bool.false_eq_true, if_false] at HQ
    clear hz hc
    cases b0
    · simp only [Bool.false_eq_true, if_false] at HQ
      clear hown
      go_enter Tryz.func56, Tryz.ntmps56
      go_wp2_with (first | ((with_reducible refine gate_dst (N := 2) rfl ?_); refine box_event ?hg (N := 2) ?hd (cs := rosC r A c T d) (t := 25) ?hr ?_; (case hd => rfl); (case hg => rfl); (case hr => first | (go_simp; done) | (go_simp; rfl)); intro g hg w2 hbox_ hb_; have BK := Aside0.mk hbox_; have Hg := Aside0.mk hg; have HB := Aside0.mk hb_; clear hbox_ hb_ hg) | ((with_reducible refine gate_dst (N := 3) rfl ?_); refine box_event ?hg (N := 3) ?hd (cs := #[.int .i64 gate]) (t := 3) ?hr ?_; (case hd => rfl); (case hg => rfl); (case hr => first | (go_simp; done) | (go_simp; rfl)); intro gg hgg w3 hbox_ hb_; have BG3 := Aside0.mk hbox_; have Hgg := Aside0.mk hgg; have HB3 := Aside0.mk (below_step HB.out hb_); have BK3 := Aside0.mk (blk_below BK.out hb_); obtain ⟨q0, q1, q2, q3, q4⟩ := rosC_cells BK3.out; have q5 : w3.cell? ⟨gg, 0, none⟩ = some (.int .i64 gate) := (blk_cell hbox_ 0).trans rfl; clear hbox_ hb_ hgg) | (go_at_call 77; refine (hgat _ (hR.out.below HB3.out)).mono ?_; rintro e w4 ⟨rfl, hb_⟩; have HB4 := Aside0.mk (below_step HB3.out hb_); have BK4 := Aside0.mk (blk_below BK3.out hb_); have BG4 := Aside0.mk (blk_below BG3.out hb_); clear q0 q1 q2 q3 q4 q5; obtain ⟨q0, q1, q2, q3, q4⟩ := rosC_cells BK4.out; have q5 : w4.cell? ⟨gg, 0, none⟩ = some (.int .i64 gate) := (blk_cell BG4.out 0).trans rfl; clear hb_))
      go_region_held3 (fun w' => (w'.cell? ⟨g, 0, none⟩ = some (.int .i64 r.gates) ∧ w'.cell? ⟨g, 1, none⟩ = some (.int .i64 r.frm) ∧ w'.cell? ⟨g, 2, none⟩ = some (.int .i64 r.til) ∧ w'.cell? ⟨g, 3, none⟩ = some (.slice A r.ahead.length c) ∧ w'.cell? ⟨g, 4, none⟩ = some (.slice T r.turns.length d)) ∧ w'.cell? ⟨gg, 0, none⟩ = some (.int .i64 gate)) (go_keep) (first | (go_at_call 78; refine (reached_list _ r gate (-1) _ HV.out (hR.out.below (below_step HB4.out ?_))).mono ?_; (repeat (first | exact Below.refl _ _ | apply below_alloc | apply pw_below_drewN | apply below_drew)); rintro e w5 ⟨lv, rfl, ho_, hb_⟩; have HO5 := Aside0.mk ho_; have HB5 := Aside0.mk (below_step (below_drew HB4.out) hb_); have BK5 := Aside0.mk (blk_below (w := w4.drew) BK4.out hb_); have BG5 := Aside0.mk (blk_below (w := w4.drew) BG4.out hb_); obtain ⟨s0, s1, s2, s3, s4⟩ := rosC_cells BK5.out; have s5 := (blk_cell BG5.out 0).trans rfl; clear hb_ ho_) | (go_at_call 81; refine (hlate _ _ (hR.out.below HB5.out) (intsAt_own HO5.out)).mono ?_; rintro e w6 ⟨rfl, hb_⟩; have HB6 := Aside0.mk (below_step HB5.out hb_); have BK6 := Aside0.mk (blk_below BK5.out hb_); have BG6 := Aside0.mk (blk_below BG5.out hb_); obtain ⟨t0, t1, t2, t3, t4⟩ := rosC_cells BK6.out; have t5 := (blk_cell BG6.out 0).trans rfl; clear hb_))
      go_wp2
      exact HQ.out _ _ (own_nil _ _ _ _) HB6.out
    · simp only [if_true] at HQ
      go_enter Tryz.func56, Tryz.ntmps56
      go_wp2_with (first | ((with_reducible refine gate_dst (N := 2) rfl ?_); refine box_event ?hg (N := 2) ?hd (cs := rosC r A c T d) (t := 25) ?hr ?_; (case hd => rfl); (case hg => rfl); (case hr => first | (go_simp; done) | (go_simp; rfl)); intro g hg w2 hbox_ hb_; have BK := Aside0.mk hbox_; have Hg := Aside0.mk hg; have HB := Aside0.mk hb_; clear hbox_ hb_ hg) | ((with_reducible refine gate_dst (N := 3) rfl ?_); refine box_event ?hg (N := 3) ?hd (cs := #[.int .i64 gate]) (t := 3) ?hr ?_; (case hd => rfl); (case hg => rfl); (case hr => first | (go_simp; done) | (go_simp; rfl)); intro gg hgg w3 hbox_ hb_; have BG3 := Aside0.mk hbox_; have Hgg := Aside0.mk hgg; have HB3 := Aside0.mk (below_step HB.out hb_); have BK3 := Aside0.mk (blk_below BK.out hb_); obtain ⟨q0, q1, q2, q3, q4⟩ := rosC_cells BK3.out; have q5 : w3.cell? ⟨gg, 0, none⟩ = some (.int .i64 gate) := (blk_cell hbox_ 0).trans rfl; clear hbox_ hb_ hgg) | (go_at_call 77; refine (hgat _ (hR.out.below HB3.out)).mono ?_; rintro e w4 ⟨rfl, hb_⟩; have HB4 := Aside0.mk (below_step HB3.out hb_); have BK4 := Aside0.mk (blk_below BK3.out hb_); have BG4 := Aside0.mk (blk_below BG3.out hb_); clear q0 q1 q2 q3 q4 q5; obtain ⟨q0, q1, q2, q3, q4⟩ := rosC_cells BK4.out; have q5 : w4.cell? ⟨gg, 0, none⟩ = some (.int .i64 gate) := (blk_cell BG4.out 0).trans rfl; clear hb_))
      go_region_held3 (fun w' => (w'.cell? ⟨g, 0, none⟩ = some (.int .i64 r.gates) ∧ w'.cell? ⟨g, 1, none⟩ = some (.int .i64 r.frm) ∧ w'.cell? ⟨g, 2, none⟩ = some (.int .i64 r.til) ∧ w'.cell? ⟨g, 3, none⟩ = some (.slice A r.ahead.length c) ∧ w'.cell? ⟨g, 4, none⟩ = some (.slice T r.turns.length d)) ∧ w'.cell? ⟨gg, 0, none⟩ = some (.int .i64 gate)) (go_keep) (first | (go_at_call 78; refine (reached_list _ r gate (-1) _ HV.out (hR.out.below (below_step HB4.out ?_))).mono ?_; (repeat (first | exact Below.refl _ _ | apply below_alloc | apply pw_below_drewN | apply below_drew)); rintro e w5 ⟨lv, rfl, ho_, hb_⟩; have HO5 := Aside0.mk ho_; have HB5 := Aside0.mk (below_step (below_drew HB4.out) hb_); have BK5 := Aside0.mk (blk_below (w := w4.drew) BK4.out hb_); have BG5 := Aside0.mk (blk_below (w := w4.drew) BG4.out hb_); obtain ⟨s0, s1, s2, s3, s4⟩ := rosC_cells BK5.out; have s5 := (blk_cell BG5.out 0).trans rfl; clear hb_ ho_) | (go_at_call 81; refine (hlate _ _ (hR.out.below HB5.out) (intsAt_own HO5.out)).mono ?_; rintro e w6 ⟨rfl, hb_⟩; have HB6 := Aside0.mk (below_step HB5.out hb_); have BK6 := Aside0.mk (blk_below BK5.out hb_); have BG6 := Aside0.mk (blk_below BG5.out hb_); obtain ⟨t0, t1, t2, t3, t4⟩ := rosC_cells BK6.out; have t5 := (blk_cell BG6.out 0).trans rfl; clear hb_))
      go_wp2_with (go_at_call 94; refine (hown _ g gg (hR.out.below HB6.out) ⟨A, c, T, d, BK6.out, hR.out.below HB6.out⟩ BG6.out).mono ?_; rintro e w8 ⟨lv, rfl, ho8, hb8⟩; have HO8 := Aside0.mk (own_less ho8 HB6.out.size); have HB8 := Aside0.mk (below_step HB6.out hb8); clear ho8 hb8)
      exact HQ.out _ _ HO8.out HB8.out
  · simp only [hc, if_true] at HQ
    clear hlate hown
    go_enter Tryz.func56, Tryz.ntmps56
    go_wp2_with (first | ((with_reducible refine gate_dst (N := 2) rfl ?_); refine box_event ?hg (N := 2) ?hd (cs := rosC r A c T d) (t := 25) ?hr ?_; (case hd => rfl); (case hg => rfl); (case hr => first | (go_simp; done) | (go_simp; rfl)); intro g hg w2 hbox_ hb_; have BK := Aside0.mk hbox_; have Hg := Aside0.mk hg; have HB := Aside0.mk hb_; clear hbox_ hb_ hg) | ((with_reducible refine gate_dst (N := 3) rfl ?_); refine box_event ?hg (N := 3) ?hd (cs := #[.int .i64 gate]) (t := 3) ?hr ?_; (case hd => rfl); (case hg => rfl); (case hr => first | (go_simp; done) | (go_simp; rfl)); intro gg hgg w3 hbox_ hb_; have BG3 := Aside0.mk hbox_; have Hgg := Aside0.mk hgg; have HB3 := Aside0.mk (below_step HB.out hb_); have BK3 := Aside0.mk (blk_below BK.out hb_); obtain ⟨q0, q1, q2, q3, q4⟩ := rosC_cells BK3.out; have q5 : w3.cell? ⟨gg, 0, none⟩ = some (.int .i64 gate) := (blk_cell hbox_ 0).trans rfl; clear hbox_ hb_ hgg) | (go_at_call 77; refine (hgat _ (hR.out.below HB3.out)).mono ?_; rintro e w4 ⟨rfl, hb_⟩; have HB4 := Aside0.mk (below_step HB3.out hb_); have BK4 := Aside0.mk (blk_below BK3.out hb_); have BG4 := Aside0.mk (blk_below BG3.out hb_); clear q0 q1 q2 q3 q4 q5; obtain ⟨q0, q1, q2, q3, q4⟩ := rosC_cells BK4.out; have q5 : w4.cell? ⟨gg, 0, none⟩ = some (.int .i64 gate) := (blk_cell BG4.out 0).trans rfl; clear hb_))
    exact HQ.out _ _ (own_nil _ _ _ _) HB4.out
end Go.Proofs.YtflolfbkpjgjaaaGreatDoor
end
section
namespace Go.Proofs.YtflolfbkpjgjaaaGreatDoor
open Go.RowKit Go.Proofs.YtflolfbkpjgjaaaGreatDoorW.PrintWords
open Go.Proofs.YtflolfbkpjgjaaaGreatDoorW.PrintMore
def cmpI (a b : Int) : Int := if a < b then -1 else if b < a then 1 else 0
def cmpZ : List Int → List Int → Int
  | [], [] => 0
  | [], _ :: _ => -1
  | _ :: _, [] => 1
  | x :: a, y :: b => if x < y then -1 else if y < x then 1 else cmpZ a b
def orF : List Int → Int
  | [] => 0
  | x :: xs => if x != 0 then x else orF xs
set_option maxHeartbeats 1000000 in
theorem isNaN_calls (a : Int) (w : World) : Calls Tryz.prog 171 #[.int .i64 a] w fun e w' => e = .returned (.bool false) ∧ w = w' := by
  go_enter Tryz.func171, Tryz.ntmps171
  go_wp2
  go_ret
  exact ⟨by simp, rfl⟩
set_option maxHeartbeats 1000000 in
theorem compare_calls (a b : Int) (w : World) : Calls Tryz.prog 148 #[.int .i64 a, .int .i64 b] w fun e w' => e = .returned (.int .i64 (cmpI a b)) ∧ w = w' := by
  unfold cmpI
  rcases Int.lt_trichotomy a b with h | h | h
  · rw [if_pos h]
    go_enter Tryz.func148, Tryz.ntmps148
    go_wp2_with (go_at_call 171; refine (isNaN_calls _ _).mono ?_; rintro e w' ⟨rfl, rfl⟩)
    go_ret
    exact ⟨rfl, rfl⟩
  · subst h
    rw [if_neg (by omega), if_neg (by omega)]
    go_enter Tryz.func148, Tryz.ntmps148
    go_wp2_with (go_at_call 171; refine (isNaN_calls _ _).mono ?_; rintro e w' ⟨rfl, rfl⟩)
    go_ret
    exact ⟨rfl, rfl⟩
  · rw [if_neg (by omega), if_pos h]
    have h2 : ¬ a < b := by omega
    go_enter Tryz.func148, Tryz.ntmps148
    go_wp2_with (go_at_call 171; refine (isNaN_calls _ _).mono ?_; rintro e w' ⟨rfl, rfl⟩)
    go_ret
    exact ⟨rfl, rfl⟩
theorem orF_drop (xs : List Int) (k : Nat) (hk : k < xs.length) : orF (xs.drop k) = if xs.getD k 0 != 0 then xs.getD k 0 else orF (xs.drop (k + 1)) := by
  rw [List.drop_eq_getElem_cons hk]
  simp only [orF, List.getD_eq_getElem?_getD, List.getElem?_eq_getElem hk, Option.getD_some]
set_option maxHeartbeats 1000000 in
set_option maxRecDepth 100000 in
theorem or_calls (A : Option Addr) (c : Nat) (xs : List Int) (w : World) (hA : CI w A xs.length xs) (hbig : xs.length ≤ 9223372036854775807) :
    Calls Tryz.prog 147 #[.slice A xs.length c] w fun e w' => e = .returned (.int .i64 (orF xs)) ∧ w = w' := by
  have HA := Aside0.mk hA
  clear hA
  go_enter Tryz.func147, Tryz.ntmps147
  go_wp2
  go_loop [8] (fun s8 => ∃ kk : Nat, kk ≤ xs.length ∧ s8 = .int .i64 kk ∧ Aside0 (orF xs = orF (xs.drop kk))) (fun s8 => xs.length - (intOf s8).toNat)
  case atStart => exact ⟨0, Nat.zero_le _, rfl, ⟨by rw [List.drop_zero]⟩⟩
  case round =>
    obtain ⟨kk, hkk, rfl, AF⟩ := hrel
    by_cases hlt : kk < xs.length
    · have hltz : (kk : Int) < (xs.length : Int) := by omega
      obtain ⟨ad, hAd, g4⟩ := CI_at HA.out kk (by omega) (by omega)
      cases hAd
      rw [show ((kk : Nat) : Int).toNat = kk from rfl] at g4
      have hd := orF_drop xs kk hlt
      generalize xs.getD kk 0 = y at *
      have HD := Aside0.mk hd
      clear hd
      cases hy : (y != 0)
      · have HD' : Aside0 (orF xs = orF (xs.drop (kk + 1))) := ⟨by rw [AF.out, HD.out, hy]; rfl⟩
        go_wp2
        go_round
        case rel => exact ⟨kk + 1, by omega, by go_num, HD'⟩
        case measure => simp [intOf]; omega
      · have HD' : Aside0 (orF xs = y) := ⟨by rw [AF.out, HD.out, hy]; rfl⟩
        go_wp2
        go_ret
        exact ⟨by rw [HD'.out]; rfl, rfl⟩
    · have HM : Aside0 (orF xs = 0) := ⟨by rw [AF.out, List.drop_eq_nil_of_le (by omega)]; rfl⟩
      go_wp2
      go_ret
      exact ⟨by rw [HM.out]; rfl, rfl⟩
theorem cmpZ_drop (a b : List Int) (k : Nat) (hk : k < a.length) (hb : k < b.length) : cmpZ (a.drop k) (b.drop k) = if cmpI (a.getD k 0) (b.getD k 0) != 0 then cmpI (a.getD k 0) (b.getD k 0) else cmpZ (a.drop (k + 1)) (b.drop (k + 1)) := by
  rw [List.drop_eq_getElem_cons hk, List.drop_eq_getElem_cons hb]
  simp only [cmpZ, cmpI, List.getD_eq_getElem?_getD, List.getElem?_eq_getElem hk, List.getElem?_eq_getElem hb, Option.getD_some]
  split
  · rfl
  · split <;> rfl
theorem cmpZ_long (a b : List Int) (k : Nat) (hk : k < a.length) (hb : ¬ k < b.length) : cmpZ (a.drop k) (b.drop k) = 1 := by
  have e : b.drop k = [] := List.drop_eq_nil_of_le (by omega)
  rw [List.drop_eq_getElem_cons hk, e]
  rfl
theorem cmpZ_end (a b : List Int) (k : Nat) (hk : ¬ k < a.length) (hb : k ≤ b.length) : cmpZ (a.drop k) (b.drop k) = if k < b.length then -1 else 0 := by
  have e : a.drop k = [] := List.drop_eq_nil_of_le (by omega)
  rw [e]
  split
  · rename_i h; rw [List.drop_eq_getElem_cons h]; rfl
  · have e2 : b.drop k = [] := List.drop_eq_nil_of_le (by omega)
    rw [e2]; rfl
set_option maxHeartbeats 2000000 in
set_option maxRecDepth 100000 in
theorem compareL_calls (A B : Option Addr) (c d : Nat) (xs ys : List Int) (w : World) (hA : CI w A xs.length xs) (hB : CI w B ys.length ys) (hbig : xs.length ≤ 9223372036854775807) (hbig2 : ys.length ≤ 9223372036854775807) :
    Calls Tryz.prog 149 #[.slice A xs.length c, .slice B ys.length d] w fun e w' => e = .returned (.int .i64 (cmpZ xs ys)) ∧ w = w' := by
  have HA := Aside0.mk hA
  have HB := Aside0.mk hB
  clear hA hB
  go_enter Tryz.func149, Tryz.ntmps149
  go_wp2
  go_loop [11] (fun s8 => ∃ kk : Nat, kk ≤ xs.length ∧ kk ≤ ys.length ∧ s8 = .int .i64 kk ∧ Aside0 (cmpZ xs ys = cmpZ (xs.drop kk) (ys.drop kk))) (fun s8 => xs.length - (intOf s8).toNat)
  case atStart => exact ⟨0, Nat.zero_le _, Nat.zero_le _, rfl, ⟨by rw [List.drop_zero, List.drop_zero]⟩⟩
  case round =>
    obtain ⟨kk, hkk, hky, rfl, AF⟩ := hrel
    by_cases hlt : kk < xs.length
    · have hltz : (kk : Int) < (xs.length : Int) := by omega
      obtain ⟨ad, hAd, g4⟩ := CI_at HA.out kk (by omega) (by omega)
      cases hAd
      rw [show ((kk : Nat) : Int).toNat = kk from rfl] at g4
      by_cases hlt2 : kk < ys.length
      · have hltz2 : (kk : Int) < (ys.length : Int) := by omega
        obtain ⟨ad2, hAd2, g5⟩ := CI_at HB.out kk (by omega) (by omega)
        cases hAd2
        rw [show ((kk : Nat) : Int).toNat = kk from rfl] at g5
        have hd := cmpZ_drop xs ys kk hlt hlt2
        generalize xs.getD kk 0 = x at *
        generalize ys.getD kk 0 = y at *
        have HD := Aside0.mk hd
        clear hd
        have hcmp := fun w => compare_calls x y w
        generalize cmpI x y = m at *
        cases hm : (m != 0)
        · have HD' : Aside0 (cmpZ xs ys = cmpZ (xs.drop (kk + 1)) (ys.drop (kk + 1))) := ⟨by rw [AF.out, HD.out, hm]; rfl⟩
          go_wp2_with (go_at_call 148; refine (hcmp _).mono ?_; rintro e w' ⟨rfl, rfl⟩)
          go_round
          case rel => exact ⟨kk + 1, by omega, by omega, by go_num, HD'⟩
          case measure => simp [intOf]; omega
        · have HD' : Aside0 (cmpZ xs ys = m) := ⟨by rw [AF.out, HD.out, hm]; rfl⟩
          go_wp2_with (go_at_call 148; refine (hcmp _).mono ?_; rintro e w' ⟨rfl, rfl⟩)
          go_ret
          exact ⟨by rw [HD'.out]; rfl, rfl⟩
      · have HD' : Aside0 (cmpZ xs ys = 1) := ⟨by rw [AF.out, cmpZ_long _ _ _ hlt hlt2]⟩
        have hle : (ys.length : Int) ≤ (kk : Int) := by omega
        go_wp2
        go_ret
        exact ⟨by rw [HD'.out]; rfl, rfl⟩
    · have HM := Aside0.mk (cmpZ_end xs ys kk hlt hky)
      have hkx : kk = xs.length := by omega
      by_cases hl : xs.length < ys.length
      · have HD' : Aside0 (cmpZ xs ys = -1) := ⟨by rw [AF.out, HM.out, if_pos (by omega)]⟩
        have hlz : (xs.length : Int) < (ys.length : Int) := by omega
        go_wp2
        go_ret
        exact ⟨by rw [HD'.out]; rfl, rfl⟩
      · have HD' : Aside0 (cmpZ xs ys = 0) := ⟨by rw [AF.out, HM.out, if_neg (by omega)]⟩
        have hlz : ¬ (xs.length : Int) < (ys.length : Int) := by omega
        go_wp2
        go_ret
        exact ⟨by rw [HD'.out]; rfl, rfl⟩
end Go.Proofs.YtflolfbkpjgjaaaGreatDoor
end
section
namespace Go.Proofs.YtflolfbkpjgjaaaGreatDoor
open Go.RowKit Go.Proofs.YtflolfbkpjgjaaaGreatDoorW.PrintWords
open Go.Proofs.YtflolfbkpjgjaaaGreatDoorW.PrintMore
def byF (r : Ros) (a b : List Int) : Int := orF [cmpI (costL r a) (costL r b), cmpI a.length b.length, cmpZ a b]
def shortF (r : Ros) (a b : List Int) : Int := orF [cmpI a.length b.length, byF r a b]
theorem ci_alloc (w : World) (xs : List Int) (t : TypeId) (h : xs.length ≤ 9223372036854775807) : CI (w.alloc (.cells (xs.map (Value.int .i64)).toArray t)) (some ⟨w.heap.size, 0, none⟩) xs.length xs := by
  refine ⟨rfl, h, fun h0 => ⟨_, rfl, fun j p hj => ⟨[.int .i64 p], rfl, rfl, fun i u hu => ?_⟩⟩⟩
  have hi : i = 0 := by
    have := (List.getElem?_eq_some_iff.1 hu).1
    simp at this
    exact this
  subst hi
  have hu' : Value.int .i64 p = u := by simpa using hu
  subst hu'
  rw [show (Kd.int .i64).sz = 1 from rfl, Nat.mul_one, Nat.add_zero, add_plain]
  refine (blk_cell (alloc_at w _) j).trans ?_
  rw [List.getElem?_toArray, List.getElem?_map, hj]
  rfl
def OfTurns (r : Ros) (l : List Int) : Prop := (∀ x ∈ l, 0 ≤ x ∧ x < r.turns.length) ∧ l.length ≤ 1000
set_option maxHeartbeats 4000000 in
set_option maxRecDepth 100000 in
theorem by1_calls (lv1 lv2 : Value) (l1 l2 : List Int) (g : Nat) (r : Ros) (w : World) (V : Valid r) (hb : BoxAt w g r) (hl1 : IntsAt w lv1 l1) (hl2 : IntsAt w lv2 l2) (hi1 : OfTurns r l1) (hi2 : OfTurns r l2) :
    Calls Tryz.prog 146 #[lv1, lv2, .pointer (some ⟨g, 0, none⟩)] w fun e w' => e = .returned (.int .i64 (byF r l1 l2)) ∧ Below w.heap.size w w' := by
  obtain ⟨A, c, T, d, h1, h2⟩ := hb.ex
  obtain ⟨q0, q1, q2, q3, q4⟩ := rosC_cells h1
  have BK := Aside0.mk h1
  have hR := Aside0.mk h2
  have HV := Aside0.mk V
  have HL1 := Aside0.mk hl1
  have HL2 := Aside0.mk hl2
  have HI1 := Aside0.mk hi1
  have HI2 := Aside0.mk hi2
  have hc1 := fun w (hv : RosAt w (.agg (rosC r A c T d)) r) (hl : IntsAt w lv1 l1) => cost_calls (.agg (rosC r A c T d)) lv1 r l1 w V hv hl hi1.1 (by have := hi1.2; omega)
  have hc2 := fun w (hv : RosAt w (.agg (rosC r A c T d)) r) (hl : IntsAt w lv2 l2) => cost_calls (.agg (rosC r A c T d)) lv2 r l2 w V hv hl hi2.1 (by have := hi2.2; omega)
  simp only [rosC] at hc1 hc2
  have hcmp := fun w => compare_calls (costL r l1) (costL r l2) w
  obtain ⟨A1, c1, rfl, k1, m1⟩ := hl1
  obtain ⟨A2, c2, rfl, k2, m2⟩ := hl2
  have M1 := Aside0.mk m1
  have M2 := Aside0.mk m2
  have hcmpn := fun w => compare_calls (l1.length : Int) (l2.length : Int) w
  have hcmpz := fun w (h1 : CI w A1 l1.length l1) (h2 : CI w A2 l2.length l2) => compareL_calls A1 A2 c1 c2 l1 l2 w h1 h2 m1.2.1 m2.2.1
  have hor := fun a b c w h => or_calls (some ⟨w.heap.size, 0, none⟩) 3 [a, b, c] (w.alloc (.cells (([a, b, c] : List Int).map (Value.int .i64)).toArray 3)) (ci_alloc w [a, b, c] 3 h) h
  unfold byF
  generalize costL r l1 = x1 at *
  generalize costL r l2 = x2 at *
  generalize cmpI x1 x2 = y1 at *
  generalize cmpI (l1.length : Int) (l2.length : Int) = y2 at *
  generalize cmpZ l1 l2 = y3 at *
  clear h1 h2 hb V m1 m2 hi1 hi2
  go_enter Tryz.func146, Tryz.ntmps146
  go_wp2
  go_region_held3 (fun w' => w'.cell? ⟨g, 0, none⟩ = some (.int .i64 r.gates) ∧ w'.cell? ⟨g, 1, none⟩ = some (.int .i64 r.frm) ∧ w'.cell? ⟨g, 2, none⟩ = some (.int .i64 r.til) ∧ w'.cell? ⟨g, 3, none⟩ = some (.slice A r.ahead.length c) ∧ w'.cell? ⟨g, 4, none⟩ = some (.slice T r.turns.length d)) (go_keep) (first | (go_at_call 86; (with_reducible refine (hc1 _ ?_ ?_).mono ?_); exact hR.out.below (below_drew (Below.refl _ _)); exact IntsAt.below HL1.out (below_drew (Below.refl _ _)); rintro e w5 ⟨rfl, hb_⟩; have HB5 := Aside0.mk (below_step (below_drew (Below.refl _ w)) hb_); have BK5 := Aside0.mk (blk_below (w := w.drew) BK.out hb_); obtain ⟨s0, s1, s2, s3, s4⟩ := rosC_cells BK5.out; clear hb_) | (go_at_call 86; (with_reducible refine (hc2 _ ?_ ?_).mono ?_); exact hR.out.below HB5.out; exact IntsAt.below HL2.out HB5.out; rintro e w6 ⟨rfl, hb_⟩; have HB6 := Aside0.mk (below_step HB5.out hb_); have BK6 := Aside0.mk (blk_below BK5.out hb_); obtain ⟨t0, t1, t2, t3, t4⟩ := rosC_cells BK6.out; clear hb_) | (go_at_call 148; (with_reducible refine (hcmp _).mono ?_); rintro e w7 ⟨rfl, rfl⟩) | (go_at_call 148; (with_reducible refine (hcmpn _).mono ?_); rintro e w7 ⟨rfl, rfl⟩) | (go_at_call 149; (with_reducible refine (hcmpz _ ?_ ?_).mono ?_); exact Kd.C_below M1.out HB6.out; exact Kd.C_below M2.out HB6.out; rintro e w7 ⟨rfl, rfl⟩) | (go_at_call 147; refine (hor _ _ _ _ (by simp)).mono ?_; rintro e w8 ⟨rfl, rfl⟩))
  go_wp2
  go_ret
  exact ⟨rfl, below_alloc HB6.out _⟩
theorem enter146 : CanEnter 146 := Go.Proofs.enters_of Tryz.func146 (by kernel_rfl) rfl
theorem enter163 : CanEnter 163 := Go.Proofs.enters_of Tryz.func163 (by kernel_rfl) rfl
def CmpIn (g : Nat) (lb : Array Value) (F : List Int → List Int → Int) (D : List Int → Prop) (w : World) : Prop :=
  ∀ (W : World) (lv1 lv2 : Value) (l1 l2 : List Int), D l1 → D l2 → IntsAt W lv1 l1 → IntsAt W lv2 l2 → Below w.heap.size w W → Calls Tryz.prog g (#[lv1, lv2] ++ lb) W fun e w' => e = .returned (.int .i64 (F l1 l2)) ∧ Below W.heap.size W w'
theorem CmpIn.below {g : Nat} {lb : Array Value} {F : List Int → List Int → Int} {D : List Int → Prop} {w w1 : World} (h : CmpIn g lb F D w) (hb : Below w.heap.size w w1) : CmpIn g lb F D w1 :=
  fun W lv1 lv2 l1 l2 d1 d2 h1 h2 hW => h W lv1 lv2 l1 l2 d1 d2 h1 h2 (below_step hb hW)
theorem by1_cmp {g : Nat} {r : Ros} {w : World} (V : Valid r) (hb : BoxAt w g r) : CmpIn 146 #[.pointer (some ⟨g, 0, none⟩)] (byF r) (OfTurns r) w :=
  fun W lv1 lv2 l1 l2 d1 d2 h1 h2 hW => by1_calls lv1 lv2 l1 l2 g r W V (hb.below hW) h1 h2 d1 d2
set_option maxHeartbeats 4000000 in
set_option maxRecDepth 100000 in
theorem short1_calls (lv1 lv2 : Value) (l1 l2 : List Int) (g gb : Nat) (r : Ros) (w : World) (V : Valid r) (hf : w.heap[g]? = some (.cells #[.func (.func 146) #[] #[.pointer (some ⟨gb, 0, none⟩)]] 88 (0, 0))) (hb : BoxAt w gb r) (hl1 : IntsAt w lv1 l1) (hl2 : IntsAt w lv2 l2) (hi1 : OfTurns r l1) (hi2 : OfTurns r l2) :
    Calls Tryz.prog 163 #[lv1, lv2, .pointer (some ⟨g, 0, none⟩)] w fun e w' => e = .returned (.int .i64 (shortF r l1 l2)) ∧ Below w.heap.size w w' := by
  have q0 : w.cell? ⟨g, 0, none⟩ = some (.func (.func 146) #[] #[.pointer (some ⟨gb, 0, none⟩)]) := (blk_cell hf 0).trans rfl
  have BF := Aside0.mk hf
  have HL1 := Aside0.mk hl1
  have HL2 := Aside0.mk hl2
  have hby := fun w (hb : BoxAt w gb r) (h1 : IntsAt w lv1 l1) (h2 : IntsAt w lv2 l2) => by1_calls lv1 lv2 l1 l2 gb r w V hb h1 h2 hi1 hi2
  have HBB := Aside0.mk hb
  obtain ⟨A1, c1, rfl, k1, m1⟩ := hl1
  obtain ⟨A2, c2, rfl, k2, m2⟩ := hl2
  have hcmpn := fun w => compare_calls (l1.length : Int) (l2.length : Int) w
  have hor := fun a b w h => or_calls (some ⟨w.heap.size, 0, none⟩) 2 [a, b] (w.alloc (.cells (([a, b] : List Int).map (Value.int .i64)).toArray 3)) (ci_alloc w [a, b] 3 h) h
  unfold shortF
  generalize byF r l1 l2 = y1 at *
  generalize cmpI (l1.length : Int) (l2.length : Int) = y2 at *
  clear hb V m1 m2 hi1 hi2 hf
  go_enter Tryz.func163, Tryz.ntmps163
  go_wp2
  go_region_held3 (fun w' => w'.cell? ⟨g, 0, none⟩ = some (.func (.func 146) #[] #[.pointer (some ⟨gb, 0, none⟩)])) (go_keep) (first | (go_at_call 148; (with_reducible refine (hcmpn _).mono ?_); rintro e w7 ⟨rfl, rfl⟩) | (go_at_call 146; (with_reducible refine (hby _ ?_ ?_ ?_).mono ?_); exact HBB.out.below (below_drew (Below.refl _ _)); exact IntsAt.below HL1.out (below_drew (Below.refl _ _)); exact IntsAt.below HL2.out (below_drew (Below.refl _ _)); rintro e w6 ⟨rfl, hb_⟩; have HB6 := Aside0.mk (below_step (below_drew (Below.refl _ w)) hb_); have s0 : w6.cell? ⟨g, 0, none⟩ = some (.func (.func 146) #[] #[.pointer (some ⟨gb, 0, none⟩)]) := (blk_cell (blk_below (w := w.drew) BF.out hb_) 0).trans rfl; clear hb_) | (go_at_call 147; refine (hor _ _ _ (by simp)).mono ?_; rintro e w8 ⟨rfl, rfl⟩))
  go_wp2
  go_ret
  exact ⟨rfl, below_alloc HB6.out _⟩
theorem short1_cmp {g gb : Nat} {r : Ros} {w : World} (V : Valid r) (hf : w.heap[g]? = some (.cells #[.func (.func 146) #[] #[.pointer (some ⟨gb, 0, none⟩)]] 88 (0, 0))) (hb : BoxAt w gb r) : CmpIn 163 #[.pointer (some ⟨g, 0, none⟩)] (shortF r) (OfTurns r) w :=
  fun W lv1 lv2 l1 l2 d1 d2 h1 h2 hW => short1_calls lv1 lv2 l1 l2 g gb r W V (blk_below hf hW) (hb.below hW) h1 h2 d1 d2
set_option maxHeartbeats 1000000 in
set_option maxRecDepth 100000 in
theorem by_calls (v : Value) (r : Ros) (w : World) (hv : RosAt w v r) :
    Calls Tryz.prog 84 #[v] w fun e w' => ∃ g, e = .returned (.func (.func 146) #[] #[.pointer (some ⟨g, 0, none⟩)]) ∧ BoxAt w' g r ∧ Below w.heap.size w w' := by
  have hR := Aside0.mk hv
  obtain ⟨A, c, T, d, rfl, h1, h2, h3, h4⟩ := hv
  clear h3 h4
  have hmf : ∀ (fn : Fn) (first cap : Array Value) (w : World), (Instr.makeFunc fn first cap).run Tryz.prog w = .ok (.func fn first cap) w := fun _ _ _ _ => rfl
  go_enter Tryz.func84, Tryz.ntmps84
  go_wp2_with ((with_reducible refine gate_dst (N := 1) rfl ?_); refine box_event ?hg (N := 1) ?hd (cs := rosC r A c T d) (t := 25) ?hr ?_; (case hd => rfl); (case hg => rfl); (case hr => first | (go_simp; done) | (go_simp; rfl)); intro g hg w3 hbox_ hb_; have BK := Aside0.mk hbox_; have Hg := Aside0.mk hg; have HB := Aside0.mk hb_; clear hbox_ hb_ hg)
  go_ret
  exact ⟨g, rfl, ⟨A, c, T, d, BK.out, hR.out.below HB.out⟩, HB.out⟩
set_option maxHeartbeats 1000000 in
set_option maxRecDepth 100000 in
theorem short_calls (v : Value) (r : Ros) (w : World) (hv : RosAt w v r) :
    Calls Tryz.prog 134 #[v] w fun e w' => ∃ g gb, e = .returned (.func (.func 163) #[] #[.pointer (some ⟨g, 0, none⟩)]) ∧ w'.heap[g]? = some (.cells #[.func (.func 146) #[] #[.pointer (some ⟨gb, 0, none⟩)]] 88 (0, 0)) ∧ BoxAt w' gb r ∧ Below w.heap.size w w' := by
  have hR := Aside0.mk hv
  obtain ⟨A, c, T, d, rfl, h1, h2, h3, h4⟩ := hv
  clear h3 h4
  have hmf : ∀ (fn : Fn) (first cap : Array Value) (w : World), (Instr.makeFunc fn first cap).run Tryz.prog w = .ok (.func fn first cap) w := fun _ _ _ _ => rfl
  have hsf : ∀ (w : World) (a : Addr) (fn : Fn) (x y : Array Value) (m : Mode), (store a (.func fn x y) m).run Tryz.prog w = stored Tryz.prog w a (.func fn x y) m := fun w a fn x y m => run_store Tryz.prog w a _ m rfl
  go_enter Tryz.func134, Tryz.ntmps134
  go_wp2_with (first | ((with_reducible refine gate_dst (N := 1) rfl ?_); refine box_event ?hg (N := 1) ?hd (cs := rosC r A c T d) (t := 25) ?hr ?_; (case hd => rfl); (case hg => rfl); (case hr => first | (go_simp; done) | (go_simp; rfl)); intro g hg w3 hbox_ hb_; have BK := Aside0.mk hbox_; have Hg := Aside0.mk hg; have HB := Aside0.mk hb_; obtain ⟨q0, q1, q2, q3, q4⟩ := rosC_cells hbox_; clear hbox_ hb_ hg) | (go_at_call 84; refine (by_calls _ r _ (hR.out.below HB.out)).mono ?_; rintro e w5 ⟨gb, rfl, hbb, hb_⟩; have HB5 := Aside0.mk (below_step HB.out hb_); have HBB := Aside0.mk hbb; clear hb_ hbb))
  go_ret
  exact ⟨_, gb, rfl, alloc_at _ _, HBB.out.below (below_alloc (Below.refl _ _) _), below_alloc HB5.out _⟩
end Go.Proofs.YtflolfbkpjgjaaaGreatDoor
end
section
namespace Go.Proofs.YtflolfbkpjgjaaaGreatDoor
open Go.RowKit Go.Proofs.YtflolfbkpjgjaaaGreatDoorW.PrintWords
open Go.Proofs.YtflolfbkpjgjaaaGreatDoorW.PrintMore
def intsN (l : List Nat) : List Int := l.map fun i : Nat => (i : Int)
theorem intsN_len (l : List Nat) : (intsN l).length = l.length := List.length_map ..
def ListV (W : World) (ba : Nat) (v : Value) (l : List Nat) : Prop :=
  (l = [] ∧ v = .slice none 0 0) ∨ (l ≠ [] ∧ ∃ ad c, v = .slice (some ad) l.length c ∧ l.length ≤ c ∧ CI W (some ad) l.length (intsN l) ∧ ba < ad.block)
theorem CI_kept {w W : World} {ad : Addr} {n : Nat} {xs : List Int} {ba : Nat} (h : CI w (some ad) n xs) (hk : Kept w W (fun k => k = ba)) (hne : ad.block ≠ ba) : CI W (some ad) n xs := by
  refine ⟨h.1, h.2.1, fun h0 => ?_⟩
  obtain ⟨ad', ea, hc⟩ := h.2.2 h0
  cases ea
  refine ⟨ad, rfl, fun j p hj => ?_⟩
  obtain ⟨c, h1, h2, h3⟩ := hc j p hj
  refine ⟨c, h1, h2, fun i u hu => cell_kept (h3 i u hu) hk ?_⟩
  show ¬ (ad.add (j * _ + i)).block = ba
  unfold Addr.add
  split <;> exact hne
theorem ListV.kept {w W : World} {ba : Nat} {v : Value} {l : List Nat} (h : ListV w ba v l) (hk : Kept w W (fun k => k = ba)) : ListV W ba v l := by
  rcases h with h | ⟨h0, ad, c, e, h1, h2, h3⟩
  · exact .inl h
  · exact .inr ⟨h0, ad, c, e, h1, CI_kept h2 hk (Nat.ne_of_gt h3), h3⟩
theorem ListV.asInts {w : World} {ba : Nat} {v : Value} {l : List Nat} (h : ListV w ba v l) : IntsAt w v (intsN l) := by
  rcases h with ⟨rfl, rfl⟩ | ⟨h0, ad, c, e, h1, h2, h3⟩
  · exact ⟨none, 0, rfl, Nat.le_refl _, ⟨rfl, by simp [intsN], fun h => absurd h (by simp [intsN])⟩⟩
  · exact ⟨some ad, c, by rw [intsN_len]; exact e, by rw [intsN_len]; exact h1, by rw [intsN_len]; exact h2⟩
structure OutS (w0 W : World) (gr gc bo ba : Nat) (r : Ros) (A : Option Addr) (c : Nat) (T : Option Addr) (d : Nat) (cv : Value) (out : List (List Nat)) : Prop where
  base : Below w0.heap.size w0 W
  hr : W.heap[gr]? = some (.cells (rosC r A c T d) 25 (0, 0))
  hc : W.heap[gc]? = some (.cells #[cv] 88 (0, 0))
  ho : W.heap[bo]? = some (.cells #[.slice (some ⟨ba, 0, none⟩) r.turns.length r.turns.length] 22 (0, 0))
  len : out.length = r.turns.length
  ha : ∃ vs : List Value, W.heap[ba]? = some (.cells vs.toArray 26 (0, 0)) ∧ vs.length = r.turns.length ∧ ∀ j, j < r.turns.length → ListV W ba (vs.getD j undef) (out.getD j [])
  ne : gr ≠ ba ∧ gc ≠ ba ∧ bo ≠ ba
  nb : w0.heap.size ≤ ba
section
variable {w0 W W' : World} {gr gc bo ba : Nat} {r : Ros} {A : Option Addr} {c : Nat} {T : Option Addr} {d : Nat} {cv : Value} {out : List (List Nat)}
theorem OutS.below (h : OutS w0 W gr gc bo ba r A c T d cv out) (hb : Below W.heap.size W W') : OutS w0 W' gr gc bo ba r A c T d cv out := by
  obtain ⟨vs, h1, h2, h3⟩ := h.ha
  exact ⟨below_step h.base hb, blk_below h.hr hb, blk_below h.hc hb, blk_below h.ho hb, h.len, ⟨vs, blk_below h1 hb, h2, fun j hj => (h3 j hj).kept (Kept.of_below hb _)⟩, h.ne, h.nb⟩
theorem OutS.set (h : OutS w0 W gr gc bo ba r A c T d cv out) {i : Nat} (hi : i < r.turns.length) {v : Value} {l : List Nat} (hv : ListV W ba v l) :
    OutS w0 (W.setCell ⟨ba, i, none⟩ v) gr gc bo ba r A c T d cv (out.set i l) := by
  obtain ⟨vs, h1, h2, h3⟩ := h.ha
  have hk : Kept W (W.setCell ⟨ba, i, none⟩ v) (fun k => k = ba) := (Kept.refl W (fun k => k = ba)).setCell (p := ⟨ba, i, none⟩) (.inl rfl) v
  have hl := h.len
  refine ⟨h.base.setCell h.nb _, blk_kept h.hr hk h.ne.1, blk_kept h.hc hk h.ne.2.1, blk_kept h.ho hk h.ne.2.2, by rw [List.length_set]; exact hl, ⟨vs.set i v, ?_, by rw [List.length_set]; exact h2, fun j hj => ?_⟩, h.ne, h.nb⟩
  · refine (blk_set h1 i v).trans ?_
    rw [List.setIfInBounds_toArray]
  · by_cases e : i = j
    · subst e
      rw [getD_set, getD_set, if_pos ⟨rfl, by omega⟩, if_pos ⟨rfl, by omega⟩]
      exact hv.kept hk
    · rw [getD_set, getD_set, if_neg (fun h => e h.1), if_neg (fun h => e h.1)]
      exact (h3 j hj).kept hk
theorem OutS.at (h : OutS w0 W gr gc bo ba r A c T d cv out) {i : Nat} (hi : i < r.turns.length) : ∃ v, W.cell? ⟨ba, i, none⟩ = some v ∧ ListV W ba v (out.getD i []) := by
  obtain ⟨vs, h1, h2, h3⟩ := h.ha
  refine ⟨vs.getD i undef, ?_, h3 i hi⟩
  refine (blk_cell h1 i).trans ?_
  rw [List.getElem?_toArray, List.getD_eq_getElem?_getD, List.getElem?_eq_getElem (by omega)]
  rfl
theorem OutS.frozen (h : OutS w0 W gr gc bo ba r A c T d cv out) (i : Nat) : W.frozen? ⟨ba, i, none⟩ = false := by
  obtain ⟨vs, h1, _⟩ := h.ha
  exact blk_frozen h1 i
end
def natF (F : List Int → List Int → Int) (a b : List Nat) : Int := F (intsN a) (intsN b)
end Go.Proofs.YtflolfbkpjgjaaaGreatDoor
end
section
namespace Go.Proofs.YtflolfbkpjgjaaaGreatDoor
open Go.RowKit Go.Proofs.YtflolfbkpjgjaaaGreatDoorW.PrintWords
open Go.Proofs.YtflolfbkpjgjaaaGreatDoorW.PrintMore
theorem kept_set {w W : World} {ba i : Nat} {v : Value} (h : Kept w W (fun k => k = ba)) : Kept w (W.setCell ⟨ba, i, none⟩ v) (fun k => k = ba) := h.setCell (p := ⟨ba, i, none⟩) (.inl rfl) v
theorem enter151 : CanEnter 151 := Go.Proofs.enters_of Tryz.func151 (by kernel_rfl) rfl
set_option maxHeartbeats 4000000 in
set_option maxRecDepth 100000 in
theorem better_calls (w0 W : World) (gr gc bo ba : Nat) (r : Ros) (A : Option Addr) (c : Nat) (T : Option Addr) (d : Nat) (g : Nat) (lb : Array Value) (F : List Int → List Int → Int) (D : List Int → Prop) (out : List (List Nat)) (i : Nat) (lv : Value) (l : List Nat)
    (hS : OutS w0 W gr gc bo ba r A c T d (.func (.func g) #[] lb) out) (eg : CanEnter g) (hcmp : CmpIn g lb F D w0) (h24 : r.turns.length ≤ 24) (hi : i < r.turns.length) (hl : ListV W ba lv l) (hlne : l ≠ []) (hd : D (intsN l)) (hdo : out.getD i [] ≠ [] → D (intsN (out.getD i []))) :
    Calls Tryz.prog 150 #[.int .i64 (i : Int), lv, .pointer (some ⟨bo, 0, none⟩), .pointer (some ⟨gc, 0, none⟩)] W fun e w' => e = .returned (.bool (better (natF F) out i l).2) ∧ OutS w0 w' gr gc bo ba r A c T d (.func (.func g) #[] lb) (better (natF F) out i l).1 ∧ Kept W w' (fun k => k = ba) := by
  have eg' : ∀ args w, (callFunc g args).run Tryz.prog w = .ok (.enter g args) w := eg
  have HS := Aside0.mk hS
  have HL := Aside0.mk hl
  have HL2 : Aside0 (IntsAt W lv (intsN l)) := ⟨hl.asInts⟩
  have hcmp := fun lv1 l1 d1 w hB h1 h2 => hcmp w lv1 lv l1 (intsN l) d1 hd h1 h2 hB
  obtain ⟨ad2, c2, rfl⟩ : ∃ ad2 c2, lv = .slice (some ad2) l.length c2 := by
    rcases hl with ⟨h, _⟩ | ⟨_, ad2, c2, e, _⟩
    · exact absurd h hlne
    · exact ⟨ad2, c2, e⟩
  have q0 : W.cell? ⟨bo, 0, none⟩ = some (.slice (some ⟨ba, 0, none⟩) r.turns.length r.turns.length) := (blk_cell hS.ho 0).trans rfl
  have q1 : W.cell? ⟨gc, 0, none⟩ = some (.func (.func g) #[] lb) := (blk_cell hS.hc 0).trans rfl
  obtain ⟨v, q2, hv⟩ := hS.at hi
  have q3 := hS.frozen i
  have b0 : (0 : Int) ≤ (i : Int) := by omega
  have b1 : (i : Int) < (r.turns.length : Int) := by omega
  have HV := Aside0.mk hv
  by_cases ho : out.getD i [] = []
  · have HB : Aside0 (better (natF F) out i l = (out.set i l, true)) := ⟨by unfold better; rw [if_neg (fun h => h.1 ho)]⟩
    rcases hv with ⟨_, rfl⟩ | ⟨h, _⟩
    · clear hS hl hcmp hd hdo eg
      go_enter Tryz.func150, Tryz.ntmps150
      go_wp2
      go_quiet (fail)
      go_wp2
      go_ret
      rw [HB.out]
      exact ⟨rfl, (HS.out.below (below_drewN (Below.refl _ _) _)).set hi (HL.out.kept (Kept.of_below (below_drewN (Below.refl _ _) _) _)), kept_set (Kept.of_below (below_drewN (Below.refl _ _) _) _)⟩
    · exact absurd ho h
  · rcases hv with ⟨h, _⟩ | ⟨_, ad, cc, rfl, hcc, hci, hne⟩
    · exact absurd h ho
    · have HDO := Aside0.mk (hdo ho)
      have hcal := hcmp (.slice (some ad) (out.getD i []).length cc) (intsN (out.getD i [])) (hdo ho)
      have HBt : Aside0 (natF F (out.getD i []) l ≤ 0 → better (natF F) out i l = (out, false)) := ⟨fun h => by unfold better; rw [if_pos ⟨ho, h⟩]⟩
      have HBf : Aside0 (¬ natF F (out.getD i []) l ≤ 0 → better (natF F) out i l = (out.set i l, true)) := ⟨fun h => by unfold better; rw [if_neg (fun h' => h h'.2)]⟩
      have HI1 := Aside0.mk hci
      change ∀ w, _ → _ → _ → Calls _ _ _ _ fun e w' => e = .returned (.int .i64 (natF F (out.getD i []) l)) ∧ _ at hcal
      have HL1 : Aside0 (IntsAt W (.slice (some ad) (out.getD i []).length cc) (intsN (out.getD i []))) := ⟨HV.out.asInts⟩
      generalize natF F (out.getD i []) l = m at *
      generalize (out.getD i []).length = n0 at *
      clear hS hl hcmp hd hdo eg hci ho
      by_cases hm : m ≤ 0
      · have HB := Aside0.mk (HBt.out hm)
        go_enter Tryz.func150, Tryz.ntmps150
        go_wp2
        go_region_held3 (fun w' => w'.cell? ⟨bo, 0, none⟩ = some (.slice (some ⟨ba, 0, none⟩) r.turns.length r.turns.length) ∧ w'.cell? ⟨gc, 0, none⟩ = some (.func (.func g) #[] lb) ∧ w'.cell? ⟨ba, i, none⟩ = some (.slice (some ad) n0 cc)) (go_keep) (first | (go_at_fn g; refine (hcal _ (below_drew HS.out.base) (IntsAt.below HL1.out (below_drew (Below.refl _ _))) (IntsAt.below HL2.out (below_drew (Below.refl _ _)))).mono ?_; rintro e w5 ⟨rfl, hb_⟩; have HB5 := Aside0.mk (below_step (below_drew (Below.refl _ W)) hb_); have HS5 := Aside0.mk (HS.out.below HB5.out); have s0 := (blk_cell HS5.out.ho 0).trans rfl; have s1 := (blk_cell HS5.out.hc 0).trans rfl; have s2 : w5.cell? ⟨ba, i, none⟩ = some (.slice (some ad) n0 cc) := pw_cell_below HB5.out q2; clear hb_))
        go_wp2
        go_ret
        rw [HB.out]
        exact ⟨rfl, HS5.out, Kept.of_below HB5.out _⟩
      · have HB := Aside0.mk (HBf.out hm)
        have hm2 : 0 < m := by omega
        go_enter Tryz.func150, Tryz.ntmps150
        go_wp2
        go_region_held3 (fun w' => w'.cell? ⟨bo, 0, none⟩ = some (.slice (some ⟨ba, 0, none⟩) r.turns.length r.turns.length) ∧ w'.cell? ⟨gc, 0, none⟩ = some (.func (.func g) #[] lb) ∧ w'.cell? ⟨ba, i, none⟩ = some (.slice (some ad) n0 cc)) (go_keep) (first | (go_at_fn g; refine (hcal _ (below_drew HS.out.base) (IntsAt.below HL1.out (below_drew (Below.refl _ _))) (IntsAt.below HL2.out (below_drew (Below.refl _ _)))).mono ?_; rintro e w5 ⟨rfl, hb_⟩; have HB5 := Aside0.mk (below_step (below_drew (Below.refl _ W)) hb_); have HS5 := Aside0.mk (HS.out.below HB5.out); have s0 := (blk_cell HS5.out.ho 0).trans rfl; have s1 := (blk_cell HS5.out.hc 0).trans rfl; have s2 : w5.cell? ⟨ba, i, none⟩ = some (.slice (some ad) n0 cc) := pw_cell_below HB5.out q2; have s3 := HS5.out.frozen i; clear hb_))
        go_wp2
        go_ret
        rw [HB.out]
        exact ⟨rfl, HS5.out.set hi (HL.out.kept (Kept.of_below HB5.out _)), kept_set (Kept.of_below HB5.out _)⟩
end Go.Proofs.YtflolfbkpjgjaaaGreatDoor
end
section
namespace Go.Proofs.YtflolfbkpjgjaaaGreatDoor
open Go.RowKit Go.Proofs.YtflolfbkpjgjaaaGreatDoorW.PrintWords
open Go.Proofs.YtflolfbkpjgjaaaGreatDoorW.PrintMore
section
variable {ops : Array Oper} {rest : List Oper} {o : Oper} {a : Act} {Q : Exit → Act → World → Prop}
theorem append_full (w : World) (hw : Region.wanted o (yielded ops a.tmps) = true) (s x : Operand) (ho : o.op = .call { callee := .builtin .append, args := #[s, x], argTypes := #[26, 26] })
    (ad : Addr) (n : Nat) (l : List Int) (y : Int) (gx : Nat) (hs : a.eval s = .slice (some ad) n n) (hl : CI w (some ad) n l) (h0 : 0 < n) (hn : n ≤ 1000) (hx : a.eval x = .slice (some ⟨gx, 0, none⟩) 1 1) (hy : w.cell? ⟨gx, 0, none⟩ = some (.int .i64 y))
    (hK : ∀ v' w', w'.ownsRow w.heap.size 3 1 v' (n + 1) (nums .i64 (l ++ [y])) → Below w.heap.size w w' → wpList Tryz.prog ops Q rest (a.put o.dst v') w') : wpList Tryz.prog ops Q (o :: rest) a w := by
  refine wpList_step fun K hK' => ?_
  rw [if_pos hw]
  obtain ⟨i0, hi, hzz⟩ := Option.map_eq_some_iff.1 info3
  simp only [Prod.mk.injEq] at hzz
  obtain ⟨hz0, hz1, hz2⟩ := hzz
  have hll : l.length = n := hl.1
  obtain ⟨ad', ea, hc⟩ := hl.2.2 h0
  cases ea
  obtain ⟨v', w', hrun, r1, r2⟩ := run_append_arg_grows (P := Tryz.prog) w 26 o.type 3 i0 (.int .i64 0) 1 8 Tryz.underlying26 hi hz0 hz1 hz2 rfl (by omega) ad n n (nums .i64 l) (by rw [nums_length]; omega)
    (fun j u hj => by
      unfold nums at hj
      rw [List.getElem?_map] at hj
      obtain ⟨p, hp, rfl⟩ := Option.map_eq_some_iff.1 hj
      obtain ⟨c, h1, h2, h3⟩ := hc j p hp
      have h2' : c = [.int .i64 p] := h2
      subst h2'
      have := h3 0 _ rfl
      rwa [show j * (Kd.int .i64).sz + 0 = j from Nat.mul_one j] at this)
    ⟨gx, 0, none⟩ 1 1 [.int .i64 y] rfl (fun j u hj => by
      have hj0 : j = 0 := by
        have := (List.getElem?_eq_some_iff.1 hj).1
        simp at this
        exact this
      subst hj0
      obtain rfl : Value.int .i64 y = u := by simpa using hj
      rw [add_plain]
      exact hy) (by omega) (by simp only [maxLen]; omega) (by omega)
  unfold Oper.wp
  simp [execOp, ho, resolve, invoke, builtin, hs, hx, hrun, Result.andThen]
  refine hK' _ _ (hK v' w' ?_ ⟨r2.os, r2.tape, r2.output, r2.size, fun k hk => r2.block k hk (by simp)⟩)
  have e : nums .i64 (l ++ [y]) = nums .i64 l ++ [.int .i64 y] := by simp [nums]
  rw [e]
  exact r1
end
theorem intsN_snoc (l : List Nat) (j : Nat) : intsN (l ++ [j]) = intsN l ++ [(j : Int)] := by simp [intsN]
theorem listV_own {w : World} {base ba : Nat} {v : Value} {l : List Nat} (h : w.ownsRow base 3 1 v l.length (nums .i64 (intsN l))) (hb : ba < base) (hne : l ≠ []) : ListV w ba v l := by
  refine .inr ⟨hne, ?_⟩
  have hlen : 0 < (intsN l).length := by rw [intsN_len]; exact List.length_pos_iff.2 hne
  have h' : w.ownsRow base 3 1 v (intsN l).length (nums .i64 (intsN l)) := by rw [intsN_len]; exact h
  obtain ⟨A, c, e, hc, hr⟩ := intsAt_own h'
  obtain ⟨ad, eA, _⟩ := hr.2.2 hlen
  subst eA
  rw [intsN_len] at e hc hr
  refine ⟨ad, c, e, hc, hr, ?_⟩
  have := own_base h ad.block (by rw [e]; rfl)
  omega
theorem always_pred (w : World) (D : Int → Prop) : PredIn 151 #[] (fun _ => true) D w := by
  intro W x hx hW
  show Calls Tryz.prog 151 #[.int .i64 x] W _
  go_enter Tryz.func151, Tryz.ntmps151
  go_wp2
  go_ret
  exact ⟨rfl, Below.refl _ _⟩
def GoodW (n : Nat) (out : List (List Nat)) : Prop := ∀ j, (∀ x ∈ out.getD j [], x < n) ∧ (out.getD j []).Nodup
theorem GoodW.turns {r : Ros} {out : List (List Nat)} (h24 : r.turns.length ≤ 24) (h : GoodW r.turns.length out) (j : Nat) : OfTurns r (intsN (out.getD j [])) := by
  refine ⟨fun x hx => ?_, ?_⟩
  · unfold intsN at hx
    obtain ⟨i, hi, rfl⟩ := List.mem_map.1 hx
    have := (h j).1 i hi
    omega
  · rw [intsN_len]
    have := nodup_len r.turns.length _ (h j).2 (h j).1
    omega
theorem GoodW.better {n : Nat} {cmp : List Nat → List Nat → Int} {out : List (List Nat)} (h : GoodW n out) {i : Nat} {l : List Nat} (h1 : ∀ x ∈ l, x < n) (h2 : l.Nodup) : GoodW n (better cmp out i l).1 := by
  unfold YtflolfbkpjgjaaaGreatDoor.better
  split
  · exact h
  · intro j
    show (∀ x ∈ (out.set i l).getD j [], x < n) ∧ ((out.set i l).getD j []).Nodup
    rw [getD_set]
    split
    · exact ⟨h1, h2⟩
    · exact h j
theorem GoodW.start (n m : Nat) : GoodW n (List.replicate m []) := by
  intro j
  have e : (List.replicate m ([] : List Nat)).getD j [] = [] := by
    rw [List.getD_eq_getElem?_getD, List.getElem?_replicate]
    split <;> rfl
  rw [e]
  exact ⟨by simp, List.nodup_nil⟩
theorem all_own (r : Ros) (gate : Int) : ownL r gate (fun _ => true) = intsN (grOf r gate).all := by
  unfold Gr.all ownL ownN grOf intsN
  congr 2
  funext i
  exact Bool.and_true _
theorem all_at (r : Ros) (gate : Int) (k : Nat) (hk : k < (grOf r gate).all.length) :
    ∃ x : Nat, (intsN (grOf r gate).all).getD k 0 = (x : Int) ∧ x < r.turns.length ∧ (grOf r gate).all.drop k = x :: (grOf r gate).all.drop (k + 1) := by
  refine ⟨(grOf r gate).all[k], ?_, (mem_all.1 (List.getElem_mem hk)).1, List.drop_eq_getElem_cons hk⟩
  unfold intsN
  rw [List.getD_eq_getElem?_getD, List.getElem?_map, List.getElem?_eq_getElem hk]
  rfl
end Go.Proofs.YtflolfbkpjgjaaaGreatDoor
end
section
namespace Go.Proofs.YtflolfbkpjgjaaaGreatDoor
open Go.RowKit Go.Proofs.YtflolfbkpjgjaaaGreatDoorW.PrintWords
open Go.Proofs.YtflolfbkpjgjaaaGreatDoorW.PrintMore
theorem CI_keptA {w W : World} {A : Option Addr} {n : Nat} {xs : List Int} {ba : Nat} (h : CI w A n xs) (hk : Kept w W (fun k => k = ba)) (hne : ∀ ad, A = some ad → ad.block ≠ ba) : CI W A n xs := by
  cases A with
  | some ad => exact CI_kept h hk (hne ad rfl)
  | none =>
    refine ⟨h.1, h.2.1, fun h0 => ?_⟩
    obtain ⟨ad, e, _⟩ := h.2.2 h0
    cases e
theorem listV_one (w : World) (ba x : Nat) (h : ba < w.heap.size) : ListV (w.alloc (.cells #[.int .i64 (x : Int)] 3)) ba (.slice (some ⟨w.heap.size, 0, none⟩) 1 1) [x] :=
  .inr ⟨by simp, ⟨w.heap.size, 0, none⟩, 1, rfl, Nat.le_refl _, ci_alloc w (intsN [x]) 3 (by simp [intsN]), by show ba < w.heap.size; omega⟩
theorem any_ints (l : List Nat) (y : Nat) : ((intsN l).any fun z => (y : Int) == z) = l.contains y := by
  unfold intsN
  rw [List.any_map, List.contains_eq_any_beq]
  congr 1
  funext i
  show ((y : Int) == (i : Int)) = (y == i)
  by_cases h : y = i
  · subst h; simp
  · rw [beq_eq_false_iff_ne.2 h, beq_eq_false_iff_ne.2 (by omega)]
theorem containsN_calls (ad : Addr) (c : Nat) (l : List Nat) (y : Nat) (w : World) (h : CI w (some ad) l.length (intsN l)) :
    Calls Tryz.prog 45 #[.slice (some ad) l.length c, .int .i64 (y : Int)] w fun e w' => e = .returned (.bool (l.contains y)) ∧ w = w' := by
  rw [← any_ints]
  have hb := h.2.1
  rw [← intsN_len l] at h hb ⊢
  exact contains_calls (some ad) c (intsN l) y w h hb
theorem turns_snoc {r : Ros} {l : List Nat} {y : Nat} (h : ∀ x ∈ l, x < r.turns.length) (hy : y < r.turns.length) (hl : l.length ≤ 1000) (h2 : l.length ≤ 999 := by omega) : OfTurns r (intsN (l ++ [y])) := by
  refine ⟨fun x hx => ?_, ?_⟩
  · unfold intsN at hx
    obtain ⟨i, hi, rfl⟩ := List.mem_map.1 hx
    rcases List.mem_append.1 hi with hi | hi
    · have := h i hi; omega
    · rw [List.mem_singleton.1 hi]; omega
  · rw [intsN_len, List.length_append]
    show l.length + 1 ≤ 1000
    omega
theorem nodup_snoc {l : List Nat} {y : Nat} (h : l.Nodup) (hc : l.contains y = false) : (l ++ [y]).Nodup := by
  rw [List.nodup_append]
  refine ⟨h, by simp, fun a ha b hb e => ?_⟩
  rw [List.mem_singleton.1 hb] at e
  subst e
  rw [List.contains_eq_mem] at hc
  simp at hc
  exact hc ha
theorem outS_made (w w4 : World) (gr gc : Nat) (r : Ros) (A : Option Addr) (c : Nat) (T : Option Addr) (d : Nat) (cv : Value) (HB4 : Below w.heap.size w w4) (BK : w4.heap[gr]? = some (.cells (rosC r A c T d) 25 (0, 0))) (BC : w4.heap[gc]? = some (.cells #[cv] 88 (0, 0))) :
    OutS w ((w4.alloc (.cells (madeCells #[.slice none 0 0] r.turns.length) 26)).alloc (.cells #[.slice (some ⟨w4.heap.size, 0, none⟩) r.turns.length r.turns.length] 22)) gr gc (w4.heap.size + 1) w4.heap.size r A c T d cv (List.replicate r.turns.length []) := by
  have l1 := blk_lt BK
  have l2 := blk_lt BC
  have hs := HB4.size
  refine ⟨below_alloc (below_alloc HB4 _) _, blk_alloc (blk_alloc BK _) _, blk_alloc (blk_alloc BC _) _, ?_, List.length_replicate, ⟨(madeCells #[.slice none 0 0] r.turns.length).toList, ?_, ?_, ?_⟩, ⟨by omega, by omega, by omega⟩, hs⟩
  · have h := alloc_at (w4.alloc (.cells (madeCells #[.slice none 0 0] r.turns.length) 26)) (.cells #[.slice (some ⟨w4.heap.size, 0, none⟩) r.turns.length r.turns.length] 22)
    rwa [alloc_sz] at h
  · refine (blk_alloc (alloc_at w4 _) _).trans ?_
    rw [Array.toArray_toList]
  · simp [madeCells]
  · intro j hj
    refine .inl ⟨?_, ?_⟩
    · rw [List.getD_eq_getElem?_getD, List.getElem?_replicate]
      split <;> rfl
    · simp [madeCells, List.getD_eq_getElem?_getD, hj, Nat.mod_one]
set_option maxHeartbeats 4000000 in
set_option maxRecDepth 100000 in
theorem ways_calls (v : Value) (r : Ros) (gate : Int) (g : Nat) (lb : Array Value) (F : List Int → List Int → Int) (w : World) (K : Nat) (fin : List (List Nat)) (V : Valid r) (hv : RosAt w v r) (eg : CanEnter g) (hcmp : CmpIn g lb F (OfTurns r) w) (hrun : waysW (grOf r gate) (natF F) K = some fin) :
    Calls Tryz.prog 85 #[v, .int .i64 gate, .func (.func g) #[] lb] w fun e w' => ∃ gr gc bo ba A c T d, e = .returned (.slice (some ⟨ba, 0, none⟩) r.turns.length r.turns.length) ∧ OutS w w' gr gc bo ba r A c T d (.func (.func g) #[] lb) fin ∧ GoodW r.turns.length fin := by
  have h24 : r.turns.length ≤ 24 := V.turns
  have eg' : ∀ args w, (callFunc g args).run Tryz.prog w = .ok (.enter g args) w := eg
  have hR := Aside0.mk hv
  have HV := Aside0.mk V
  have HC := Aside0.mk hcmp
  have HE := Aside0.mk eg
  have HRun := Aside0.mk hrun
  obtain ⟨A, c, T, d, rfl, h1, h2, h3, h4⟩ := hv
  clear h3 h4 V hcmp hrun eg
  generalize hPost : (fun (e : Ending) (w' : World) => ∃ gr gc bo ba A c T d, e = .returned (.slice (some ⟨ba, 0, none⟩) r.turns.length r.turns.length) ∧ OutS w w' gr gc bo ba r A c T d (.func (.func g) #[] lb) fin ∧ GoodW r.turns.length fin) = Post
  have HQ : Aside0 (∀ w' gr gc bo ba, OutS w w' gr gc bo ba r A c T d (.func (.func g) #[] lb) fin → GoodW r.turns.length fin → Post (.returned (.slice (some ⟨ba, 0, none⟩) r.turns.length r.turns.length)) w') := ⟨fun w' gr gc bo ba a b => hPost ▸ ⟨gr, gc, bo, ba, A, c, T, d, rfl, a, b⟩⟩
  clear hPost
  have hmf : ∀ (fn : Fn) (first cap : Array Value) (w : World), (Instr.makeFunc fn first cap).run Tryz.prog w = .ok (.func fn first cap) w := fun _ _ _ _ => rfl
  have hmk := print_make_of (P := Tryz.prog) 22 26 (.slice none 0 0) 24 Tryz.underlying22 info26 rfl (by omega) r.turns.length (by omega)
  go_enter Tryz.func85, Tryz.ntmps85
  go_wp2_with (first | ((with_reducible refine gate_dst (N := 3) rfl ?_); refine box_event ?hg (N := 3) ?hd (cs := rosC r A c T d) (t := 25) ?hr ?_; (case hd => rfl); (case hg => rfl); (case hr => first | (go_simp; done) | (go_simp; rfl)); intro gr hgr w3 hbox_ hb_; have BK := Aside0.mk hbox_; have Hgr := Aside0.mk hgr; have HB := Aside0.mk hb_; clear hbox_ hb_ hgr) | ((with_reducible refine gate_dst (N := 5) rfl ?_); refine box_event ?hg (N := 5) ?hd (cs := #[.func (.func g) #[] lb]) (t := 88) ?hr ?_; (case hd => rfl); (case hg => rfl); (case hr => first | (go_simp; done) | (go_simp; rfl)); intro gc hgc w4 hbox_ hb_; have BC := Aside0.mk hbox_; have Hgc := Aside0.mk hgc; have HB4 := Aside0.mk (below_step HB.out hb_); have BK4 := Aside0.mk (blk_below BK.out hb_); obtain ⟨q0, q1, q2, q3, q4⟩ := rosC_cells BK4.out; have pr : gr < w4.heap.size := blk_lt BK4.out; have pr1 := Nat.lt_add_right 1 pr; clear hbox_ hb_ hgc) | (have HS5 := Aside0.mk (outS_made w w4 gr gc r A c T d (.func (.func g) #[] lb) HB4.out BK4.out BC.out); generalize hW5 : ((w4.alloc (.cells (madeCells #[.slice none 0 0] r.turns.length) 26)).alloc (.cells #[.slice (some ⟨w4.heap.size, 0, none⟩) r.turns.length r.turns.length] 22)) = W5 at *; have HP5 : Aside0 (w4.heap.size + 1 < W5.heap.size) := ⟨blk_lt HS5.out.ho⟩; generalize hbo : w4.heap.size + 1 = bo at *; generalize w4.heap.size = ba at *; clear hW5; go_at_call 94; refine (own_calls _ r gate 151 #[] (fun _ => true) _ enter151 (hR.out.below HS5.out.base) h24 (always_pred _ _)).mono ?_; rintro e W6 ⟨lv, rfl, ho6, hb6⟩; rw [all_own] at ho6; have HO6 := Aside0.mk ho6; have HS6 := Aside0.mk (HS5.out.below hb6); obtain ⟨A1, c1, rfl, hc1, hl1⟩ := intsAt_own ho6; clear hb6 ho6))
  have hlen24 : (intsN (grOf r gate).all).length ≤ 24 := by have h := ownL_len r gate (fun _ => true); rw [all_own] at h; omega
  have HBo := Aside0.mk hbo
  have HA : Aside0 (CI W6 A1 (intsN (grOf r gate).all).length (intsN (grOf r gate).all) ∧ ∀ ad, A1 = some ad → ad.block ≠ ba) := ⟨hl1, fun ad e => by have h := own_base HO6.out ad.block (by rw [e]; rfl); have h2 := HP5.out; have h3 := HBo.out; omega⟩
  have HBl : Aside0 (ba < bo) := ⟨by have := HBo.out; omega⟩
  clear hbo hl1 q0 q1 q2 q3 q4 pr pr1
  go_loopw [28] (fun iv wr => ∃ (k : Nat) (out : List (List Nat)), k ≤ (intsN (grOf r gate).all).length ∧ iv = .int .i64 k ∧ Aside0 (OutS w wr gr gc bo ba r A c T d (.func (.func g) #[] lb) out ∧ GoodW r.turns.length out ∧ ((grOf r gate).all.drop k).foldl (fun (out : List (List Nat)) (i : Nat) => if begB r (i : Int) then (better (natF F) out i [i]).1 else out) out = initW (grOf r gate) (natF F) ∧ Kept W6 wr (fun k => k = ba))) (fun iv _ => (intsN (grOf r gate).all).length - (intOf iv).toNat)
  case atStart => exact ⟨0, _, Nat.zero_le _, rfl, ⟨HS6.out, GoodW.start _ _, rfl, Kept.refl _ _⟩⟩
  case round =>
    obtain ⟨k, out, hk, rfl, HX⟩ := hrel
    obtain ⟨q0, q1, q2, q3, q4⟩ := rosC_cells HX.out.1.hr
    by_cases hlt : k < (intsN (grOf r gate).all).length
    · obtain ⟨x, hx, hxn, hd⟩ := all_at r gate k (by rw [← intsN_len]; exact hlt)
      obtain ⟨ad, hAd, g4⟩ := CI_at (CI_keptA HA.out.1 HX.out.2.2.2 HA.out.2) (k : Int) (by omega) (by omega)
      cases hAd
      rw [show ((k : Nat) : Int).toNat = k from rfl, hx] at g4
      have HF : Aside0 (((grOf r gate).all.drop (k + 1)).foldl (fun (out : List (List Nat)) (i : Nat) => if begB r (i : Int) then (better (natF F) out i [i]).1 else out) ((fun (out : List (List Nat)) (i : Nat) => if begB r (i : Int) then (better (natF F) out i [i]).1 else out) out x) = initW (grOf r gate) (natF F)) := ⟨by have h := HX.out.2.2.1; rw [hd, List.foldl_cons] at h; exact h⟩
      have hnev := fun (w : World) (s : Bool) => never_calls (begLate r (x : Int)) s w
      change ∀ w s, Calls _ _ _ _ fun e w' => e = .returned (.bool (begB r (x : Int))) ∧ _ at hnev
      clear hx hd
      cases eb : begB r (x : Int)
      · simp only [eb] at hnev
        have HF' : Aside0 (((grOf r gate).all.drop (k + 1)).foldl (fun (out : List (List Nat)) (i : Nat) => if begB r (i : Int) then (better (natF F) out i [i]).1 else out) out = initW (grOf r gate) (natF F)) := ⟨by have h := HF.out; simp only [eb] at h; exact h⟩
        go_wp2_with (first | (go_at_call 96; refine (begin_calls _ r (x : Int) _ (hR.out.below HX.out.1.base) HV.out (by omega) (by omega)).mono ?_; rintro e w7 ⟨rfl, hb_⟩; have HB7 := Aside0.mk hb_; clear hb_) | (go_at_call 97; refine (hnev _ _).mono ?_; rintro e w8 ⟨rfl, hb_⟩; have HB8 := Aside0.mk (below_step HB7.out hb_); clear hb_))
        go_roundw
        case rel => exact ⟨k + 1, out, by omega, by go_num, ⟨HX.out.1.below HB8.out, HX.out.2.1, HF'.out, HX.out.2.2.2.below HB8.out⟩⟩
        case measure => simp [intOf]; omega
      · simp only [eb] at hnev
        have HF' : Aside0 (((grOf r gate).all.drop (k + 1)).foldl (fun (out : List (List Nat)) (i : Nat) => if begB r (i : Int) then (better (natF F) out i [i]).1 else out) (better (natF F) out x [x]).1 = initW (grOf r gate) (natF F)) := ⟨by have h := HF.out; simp only [eb, if_true] at h; exact h⟩
        go_wp2_with (first | (go_at_call 96; refine (begin_calls _ r (x : Int) _ (hR.out.below HX.out.1.base) HV.out (by omega) (by omega)).mono ?_; rintro e w7 ⟨rfl, hb_⟩; have HB7 := Aside0.mk hb_; clear hb_) | (go_at_call 97; refine (hnev _ _).mono ?_; rintro e w8 ⟨rfl, hb_⟩; have HB8 := Aside0.mk (below_step HB7.out hb_); clear hb_) | (go_at_call 150; go_loud (refine (better_calls w _ gr gc bo ba r A c T d g lb F (OfTurns r) out x _ [x] (HX.out.1.below (below_alloc HB8.out _)) HE.out HC.out h24 hxn ?_ (by simp) ?_ ?_).mono ?_); go_loud (exact listV_one _ _ _ (by have := HBl.out; have := HB8.out.size; have := blk_lt HX.out.1.ho; omega)); go_loud (exact ⟨by intro z hz; simp [intsN] at hz; omega, by simp [intsN]⟩); go_loud (exact fun _ => GoodW.turns h24 HX.out.2.1 x); rintro e w9 ⟨rfl, hs_, hk_⟩; have HS9 := Aside0.mk hs_; have HK9 := Aside0.mk (HX.out.2.2.2.then_ (Kept.of_below (below_alloc HB8.out _) (fun k => k = ba)) (fun k hk => .inl hk) |>.then_ hk_ (fun k hk => .inl hk)); clear hs_ hk_))
        go_roundw
        case rel => exact ⟨k + 1, _, by omega, by go_num, ⟨HS9.out, HX.out.2.1.better (by simpa using hxn) (by simp), HF'.out, HK9.out⟩⟩
        case measure => simp [intOf]; omega
    · have hkn : k = (intsN (grOf r gate).all).length := by omega
      have HI : Aside0 (out = initW (grOf r gate) (natF F)) := ⟨by
        have h := HX.out.2.2.1
        rw [List.drop_eq_nil_of_le (by rw [hkn, intsN_len]; omega)] at h
        exact h⟩
      clear hlt hk
      subst hkn
      have H1 : Aside0 (OutS w wr gr gc bo ba r A c T d (.func (.func g) #[] lb) out ∧ GoodW r.turns.length out ∧ Kept W6 wr (fun k => k = ba)) := ⟨HX.out.1, HX.out.2.1, HX.out.2.2.2⟩
      clear HX q0 q1 q2 q3 q4
      go_wp2
      go_loopg [12] (K) (fun gg s12 wA => ∃ (K2 : Nat) (o2 : List (List Nat)) (ch : Bool), K2 ≤ gg ∧ s12 = .bool ch ∧ Aside0 ((ch = true ∧ runW (grOf r gate) (natF F) K2 o2 = some fin) ∨ (ch = false ∧ o2 = fin)) ∧ Aside0 (OutS w wA gr gc bo ba r A c T d (.func (.func g) #[] lb) o2 ∧ GoodW r.turns.length o2 ∧ Kept W6 wA (fun k => k = ba)))
      case atStart => exact ⟨K, out, true, Nat.le_refl _, rfl, ⟨.inl ⟨rfl, by rw [HI.out]; exact HRun.out⟩⟩, H1⟩
      case round =>
        clear H1
        obtain ⟨K2, o2, ch, hK2, rfl, HCh, H2⟩ := hrel
        have qb := (blk_cell H2.out.1.ho 0).trans rfl
        cases ch
        · have HE2 : Aside0 (o2 = fin) := ⟨by rcases HCh.out with ⟨h, _⟩ | ⟨_, h⟩; cases h; exact h⟩
          go_wp2
          exact HQ.out _ _ _ _ _ (HE2.out ▸ H2.out.1) (HE2.out ▸ H2.out.2.1)
        · obtain ⟨K3, rfl, HR3⟩ : ∃ K3, K2 = K3 + 1 ∧ Aside0 ((if (roundW (grOf r gate) (natF F) o2).2 then runW (grOf r gate) (natF F) K3 (roundW (grOf r gate) (natF F) o2).1 else some (roundW (grOf r gate) (natF F) o2).1) = some fin) := by
            rcases HCh.out with ⟨_, h⟩ | ⟨h, _⟩
            · cases K2 with
              | zero => simp [runW] at h
              | succ K3 => exact ⟨K3, rfl, ⟨h⟩⟩
            · cases h
          clear qb HCh
          go_wp2
          go_loopw [12, 45] (fun cv iv wB => ∃ (a : Nat) (s : List (List Nat) × Bool), a ≤ (intsN (grOf r gate).all).length ∧ iv = .int .i64 a ∧ cv = .bool s.2 ∧ Aside0 (OutS w wB gr gc bo ba r A c T d (.func (.func g) #[] lb) s.1 ∧ GoodW r.turns.length s.1 ∧ ((grOf r gate).all.drop a).foldl (rowW (grOf r gate) (natF F)) s = roundW (grOf r gate) (natF F) o2 ∧ Kept W6 wB (fun k => k = ba))) (fun _ iv _ => (intsN (grOf r gate).all).length - (intOf iv).toNat)
          case atStart => exact ⟨0, (o2, false), Nat.zero_le _, rfl, rfl, ⟨H2.out.1, H2.out.2.1, rfl, H2.out.2.2⟩⟩
          case round =>
            clear H2
            obtain ⟨a, s, ha, rfl, rfl, H3⟩ := hrel
            by_cases hlt3 : a < (intsN (grOf r gate).all).length
            · obtain ⟨x, hx, hxn, hd⟩ := all_at r gate a (by rw [← intsN_len]; exact hlt3)
              obtain ⟨ad, hAd, g4⟩ := CI_at (CI_keptA HA.out.1 H3.out.2.2.2 HA.out.2) (a : Int) (by omega) (by omega)
              cases hAd
              rw [show ((a : Nat) : Int).toNat = a from rfl, hx] at g4
              have HF : Aside0 (((grOf r gate).all.drop (a + 1)).foldl (rowW (grOf r gate) (natF F)) (rowW (grOf r gate) (natF F) s x) = roundW (grOf r gate) (natF F) o2) := ⟨by have h := H3.out.2.2.1; rw [hd, List.foldl_cons] at h; exact h⟩
              clear hx hd
              go_wp2
              clear g4
              go_loopw [12, 51] (fun cv iv wC => ∃ (b : Nat) (t : List (List Nat) × Bool), b ≤ (intsN (grOf r gate).all).length ∧ iv = .int .i64 b ∧ cv = .bool t.2 ∧ Aside0 (OutS w wC gr gc bo ba r A c T d (.func (.func g) #[] lb) t.1 ∧ GoodW r.turns.length t.1 ∧ ((grOf r gate).all.drop b).foldl (stepW (grOf r gate) (natF F) x) t = rowW (grOf r gate) (natF F) s x ∧ Kept W6 wC (fun k => k = ba))) (fun _ iv _ => (intsN (grOf r gate).all).length - (intOf iv).toNat)
              case atStart => exact ⟨0, s, Nat.zero_le _, rfl, rfl, ⟨H3.out.1, H3.out.2.1, rfl, H3.out.2.2.2⟩⟩
              case round =>
                clear H3
                obtain ⟨b, t, hb, rfl, rfl, H4⟩ := hrel
                obtain ⟨q0, q1, q2, q3, q4⟩ := rosC_cells H4.out.1.hr
                have qb := (blk_cell H4.out.1.ho 0).trans rfl
                by_cases hlt4 : b < (intsN (grOf r gate).all).length
                · obtain ⟨y, hy, hyn, hd⟩ := all_at r gate b (by rw [← intsN_len]; exact hlt4)
                  obtain ⟨ad, hAd, g4⟩ := CI_at (CI_keptA HA.out.1 H4.out.2.2.2 HA.out.2) (b : Int) (by omega) (by omega)
                  cases hAd
                  rw [show ((b : Nat) : Int).toNat = b from rfl, hy] at g4
                  have HF4 : Aside0 (((grOf r gate).all.drop (b + 1)).foldl (stepW (grOf r gate) (natF F) x) (stepW (grOf r gate) (natF F) x t y) = rowW (grOf r gate) (natF F) s x) := ⟨by have h := H4.out.2.2.1; rw [hd, List.foldl_cons] at h; exact h⟩
                  have x0 : (0 : Int) ≤ (x : Int) := by omega
                  have x1 : (x : Int) < (r.turns.length : Int) := by omega
                  obtain ⟨lv, qx, hlv⟩ := H4.out.1.at hxn
                  have HGl := Aside0.mk (H4.out.2.1 x)
                  have HBt : Aside0 (∀ l, t.1.getD x [] = l → (l = [] → stepW (grOf r gate) (natF F) x t y = t) ∧ (folB r (x : Int) (y : Int) = false → stepW (grOf r gate) (natF F) x t y = t) ∧ (l.contains y = true → stepW (grOf r gate) (natF F) x t y = t) ∧ (l ≠ [] → folB r (x : Int) (y : Int) = true → l.contains y = false → stepW (grOf r gate) (natF F) x t y = ((better (natF F) t.1 y (l ++ [y])).1, (better (natF F) t.1 y (l ++ [y])).2 || t.2))) := ⟨fun l e => by
                    subst e
                    unfold stepW
                    refine ⟨fun h => if_neg (fun h' => h'.1 h), fun h => if_neg (fun h' => by have h2 : folB r (x : Int) (y : Int) = true := h'.2.1; rw [h] at h2; cases h2), fun h => if_neg (fun h' => by rw [h] at h'; cases h'.2.2), fun h1 h2 h3 => if_pos ⟨h1, h2, h3⟩⟩⟩
                  clear hy hd
                  generalize hgl : t.1.getD x [] = l at *
                  have HB4 := Aside0.mk (HBt.out l rfl)
                  clear HBt
                  rcases hlv with ⟨rfl, rfl⟩ | ⟨hl0', ad2, c2, rfl, hlc, hci, hne2⟩
                  · have HF' : Aside0 (((grOf r gate).all.drop (b + 1)).foldl (stepW (grOf r gate) (natF F) x) t = rowW (grOf r gate) (natF F) s x) := ⟨by have h := HF4.out; rw [HB4.out.1 rfl] at h; exact h⟩
                    go_wp2_with fail
                    go_roundw
                    case rel => exact ⟨b + 1, t, by omega, by go_num, rfl, ⟨H4.out.1, H4.out.2.1, HF'.out, H4.out.2.2.2⟩⟩
                    case measure => simp [intOf]; omega
                  · have HCI := Aside0.mk hci
                    have hl0 : 0 < l.length := List.length_pos_iff.2 hl0'
                    have hl24 : l.length ≤ r.turns.length := nodup_len _ l HGl.out.2 HGl.out.1
                    have hl1000 : l.length ≤ 1000 := by omega
                    have i1 : (l.length : Int) ≤ (c2 : Int) := by omega
                    have hfol := fun W (hB : Below w.heap.size w W) => follows_calls (.agg (rosC r A c T d)) r (x : Int) (y : Int) W (hR.out.below hB) HV.out (by omega) (by omega) (by omega) (by omega)
                    have hcon := fun W (h : CI W (some ad2) l.length (intsN l)) => containsN_calls ad2 c2 l y W h
                    have hbet := fun W lv (hS : OutS w W gr gc bo ba r A c T d (.func (.func g) #[] lb) t.1) (hl : ListV W ba lv (l ++ [y])) => better_calls w W gr gc bo ba r A c T d g lb F (OfTurns r) t.1 y lv (l ++ [y]) hS HE.out HC.out h24 hyn hl (by simp) (turns_snoc HGl.out.1 hyn hl1000) (fun _ => GoodW.turns h24 H4.out.2.1 y)
                    have HLV : Aside0 (∀ v9 w9 base, w9.ownsRow base 3 1 v9 (l.length + 1) (nums .i64 (intsN l ++ [(y : Int)])) → ba < base → ListV w9 ba v9 (l ++ [y])) := ⟨fun v9 w9 base h1 h2 => listV_own (base := base) (by rw [intsN_snoc, List.length_append]; exact h1) h2 (by simp)⟩
                    have HG9 : Aside0 (l.contains y = false → GoodW r.turns.length (better (natF F) t.1 y (l ++ [y])).1) := ⟨fun h => H4.out.2.1.better (fun z hz => by rcases List.mem_append.1 hz with h' | h'; exact HGl.out.1 z h'; rw [List.mem_singleton.1 h']; exact hyn) (nodup_snoc HGl.out.2 h)⟩
                    clear hci
                    cases ef : folB r (x : Int) (y : Int)
                    · have HF' : Aside0 (((grOf r gate).all.drop (b + 1)).foldl (stepW (grOf r gate) (natF F) x) t = rowW (grOf r gate) (natF F) s x) := ⟨by have h := HF4.out; rw [HB4.out.2.1 ef] at h; exact h⟩
                      simp only [ef] at hfol
                      go_wp2_with (first | (go_at_call 99; refine (hfol _ (H4.out.1.base)).mono ?_; rintro e w5 ⟨rfl, hb_⟩; have HB5 := Aside0.mk hb_; clear hb_))
                      go_roundw
                      case rel => exact ⟨b + 1, t, by omega, by go_num, rfl, ⟨H4.out.1.below HB5.out, H4.out.2.1, HF'.out, H4.out.2.2.2.below HB5.out⟩⟩
                      case measure => simp [intOf]; omega
                    · simp only [ef] at hfol
                      cases ec : l.contains y
                      · simp only [ec] at hcon
                        have HG' := Aside0.mk (HG9.out ec)
                        have HF' : Aside0 (((grOf r gate).all.drop (b + 1)).foldl (stepW (grOf r gate) (natF F) x) ((better (natF F) t.1 y (l ++ [y])).1, (better (natF F) t.1 y (l ++ [y])).2 || t.2) = rowW (grOf r gate) (natF F) s x) := ⟨by have h := HF4.out; rw [HB4.out.2.2.2 hl0' ef ec] at h; exact h⟩
                        clear HG9 HB4 HF4
                        generalize better (natF F) t.1 y (l ++ [y]) = bb at *
                        obtain ⟨o9, c9⟩ := bb
                        dsimp only at hbet HG' HF'
                        cases c9
                        · go_wp2_with (first | (go_at_call 99; refine (hfol _ (H4.out.1.base)).mono ?_; rintro e w5 ⟨rfl, hb_⟩; have HB5 := Aside0.mk hb_; clear hb_) | (go_at_call 45; refine (hcon _ (Kd.C_below HCI.out HB5.out)).mono ?_; rintro e w6 ⟨rfl, rfl⟩) | (at_builtin; go_loud (refine append_full _ rfl (.tmp 81) (.tmp 83) rfl ad2 l.length (intsN l) (y : Int) _ rfl (Kd.C_below HCI.out (below_alloc HB5.out _)) hl0 hl1000 rfl ((blk_cell (alloc_at _ _) 0).trans rfl) ?_); intro v9 w9 ho9 hb9; have HO9 := Aside0.mk ho9; have HB9 := Aside0.mk (below_step (below_alloc HB5.out _) hb9); clear ho9 hb9) | (go_at_call 150; go_loud (refine (hbet _ _ (H4.out.1.below HB9.out) (HLV.out _ _ _ HO9.out (by have := HB5.out.size; have := blk_lt H4.out.1.ho; have := HBl.out; rw [alloc_sz]; omega))).mono ?_); rintro e w10 ⟨rfl, hs_, hk_⟩; have HS10 := Aside0.mk hs_; have HK10 := Aside0.mk ((H4.out.2.2.2.below HB9.out).then_ hk_ (fun k hk => .inl hk)); clear hs_ hk_))
                          go_roundw
                          case rel => exact ⟨b + 1, (o9, t.2), by omega, by go_num, rfl, ⟨HS10.out, HG'.out, HF'.out, HK10.out⟩⟩
                          case measure => simp [intOf]; omega
                        · go_wp2_with (first | (go_at_call 99; refine (hfol _ (H4.out.1.base)).mono ?_; rintro e w5 ⟨rfl, hb_⟩; have HB5 := Aside0.mk hb_; clear hb_) | (go_at_call 45; refine (hcon _ (Kd.C_below HCI.out HB5.out)).mono ?_; rintro e w6 ⟨rfl, rfl⟩) | (at_builtin; go_loud (refine append_full _ rfl (.tmp 81) (.tmp 83) rfl ad2 l.length (intsN l) (y : Int) _ rfl (Kd.C_below HCI.out (below_alloc HB5.out _)) hl0 hl1000 rfl ((blk_cell (alloc_at _ _) 0).trans rfl) ?_); intro v9 w9 ho9 hb9; have HO9 := Aside0.mk ho9; have HB9 := Aside0.mk (below_step (below_alloc HB5.out _) hb9); clear ho9 hb9) | (go_at_call 150; go_loud (refine (hbet _ _ (H4.out.1.below HB9.out) (HLV.out _ _ _ HO9.out (by have := HB5.out.size; have := blk_lt H4.out.1.ho; have := HBl.out; rw [alloc_sz]; omega))).mono ?_); rintro e w10 ⟨rfl, hs_, hk_⟩; have HS10 := Aside0.mk hs_; have HK10 := Aside0.mk ((H4.out.2.2.2.below HB9.out).then_ hk_ (fun k hk => .inl hk)); clear hs_ hk_))
                          go_roundw
                          case rel => exact ⟨b + 1, (o9, true), by omega, by go_num, rfl, ⟨HS10.out, HG'.out, HF'.out, HK10.out⟩⟩
                          case measure => simp [intOf]; omega
                      · simp only [ec] at hcon
                        have HF' : Aside0 (((grOf r gate).all.drop (b + 1)).foldl (stepW (grOf r gate) (natF F) x) t = rowW (grOf r gate) (natF F) s x) := ⟨by have h := HF4.out; rw [HB4.out.2.2.1 ec] at h; exact h⟩
                        go_wp2_with (first | (go_at_call 99; refine (hfol _ (H4.out.1.base)).mono ?_; rintro e w5 ⟨rfl, hb_⟩; have HB5 := Aside0.mk hb_; clear hb_) | (go_at_call 45; refine (hcon _ (Kd.C_below HCI.out HB5.out)).mono ?_; rintro e w6 ⟨rfl, rfl⟩))
                        go_roundw
                        case rel => exact ⟨b + 1, t, by omega, by go_num, rfl, ⟨H4.out.1.below HB5.out, H4.out.2.1, HF'.out, H4.out.2.2.2.below HB5.out⟩⟩
                        case measure => simp [intOf]; omega
                · have hbn : b = (intsN (grOf r gate).all).length := by omega
                  have HI4 : Aside0 (t = rowW (grOf r gate) (natF F) s x) := ⟨by
                    have h := H4.out.2.2.1
                    rw [List.drop_eq_nil_of_le (by rw [hbn, intsN_len]; omega)] at h
                    exact h⟩
                  go_wp2
                  go_roundw
                  case rel => exact ⟨a + 1, t, by omega, by go_num, rfl, ⟨H4.out.1, H4.out.2.1, by rw [HI4.out]; exact HF.out, H4.out.2.2.2⟩⟩
                  case measure => simp [intOf]; omega
            · have han : a = (intsN (grOf r gate).all).length := by omega
              have HI3 : Aside0 (s = roundW (grOf r gate) (natF F) o2) := ⟨by
                have h := H3.out.2.2.1
                rw [List.drop_eq_nil_of_le (by rw [han, intsN_len]; omega)] at h
                exact h⟩
              go_wp2
              go_roundg (K3)
              case measure => omega
              case rel => exact ⟨K3, s.1, s.2, Nat.le_refl _, rfl, ⟨by
                have h := HR3.out
                rw [← HI3.out] at h
                obtain ⟨s1, s2⟩ := s
                cases s2
                · exact .inr ⟨rfl, Option.some.inj h⟩
                · exact .inl ⟨rfl, h⟩⟩, ⟨H3.out.1, H3.out.2.1, H3.out.2.2.2⟩⟩
end Go.Proofs.YtflolfbkpjgjaaaGreatDoor
end
section
namespace Go.Proofs.YtflolfbkpjgjaaaGreatDoor
open Go.RowKit Go.Proofs.YtflolfbkpjgjaaaGreatDoorW.PrintWords
open Go.Proofs.YtflolfbkpjgjaaaGreatDoorW.PrintMore
theorem OutS.out_at {w0 W : World} {gr gc bo ba : Nat} {r : Ros} {A : Option Addr} {c : Nat} {T : Option Addr} {d : Nat} {cv : Value} {out : List (List Nat)} (h : OutS w0 W gr gc bo ba r A c T d cv out) {w1 : World} (hb : Below W.heap.size W w1) {i : Nat} (hi : i < r.turns.length) : ∃ v, w1.cell? ⟨ba, i, none⟩ = some v ∧ ListV w1 ba v (out.getD i []) := (h.below hb).at hi
set_option maxHeartbeats 4000000 in
set_option maxRecDepth 100000 in
theorem plan_calls (v : Value) (r : Ros) (gate : Int) (g : Nat) (lb : Array Value) (F : List Int → List Int → Int) (w : World) (K : Nat) (fin : List (List Nat)) (V : Valid r) (hv : RosAt w v r) (eg : CanEnter g) (hcmp : CmpIn g lb F (OfTurns r) w) (hrun : waysW (grOf r gate) (natF F) K = some fin) :
    Calls Tryz.prog 83 #[v, .int .i64 gate, .func (.func g) #[] lb] w fun e w' => ∃ lv ba, e = .returned (.tuple #[lv, .bool (decide (planW (grOf r gate) (natF F) fin ≠ []))]) ∧ ListV w' ba lv (planW (grOf r gate) (natF F) fin) ∧ Below w.heap.size w w' := by
  have h24 : r.turns.length ≤ 24 := V.turns
  have eg' : ∀ args w, (callFunc g args).run Tryz.prog w = .ok (.enter g args) w := eg
  have hR := Aside0.mk hv
  have HV := Aside0.mk V
  have HC := Aside0.mk hcmp
  have HE := Aside0.mk eg
  have HRun := Aside0.mk hrun
  obtain ⟨A, c, T, d, rfl, h1, h2, h3, h4⟩ := hv
  clear h3 h4 V hcmp hrun eg
  generalize hPost : (fun (e : Ending) (w' : World) => ∃ lv ba, e = .returned (.tuple #[lv, .bool (decide (planW (grOf r gate) (natF F) fin ≠ []))]) ∧ ListV w' ba lv (planW (grOf r gate) (natF F) fin) ∧ Below w.heap.size w w') = Post
  have HQ : Aside0 (∀ w' lv ba, ListV w' ba lv (planW (grOf r gate) (natF F) fin) → Below w.heap.size w w' → Post (.returned (.tuple #[lv, .bool (decide (planW (grOf r gate) (natF F) fin ≠ []))])) w') := ⟨fun w' lv ba a b => hPost ▸ ⟨lv, ba, rfl, a, b⟩⟩
  clear hPost
  have hnn : (none : Option Addr).isNone = true := rfl
  go_enter Tryz.func83, Tryz.ntmps83
  go_wp2_with (first | ((with_reducible refine gate_dst (N := 3) rfl ?_); refine box_event ?hg (N := 3) ?hd (cs := rosC r A c T d) (t := 25) ?hr ?_; (case hd => rfl); (case hg => rfl); (case hr => first | (go_simp; done) | (go_simp; rfl)); intro gr hgr w3 hbox_ hb_; have BK := Aside0.mk hbox_; have Hgr := Aside0.mk hgr; have HB := Aside0.mk hb_; obtain ⟨q0, q1, q2, q3, q4⟩ := rosC_cells hbox_; clear hbox_ hb_ hgr) | (go_at_call 85; refine (ways_calls _ r gate g lb F _ K fin HV.out (hR.out.below HB.out) HE.out (HC.out.below HB.out) HRun.out).mono ?_; rintro e w6 ⟨gr6, gc6, bo6, ba, A6, c6, T6, d6, rfl, hs_, hg_⟩; have HS6 := Aside0.mk hs_; have HG6 := Aside0.mk hg_; have BK6 := Aside0.mk (blk_below BK.out hs_.base); have HB6 := Aside0.mk (below_step HB.out hs_.base); clear hs_ hg_))
  clear q0 q1 q2 q3 q4
  go_loopw [8, 16] (fun bv iv wr => ∃ (k : Nat) (best : List Nat), k ≤ r.turns.length ∧ iv = .int .i64 k ∧ Aside0 (ListV wr ba bv best ∧ ((List.range r.turns.length).drop k).foldl (pickW (grOf r gate) (natF F) fin) best = planW (grOf r gate) (natF F) fin ∧ ((∀ x ∈ best, x < r.turns.length) ∧ best.Nodup) ∧ Below w6.heap.size w6 wr)) (fun _ iv _ => r.turns.length - (intOf iv).toNat)
  case atStart => exact ⟨0, [], Nat.zero_le _, rfl, ⟨.inl ⟨rfl, rfl⟩, rfl, ⟨by simp, List.nodup_nil⟩, Below.refl _ _⟩⟩
  case round =>
    obtain ⟨k, best, hk, rfl, HX⟩ := hrel
    obtain ⟨q0, q1, q2, q3, q4⟩ := rosC_cells (blk_below BK6.out HX.out.2.2.2)
    by_cases hlt : k < r.turns.length
    · obtain ⟨lv, qv, hlv⟩ := HS6.out.out_at HX.out.2.2.2 hlt
      have HGl := Aside0.mk (HG6.out k)
      have HF : Aside0 (((List.range r.turns.length).drop (k + 1)).foldl (pickW (grOf r gate) (natF F) fin) (pickW (grOf r gate) (natF F) fin best k) = planW (grOf r gate) (natF F) fin) := ⟨by
        have h := HX.out.2.1
        rw [List.drop_eq_getElem_cons (by simpa using hlt), List.foldl_cons, List.getElem_range] at h
        exact h⟩
      have HPk : Aside0 (∀ l, fin.getD k [] = l → (l = [] → pickW (grOf r gate) (natF F) fin best k = best) ∧ (endB r (k : Int) = false → pickW (grOf r gate) (natF F) fin best k = best) ∧ (l ≠ [] → endB r (k : Int) = true → best = [] → pickW (grOf r gate) (natF F) fin best k = l) ∧ (l ≠ [] → endB r (k : Int) = true → natF F l best < 0 → pickW (grOf r gate) (natF F) fin best k = l) ∧ (best ≠ [] → ¬ natF F l best < 0 → pickW (grOf r gate) (natF F) fin best k = best)) := ⟨fun l e => by
        subst e
        unfold pickW
        refine ⟨fun h => if_neg (fun h' => h'.1 h), fun h => if_neg (fun h' => by have h2 : endB r (k : Int) = true := h'.2.1; rw [h] at h2; cases h2), fun h1 h2 h3 => if_pos ⟨h1, h2, .inl h3⟩, fun h1 h2 h3 => if_pos ⟨h1, h2, .inr h3⟩, fun h1 h2 => if_neg (fun h' => h'.2.2.elim h1 h2)⟩⟩
      have HD := Aside0.mk (GoodW.turns h24 HG6.out k)
      generalize hgl : fin.getD k [] = l at *
      have HP := Aside0.mk (HPk.out l rfl)
      have hb0 : (0 : Int) ≤ (k : Int) := by omega
      have hb1 : (k : Int) < (r.turns.length : Int) := by omega
      have hend := fun W (hB : Below w6.heap.size w6 W) => end_calls (.agg (rosC r A c T d)) r (k : Int) W (hR.out.below (below_step HB6.out hB)) HV.out (by omega) (by omega)
      have hnev := fun (w : World) (s : Bool) => never_calls (endLate r (k : Int)) s w
      change ∀ w s, Calls _ _ _ _ fun e w' => e = .returned (.bool (endB r (k : Int))) ∧ _ at hnev
      clear HPk hgl
      rcases hlv with ⟨rfl, rfl⟩ | ⟨hl0, ad, c2, rfl, hlc, hci, hne⟩
      · have HP' : Aside0 (((List.range r.turns.length).drop (k + 1)).foldl (pickW (grOf r gate) (natF F) fin) best = planW (grOf r gate) (natF F) fin) := ⟨by have h := HF.out; rw [HP.out.1 rfl] at h; exact h⟩
        go_wp2_with fail
        go_roundw
        case rel => exact ⟨k + 1, best, by omega, by go_num, ⟨HX.out.1.kept (Kept.of_below (Below.refl _ _) _), HP'.out, HX.out.2.2.1, below_step HX.out.2.2.2 (Below.refl _ _)⟩⟩
        case measure => simp [intOf]; omega
      · have HLV : Aside0 (ListV _ ba (.slice (some ad) l.length c2) l) := ⟨.inr ⟨hl0, ad, c2, rfl, hlc, hci, hne⟩⟩
        clear hci
        cases ee : endB r (k : Int)
        · simp only [ee] at hnev
          have HP' : Aside0 (((List.range r.turns.length).drop (k + 1)).foldl (pickW (grOf r gate) (natF F) fin) best = planW (grOf r gate) (natF F) fin) := ⟨by have h := HF.out; rw [HP.out.2.1 ee] at h; exact h⟩
          go_wp2_with (first | (go_at_call 106; refine (hend _ HX.out.2.2.2).mono ?_; rintro e w7 ⟨rfl, hb_⟩; have HB7 := Aside0.mk hb_; clear hb_) | (go_at_call 97; refine (hnev _ _).mono ?_; rintro e w8 ⟨rfl, hb_⟩; have HB8 := Aside0.mk (below_step HB7.out hb_); clear hb_))
          go_roundw
          case rel => exact ⟨k + 1, best, by omega, by go_num, ⟨HX.out.1.kept (Kept.of_below HB8.out _), HP'.out, HX.out.2.2.1, below_step HX.out.2.2.2 HB8.out⟩⟩
          case measure => simp [intOf]; omega
        · simp only [ee] at hnev
          have HBV := HX.out.1
          rcases HBV with ⟨rfl, rfl⟩ | ⟨hb0', ad3, c3, rfl, hlc3, hci3, hne3⟩
          · have HP' : Aside0 (((List.range r.turns.length).drop (k + 1)).foldl (pickW (grOf r gate) (natF F) fin) l = planW (grOf r gate) (natF F) fin) := ⟨by have h := HF.out; rw [HP.out.2.2.1 hl0 ee rfl] at h; exact h⟩
            go_wp2_with (first | (go_at_call 106; refine (hend _ HX.out.2.2.2).mono ?_; rintro e w7 ⟨rfl, hb_⟩; have HB7 := Aside0.mk hb_; clear hb_) | (go_at_call 97; refine (hnev _ _).mono ?_; rintro e w8 ⟨rfl, hb_⟩; have HB8 := Aside0.mk (below_step HB7.out hb_); clear hb_))
            rename_i hK0
            refine hK0 _ _ ?_
            go_wp2_with (first | (go_at_call 106; refine (hend _ HX.out.2.2.2).mono ?_; rintro e w7 ⟨rfl, hb_⟩; have HB7 := Aside0.mk hb_; clear hb_) | (go_at_call 97; refine (hnev _ _).mono ?_; rintro e w8 ⟨rfl, hb_⟩; have HB8 := Aside0.mk (below_step HB7.out hb_); clear hb_))
            go_roundw
            case rel => exact ⟨k + 1, l, by omega, by go_num, ⟨(HLV.out).kept (Kept.of_below HB8.out _), HP'.out, HGl.out, below_step HX.out.2.2.2 HB8.out⟩⟩
            case measure => simp [intOf]; omega
          · have hcm := fun W (hB : Below _ _ W) => HC.out W (.slice (some ad) l.length c2) (.slice (some ad3) best.length c3) (intsN l) (intsN best) HD.out ⟨fun x hx => by unfold intsN at hx; obtain ⟨i, hi, rfl⟩ := List.mem_map.1 hx; have := HX.out.2.2.1.1 i hi; omega, by rw [intsN_len]; have := nodup_len r.turns.length _ HX.out.2.2.1.2 HX.out.2.2.1.1; omega⟩ (IntsAt.below HLV.out.asInts hB) (IntsAt.below HX.out.1.asInts hB) (below_step (below_step HB6.out HX.out.2.2.2) hB)
            change ∀ W, _ → Calls _ _ _ _ fun e w' => e = .returned (.int .i64 (natF F l best)) ∧ _ at hcm
            have HT := Aside0.mk (HP.out.2.2.2.1 hl0 ee)
            have HN := Aside0.mk (HP.out.2.2.2.2 hb0')
            clear hci3
            generalize natF F l best = m at *
            by_cases hm : m < 0
            · have HP' : Aside0 (((List.range r.turns.length).drop (k + 1)).foldl (pickW (grOf r gate) (natF F) fin) l = planW (grOf r gate) (natF F) fin) := ⟨by have h := HF.out; rw [HT.out hm] at h; exact h⟩
              go_wp2_with (first | (go_at_call 106; refine (hend _ HX.out.2.2.2).mono ?_; rintro e w7 ⟨rfl, hb_⟩; have HB7 := Aside0.mk hb_; clear hb_) | (go_at_call 97; refine (hnev _ _).mono ?_; rintro e w8 ⟨rfl, hb_⟩; have HB8 := Aside0.mk (below_step HB7.out hb_); clear hb_) | (go_at_fn g; refine (hcm _ HB8.out).mono ?_; rintro e w9 ⟨rfl, hb_⟩; have HB9 := Aside0.mk (below_step HB8.out hb_); clear hb_))
              rename_i hK0
              refine hK0 _ _ ?_
              go_wp2_with (first | (go_at_call 106; refine (hend _ HX.out.2.2.2).mono ?_; rintro e w7 ⟨rfl, hb_⟩; have HB7 := Aside0.mk hb_; clear hb_) | (go_at_call 97; refine (hnev _ _).mono ?_; rintro e w8 ⟨rfl, hb_⟩; have HB8 := Aside0.mk (below_step HB7.out hb_); clear hb_) | (go_at_fn g; refine (hcm _ HB8.out).mono ?_; rintro e w9 ⟨rfl, hb_⟩; have HB9 := Aside0.mk (below_step HB8.out hb_); clear hb_))
              go_roundw
              case rel => exact ⟨k + 1, l, by omega, by go_num, ⟨(HLV.out).kept (Kept.of_below HB9.out _), HP'.out, HGl.out, below_step HX.out.2.2.2 HB9.out⟩⟩
              case measure => simp [intOf]; omega
            · have hm2 : 0 ≤ m := by omega
              have HP' : Aside0 (((List.range r.turns.length).drop (k + 1)).foldl (pickW (grOf r gate) (natF F) fin) best = planW (grOf r gate) (natF F) fin) := ⟨by have h := HF.out; rw [HN.out hm] at h; exact h⟩
              go_wp2_with (first | (go_at_call 106; refine (hend _ HX.out.2.2.2).mono ?_; rintro e w7 ⟨rfl, hb_⟩; have HB7 := Aside0.mk hb_; clear hb_) | (go_at_call 97; refine (hnev _ _).mono ?_; rintro e w8 ⟨rfl, hb_⟩; have HB8 := Aside0.mk (below_step HB7.out hb_); clear hb_) | (go_at_fn g; refine (hcm _ HB8.out).mono ?_; rintro e w9 ⟨rfl, hb_⟩; have HB9 := Aside0.mk (below_step HB8.out hb_); clear hb_))
              rename_i hK0
              refine hK0 _ _ ?_
              go_wp2_with (first | (go_at_call 106; refine (hend _ HX.out.2.2.2).mono ?_; rintro e w7 ⟨rfl, hb_⟩; have HB7 := Aside0.mk hb_; clear hb_) | (go_at_call 97; refine (hnev _ _).mono ?_; rintro e w8 ⟨rfl, hb_⟩; have HB8 := Aside0.mk (below_step HB7.out hb_); clear hb_) | (go_at_fn g; refine (hcm _ HB8.out).mono ?_; rintro e w9 ⟨rfl, hb_⟩; have HB9 := Aside0.mk (below_step HB8.out hb_); clear hb_))
              go_roundw
              case rel => exact ⟨k + 1, best, by omega, by go_num, ⟨HX.out.1.kept (Kept.of_below HB9.out _), HP'.out, HX.out.2.2.1, below_step HX.out.2.2.2 HB9.out⟩⟩
              case measure => simp [intOf]; omega
    · have hkn : k = r.turns.length := by omega
      have HI : Aside0 (best = planW (grOf r gate) (natF F) fin) := ⟨by
        have h := HX.out.2.1
        rw [List.drop_eq_nil_of_le (by rw [hkn]; simp)] at h
        exact h⟩
      rcases HX.out.1 with ⟨rfl, rfl⟩ | ⟨hl0, ad, c2, rfl, hlc, hci, hne⟩
      · have HQ' := Aside0.mk (HQ.out _ _ ba (HI.out ▸ HX.out.1) (below_step HB6.out HX.out.2.2.2))
        rw [← HI.out] at HQ'
        go_wp2
        exact HQ'.out
      · have HQ' := Aside0.mk (HQ.out _ _ ba (HI.out ▸ HX.out.1) (below_step HB6.out HX.out.2.2.2))
        rw [← HI.out, decide_eq_true hl0] at HQ'
        go_wp2
        exact HQ'.out
end Go.Proofs.YtflolfbkpjgjaaaGreatDoor
end
section
namespace Go.Proofs.YtflolfbkpjgjaaaGreatDoor
open Go.RowKit Go.Proofs.YtflolfbkpjgjaaaGreatDoorW.PrintWords
open Go.Proofs.YtflolfbkpjgjaaaGreatDoorW.PrintMore
theorem cmpZ_ints : ∀ a b : List Nat, cmpZ (intsN a) (intsN b) = cmpL a b
  | [], [] => rfl
  | [], _ :: _ => rfl
  | _ :: _, [] => rfl
  | x :: a, y :: b => by
    have ih := cmpZ_ints a b
    show (if (x : Int) < (y : Int) then (-1 : Int) else if (y : Int) < (x : Int) then 1 else cmpZ (intsN a) (intsN b)) = if x < y then -1 else if y < x then 1 else cmpL a b
    rw [ih]
    by_cases h : x < y
    · rw [if_pos h, if_pos (by omega)]
    · rw [if_neg h, if_neg (by omega)]
      by_cases h2 : y < x
      · rw [if_pos h2, if_pos (by omega)]
      · rw [if_neg h2, if_neg (by omega)]
def cst (r : Ros) (i : Nat) : Nat := (tn r (i : Int)).cost.toNat
def wtBy (r : Ros) (i : Nat) : Nat := 64 * cst r i + 1
def wtSh (r : Ros) (i : Nat) : Nat := 1048576 + cst r i
theorem cst_ok {r : Ros} (V : Valid r) {i : Nat} (h : i < r.turns.length) : ((cst r i : Nat) : Int) = (tn r (i : Int)).cost ∧ cst r i ≤ 10000 := by
  have := V.turn (i : Int) (by omega) (by omega)
  unfold cst
  omega
theorem costL_ints {r : Ros} (V : Valid r) : ∀ l : List Nat, (∀ x ∈ l, x < r.turns.length) → costL r (intsN l) = ((wsum (cst r) l : Nat) : Int) ∧ wsum (cst r) l ≤ 10000 * l.length
  | [], _ => ⟨rfl, Nat.le_refl _⟩
  | x :: l, h => by
    have ih := costL_ints V l (fun y hy => h y (List.mem_cons_of_mem _ hy))
    have hx := cst_ok V (h x (List.mem_cons_self ..))
    have e : costL r (intsN (x :: l)) = (tn r (x : Int)).cost + costL r (intsN l) := by simp [costL, intsN]
    rw [e, wsum_cons, List.length_cons]
    omega
theorem wsum_by (r : Ros) : ∀ l : List Nat, wsum (wtBy r) l = 64 * wsum (cst r) l + l.length
  | [] => rfl
  | x :: l => by
    rw [wsum_cons, wsum_cons, wsum_by r l, List.length_cons]
    unfold wtBy
    omega
theorem wsum_sh (r : Ros) : ∀ l : List Nat, wsum (wtSh r) l = 1048576 * l.length + wsum (cst r) l
  | [] => rfl
  | x :: l => by
    rw [wsum_cons, wsum_cons, wsum_sh r l, List.length_cons]
    unfold wtSh
    omega
theorem key_cmp {wa wb la lb : Nat} (ha : la < BB) (hb : lb < BB) : (wa * BB + la < wb * BB + lb ↔ wa < wb ∨ (wa = wb ∧ la < lb)) ∧ (wa * BB + la ≤ wb * BB + lb ↔ wa < wb ∨ (wa = wb ∧ la ≤ lb)) := by
  rcases Nat.lt_trichotomy wa wb with h | h | h
  · have h3 : (wa + 1) * BB ≤ wb * BB := Nat.mul_le_mul_right _ (by omega)
    rw [Nat.add_mul] at h3
    constructor <;> constructor <;> intro _ <;> omega
  · subst h
    constructor <;> constructor <;> intro _ <;> omega
  · have h3 : (wb + 1) * BB ≤ wa * BB := Nat.mul_le_mul_right _ (by omega)
    rw [Nat.add_mul] at h3
    constructor <;> constructor <;> intro _ <;> omega
theorem cmpI_lt {a b : Int} (h : a < b) : cmpI a b = -1 := if_pos h
theorem cmpI_eq {a b : Int} (h : a = b) : cmpI a b = 0 := by unfold cmpI; rw [if_neg (by omega), if_neg (by omega)]
theorem cmpI_gt {a b : Int} (h : b < a) : cmpI a b = 1 := by unfold cmpI; rw [if_neg (by omega), if_pos h]
theorem orF_two (a b : Int) : orF [a, b] = if a ≠ 0 then a else b := by
  simp only [orF]
  by_cases h : a = 0
  · subst h; by_cases h2 : b = 0 <;> simp [h2]
  · simp [h]
theorem orF_three (a b c : Int) : orF [a, b, c] = if a ≠ 0 then a else if b ≠ 0 then b else c := by
  simp only [orF]
  by_cases h : a = 0
  · subst h
    by_cases h2 : b = 0
    · subst h2; by_cases h3 : c = 0 <;> simp [h3]
    · simp [h2]
  · simp [h]
theorem list_facts {r : Ros} (V : Valid r) {a : List Nat} (h : ∀ x ∈ a, x < r.turns.length) (hn : a.Nodup) : a.length ≤ 24 ∧ lexv 24 a < BB ∧ (∀ x ∈ a, x < 32) := by
  have h24 := V.turns
  have hl := nodup_len _ a hn h
  refine ⟨by omega, lexv_lt 24 a (by omega) (fun x hx => by have := h x hx; omega), fun x hx => by have := h x hx; omega⟩
theorem by_ord {r : Ros} (V : Valid r) (gate : Int) : Ord (grOf r gate) (wtBy r) (natF (byF r)) where
  small := V.turns
  pos := fun i => by unfold wtBy; omega
  bnd := fun i hi => by have := (cst_ok V hi).2; unfold wtBy; omega
  len := fun a b ha hna hb hnb h => by
    have la := list_facts V ha hna
    have lb := list_facts V hb hnb
    rw [wsum_by, wsum_by] at h
    omega
  cmp := fun a b ha hna hb hnb => by
    obtain ⟨la, xa, ya⟩ := list_facts V ha hna
    obtain ⟨lb, xb, yb⟩ := list_facts V hb hnb
    obtain ⟨ca, _⟩ := costL_ints V a ha
    obtain ⟨cb, _⟩ := costL_ints V b hb
    obtain ⟨k1, k2⟩ := key_cmp (wa := wsum (wtBy r) a) (wb := wsum (wtBy r) b) xa xb
    unfold natF byF key
    rw [k1, k2, wsum_by, wsum_by, orF_three, ca, cb, intsN_len, intsN_len, cmpZ_ints]
    have hlex := fun (h : a.length = b.length) => cmpL_lex 24 a b h la ya yb
    generalize wsum (cst r) a = p at *
    generalize wsum (cst r) b = q at *
    rcases Nat.lt_trichotomy p q with h | h | h
    · rw [cmpI_lt (show (p : Int) < (q : Int) by omega), if_pos (by decide)]
      constructor <;> constructor <;> intro _ <;> omega
    · rw [cmpI_eq (show (p : Int) = (q : Int) by omega), if_neg (by decide)]
      rcases Nat.lt_trichotomy a.length b.length with h | h | h
      · rw [cmpI_lt (show (a.length : Int) < (b.length : Int) by omega), if_pos (by decide)]
        constructor <;> constructor <;> intro _ <;> omega
      · rw [cmpI_eq (show (a.length : Int) = (b.length : Int) by omega), if_neg (by decide)]
        have hl := hlex h
        rw [hl.1, hl.2]
        constructor <;> constructor <;> intro _ <;> omega
      · rw [cmpI_gt (show (b.length : Int) < (a.length : Int) by omega), if_pos (by decide)]
        constructor <;> constructor <;> intro _ <;> omega
    · rw [cmpI_gt (show (q : Int) < (p : Int) by omega), if_pos (by decide)]
      constructor <;> constructor <;> intro _ <;> omega
theorem short_ord {r : Ros} (V : Valid r) (gate : Int) : Ord (grOf r gate) (wtSh r) (natF (shortF r)) where
  small := V.turns
  pos := fun i => by unfold wtSh; omega
  bnd := fun i hi => by have := (cst_ok V hi).2; unfold wtSh; omega
  len := fun a b ha hna hb hnb h => by
    have la := list_facts V ha hna
    have lb := list_facts V hb hnb
    have ca := (costL_ints V a ha).2
    have cb := (costL_ints V b hb).2
    rw [wsum_sh, wsum_sh] at h
    omega
  cmp := fun a b ha hna hb hnb => by
    obtain ⟨la, xa, ya⟩ := list_facts V ha hna
    obtain ⟨lb, xb, yb⟩ := list_facts V hb hnb
    obtain ⟨ca, da⟩ := costL_ints V a ha
    obtain ⟨cb, db⟩ := costL_ints V b hb
    obtain ⟨k1, k2⟩ := key_cmp (wa := wsum (wtSh r) a) (wb := wsum (wtSh r) b) xa xb
    unfold natF shortF byF key
    rw [k1, k2, wsum_sh, wsum_sh, orF_two, orF_three, ca, cb, intsN_len, intsN_len, cmpZ_ints]
    have hlex := fun (h : a.length = b.length) => cmpL_lex 24 a b h la ya yb
    generalize wsum (cst r) a = p at *
    generalize wsum (cst r) b = q at *
    rcases Nat.lt_trichotomy a.length b.length with h | h | h
    · rw [cmpI_lt (show (a.length : Int) < (b.length : Int) by omega), if_pos (by decide)]
      constructor <;> constructor <;> intro _ <;> omega
    · rw [cmpI_eq (show (a.length : Int) = (b.length : Int) by omega), if_neg (by decide)]
      rcases Nat.lt_trichotomy p q with h2 | h2 | h2
      · rw [cmpI_lt (show (p : Int) < (q : Int) by omega), if_pos (by decide)]
        constructor <;> constructor <;> intro _ <;> omega
      · rw [cmpI_eq (show (p : Int) = (q : Int) by omega), if_neg (by decide)]
        have hl := hlex (by assumption)
        rw [if_neg (by decide), hl.1, hl.2]
        constructor <;> constructor <;> intro _ <;> omega
      · rw [cmpI_gt (show (q : Int) < (p : Int) by omega), if_pos (by decide)]
        constructor <;> constructor <;> intro _ <;> omega
    · rw [cmpI_gt (show (b.length : Int) < (a.length : Int) by omega), if_pos (by decide)]
      constructor <;> constructor <;> intro _ <;> omega
end Go.Proofs.YtflolfbkpjgjaaaGreatDoor
end
section
namespace Go.Proofs.YtflolfbkpjgjaaaGreatDoor
open Go.RowKit Go.Proofs.YtflolfbkpjgjaaaGreatDoorW.PrintWords
open Go.Proofs.YtflolfbkpjgjaaaGreatDoorW.PrintMore
set_option maxHeartbeats 4000000 in
set_option maxRecDepth 100000 in
theorem planF_calls (v : Value) (r : Ros) (gate : Int) (w : World) (hv : RosAt w v r) :
    Calls Tryz.prog 35 #[v, .int .i64 gate] w fun e w' => ∃ lv P ba, e = .returned (.tuple #[lv, .bool (decide (P ≠ [])), .int .i64 (gatedE r gate)]) ∧ ListV w' ba lv P ∧ Below w.heap.size w w' ∧ (((gatedE r gate != 0) = false → Best (grOf r gate) (wtBy r) P) ∧ ((gatedE r gate != 0) = true → P = [])) := by
  have hR := Aside0.mk hv
  obtain ⟨A, c, T, d, rfl, h1, h2, h3, h4⟩ := hv
  clear h3 h4
  generalize hPost : (fun (e : Ending) (w' : World) => ∃ lv P ba, e = .returned (.tuple #[lv, .bool (decide (P ≠ [])), .int .i64 (gatedE r gate)]) ∧ ListV w' ba lv P ∧ Below w.heap.size w w' ∧ (((gatedE r gate != 0) = false → Best (grOf r gate) (wtBy r) P) ∧ ((gatedE r gate != 0) = true → P = []))) = Post
  have HQ : Aside0 (∀ lv P ba w', ListV w' ba lv P → Below w.heap.size w w' → (((gatedE r gate != 0) = false → Best (grOf r gate) (wtBy r) P) ∧ ((gatedE r gate != 0) = true → P = [])) → Post (.returned (.tuple #[lv, .bool (decide (P ≠ [])), .int .i64 (gatedE r gate)])) w') := ⟨fun lv P ba w' a b c => hPost ▸ ⟨lv, P, ba, rfl, a, b, c⟩⟩
  clear hPost
  have hgat := fun w (h : RosAt w (.agg (rosC r A c T d)) r) => gated_calls (.agg (rosC r A c T d)) r gate w h
  have hz := fun h => gatedE_zero (r := r) (gate := gate) h
  generalize hge : gatedE r gate = ge at *
  cases hc : (ge != 0)
  · have e0 : ge = 0 := by simpa using hc
    subst e0
    have V := (hz rfl).1
    have HV := Aside0.mk V
    obtain ⟨K, fin, hK, hL⟩ := waysW_least (by_ord V gate)
    have HBst := Aside0.mk (planW_best (by_ord V gate) hL)
    have hplan := fun w gb (h : RosAt w (.agg (rosC r A c T d)) r) (hc : CmpIn 146 #[.pointer (some ⟨gb, 0, none⟩)] (byF r) (OfTurns r) w) => plan_calls (.agg (rosC r A c T d)) r gate 146 #[.pointer (some ⟨gb, 0, none⟩)] (byF r) w K fin V h enter146 hc hK
    clear hz hc V hK hL
    generalize planW (grOf r gate) (natF (byF r)) fin = P at *
    have HQ' : Aside0 (∀ lv ba w', ListV w' ba lv P → Below w.heap.size w w' → Post (.returned (.tuple #[lv, .bool (decide (P ≠ [])), .int .i64 0])) w') := ⟨fun lv ba w' a b => HQ.out lv P ba w' a b ⟨fun _ => HBst.out, fun h => by simp at h⟩⟩
    generalize decide (P ≠ []) = pb at *
    go_enter Tryz.func35, Tryz.ntmps35
    go_wp2_with (first | ((with_reducible refine gate_dst (N := 2) rfl ?_); refine box_event ?hg (N := 2) ?hd (cs := rosC r A c T d) (t := 25) ?hr ?_; (case hd => rfl); (case hg => rfl); (case hr => first | (go_simp; done) | (go_simp; rfl)); intro g hg w3 hbox_ hb_; have BK := Aside0.mk hbox_; have Hg := Aside0.mk hg; have HB := Aside0.mk hb_; obtain ⟨q0, q1, q2, q3, q4⟩ := rosC_cells hbox_; clear hbox_ hb_ hg) | (go_at_call 77; refine (hgat _ (hR.out.below HB.out)).mono ?_; rintro e w4 ⟨rfl, hb_⟩; have HB4 := Aside0.mk (below_step HB.out hb_); have BK4 := Aside0.mk (blk_below BK.out hb_); clear q0 q1 q2 q3 q4; obtain ⟨q0, q1, q2, q3, q4⟩ := rosC_cells BK4.out; clear hb_))
    go_region_held3 (fun w' => w'.cell? ⟨g, 0, none⟩ = some (.int .i64 r.gates) ∧ w'.cell? ⟨g, 1, none⟩ = some (.int .i64 r.frm) ∧ w'.cell? ⟨g, 2, none⟩ = some (.int .i64 r.til) ∧ w'.cell? ⟨g, 3, none⟩ = some (.slice A r.ahead.length c) ∧ w'.cell? ⟨g, 4, none⟩ = some (.slice T r.turns.length d)) (go_keep) (first | (go_at_call 84; refine (by_calls _ r _ (hR.out.below (below_step HB4.out ?_))).mono ?_; (repeat (first | exact Below.refl _ _ | apply below_alloc | apply pw_below_drewN | apply below_drew)); rintro e w5 ⟨gb, rfl, hbb, hb_⟩; have HB5 := Aside0.mk (below_step (below_drew HB4.out) hb_); have BK5 := Aside0.mk (blk_below (w := w4.drew) BK4.out hb_); have HBB := Aside0.mk hbb; obtain ⟨s0, s1, s2, s3, s4⟩ := rosC_cells BK5.out; clear hb_ hbb) | (go_at_call 83; refine (hplan _ _ (hR.out.below HB5.out) (by1_cmp HV.out HBB.out)).mono ?_; rintro e w6 ⟨lv, ba, rfl, hl_, hb_⟩; have HL6 := Aside0.mk hl_; have HB6 := Aside0.mk (below_step HB5.out hb_); obtain ⟨t0, t1, t2, t3, t4⟩ := rosC_cells (blk_below BK5.out hb_); clear hl_ hb_))
    go_wp2
    refine bodyPost_ret (v := .tuple #[_, _, _]) (by simp [results, Tryz.results35, go_sem]; exact ⟨rfl, rfl, rfl⟩) rfl ?_
    exact HQ'.out _ _ _ HL6.out HB6.out
  · have HQ' : Aside0 (∀ w', Below w.heap.size w w' → Post (.returned (.tuple #[.slice none 0 0, .bool false, .int .i64 ge])) w') := ⟨fun w' b => HQ.out (.slice none 0 0) [] 0 w' (.inl ⟨rfl, rfl⟩) b ⟨fun h => absurd (hc.symm.trans h) (by simp), fun _ => rfl⟩⟩
    go_enter Tryz.func35, Tryz.ntmps35
    go_wp2_with (first | ((with_reducible refine gate_dst (N := 2) rfl ?_); refine box_event ?hg (N := 2) ?hd (cs := rosC r A c T d) (t := 25) ?hr ?_; (case hd => rfl); (case hg => rfl); (case hr => first | (go_simp; done) | (go_simp; rfl)); intro g hg w3 hbox_ hb_; have BK := Aside0.mk hbox_; have Hg := Aside0.mk hg; have HB := Aside0.mk hb_; obtain ⟨q0, q1, q2, q3, q4⟩ := rosC_cells hbox_; clear hbox_ hb_ hg) | (go_at_call 77; refine (hgat _ (hR.out.below HB.out)).mono ?_; rintro e w4 ⟨rfl, hb_⟩; have HB4 := Aside0.mk (below_step HB.out hb_); have BK4 := Aside0.mk (blk_below BK.out hb_); clear q0 q1 q2 q3 q4; obtain ⟨q0, q1, q2, q3, q4⟩ := rosC_cells BK4.out; clear hb_))
    refine bodyPost_ret (v := .tuple #[_, _, _]) (by simp [results, Tryz.results35, go_sem]; exact ⟨rfl, rfl, rfl⟩) rfl ?_
    exact HQ'.out _ HB4.out
set_option maxHeartbeats 4000000 in
set_option maxRecDepth 100000 in
theorem fewest_calls (v : Value) (r : Ros) (gate : Int) (w : World) (hv : RosAt w v r) :
    Calls Tryz.prog 60 #[v, .int .i64 gate] w fun e w' => ∃ lv P ba, e = .returned (.tuple #[lv, .bool (decide (P ≠ [])), .int .i64 (gatedE r gate)]) ∧ ListV w' ba lv P ∧ Below w.heap.size w w' ∧ (((gatedE r gate != 0) = false → Best (grOf r gate) (wtSh r) P) ∧ ((gatedE r gate != 0) = true → P = [])) := by
  have hR := Aside0.mk hv
  obtain ⟨A, c, T, d, rfl, h1, h2, h3, h4⟩ := hv
  clear h3 h4
  generalize hPost : (fun (e : Ending) (w' : World) => ∃ lv P ba, e = .returned (.tuple #[lv, .bool (decide (P ≠ [])), .int .i64 (gatedE r gate)]) ∧ ListV w' ba lv P ∧ Below w.heap.size w w' ∧ (((gatedE r gate != 0) = false → Best (grOf r gate) (wtSh r) P) ∧ ((gatedE r gate != 0) = true → P = []))) = Post
  have HQ : Aside0 (∀ lv P ba w', ListV w' ba lv P → Below w.heap.size w w' → (((gatedE r gate != 0) = false → Best (grOf r gate) (wtSh r) P) ∧ ((gatedE r gate != 0) = true → P = [])) → Post (.returned (.tuple #[lv, .bool (decide (P ≠ [])), .int .i64 (gatedE r gate)])) w') := ⟨fun lv P ba w' a b c => hPost ▸ ⟨lv, P, ba, rfl, a, b, c⟩⟩
  clear hPost
  have hgat := fun w (h : RosAt w (.agg (rosC r A c T d)) r) => gated_calls (.agg (rosC r A c T d)) r gate w h
  have hz := fun h => gatedE_zero (r := r) (gate := gate) h
  generalize hge : gatedE r gate = ge at *
  cases hc : (ge != 0)
  · have e0 : ge = 0 := by simpa using hc
    subst e0
    have V := (hz rfl).1
    have HV := Aside0.mk V
    obtain ⟨K, fin, hK, hL⟩ := waysW_least (short_ord V gate)
    have HBst := Aside0.mk (planW_best (short_ord V gate) hL)
    have hplan := fun w gs (h : RosAt w (.agg (rosC r A c T d)) r) (hc : CmpIn 163 #[.pointer (some ⟨gs, 0, none⟩)] (shortF r) (OfTurns r) w) => plan_calls (.agg (rosC r A c T d)) r gate 163 #[.pointer (some ⟨gs, 0, none⟩)] (shortF r) w K fin V h enter163 hc hK
    clear hz hc V hK hL
    generalize planW (grOf r gate) (natF (shortF r)) fin = P at *
    have HQ' : Aside0 (∀ lv ba w', ListV w' ba lv P → Below w.heap.size w w' → Post (.returned (.tuple #[lv, .bool (decide (P ≠ [])), .int .i64 0])) w') := ⟨fun lv ba w' a b => HQ.out lv P ba w' a b ⟨fun _ => HBst.out, fun h => by simp at h⟩⟩
    generalize decide (P ≠ []) = pb at *
    go_enter Tryz.func60, Tryz.ntmps60
    go_wp2_with (first | ((with_reducible refine gate_dst (N := 2) rfl ?_); refine box_event ?hg (N := 2) ?hd (cs := rosC r A c T d) (t := 25) ?hr ?_; (case hd => rfl); (case hg => rfl); (case hr => first | (go_simp; done) | (go_simp; rfl)); intro g hg w3 hbox_ hb_; have BK := Aside0.mk hbox_; have Hg := Aside0.mk hg; have HB := Aside0.mk hb_; obtain ⟨q0, q1, q2, q3, q4⟩ := rosC_cells hbox_; clear hbox_ hb_ hg) | (go_at_call 77; refine (hgat _ (hR.out.below HB.out)).mono ?_; rintro e w4 ⟨rfl, hb_⟩; have HB4 := Aside0.mk (below_step HB.out hb_); have BK4 := Aside0.mk (blk_below BK.out hb_); clear q0 q1 q2 q3 q4; obtain ⟨q0, q1, q2, q3, q4⟩ := rosC_cells BK4.out; clear hb_))
    go_region_held3 (fun w' => w'.cell? ⟨g, 0, none⟩ = some (.int .i64 r.gates) ∧ w'.cell? ⟨g, 1, none⟩ = some (.int .i64 r.frm) ∧ w'.cell? ⟨g, 2, none⟩ = some (.int .i64 r.til) ∧ w'.cell? ⟨g, 3, none⟩ = some (.slice A r.ahead.length c) ∧ w'.cell? ⟨g, 4, none⟩ = some (.slice T r.turns.length d)) (go_keep) (first | (go_at_call 134; refine (short_calls _ r _ (hR.out.below (below_step HB4.out ?_))).mono ?_; (repeat (first | exact Below.refl _ _ | apply below_alloc | apply pw_below_drewN | apply below_drew)); rintro e w5 ⟨gs, gb, rfl, hfs, hbb, hb_⟩; have HB5 := Aside0.mk (below_step (below_drew HB4.out) hb_); have BK5 := Aside0.mk (blk_below (w := w4.drew) BK4.out hb_); have HBB := Aside0.mk hbb; have HFS := Aside0.mk hfs; obtain ⟨s0, s1, s2, s3, s4⟩ := rosC_cells BK5.out; clear hb_ hbb hfs) | (go_at_call 83; refine (hplan _ _ (hR.out.below HB5.out) (short1_cmp HV.out HFS.out HBB.out)).mono ?_; rintro e w6 ⟨lv, ba, rfl, hl_, hb_⟩; have HL6 := Aside0.mk hl_; have HB6 := Aside0.mk (below_step HB5.out hb_); obtain ⟨t0, t1, t2, t3, t4⟩ := rosC_cells (blk_below BK5.out hb_); clear hl_ hb_))
    go_wp2
    refine bodyPost_ret (v := .tuple #[_, _, _]) (by simp [results, Tryz.results60, go_sem]; exact ⟨rfl, rfl, rfl⟩) rfl ?_
    exact HQ'.out _ _ _ HL6.out HB6.out
  · have HQ' : Aside0 (∀ w', Below w.heap.size w w' → Post (.returned (.tuple #[.slice none 0 0, .bool false, .int .i64 ge])) w') := ⟨fun w' b => HQ.out (.slice none 0 0) [] 0 w' (.inl ⟨rfl, rfl⟩) b ⟨fun h => absurd (hc.symm.trans h) (by simp), fun _ => rfl⟩⟩
    go_enter Tryz.func60, Tryz.ntmps60
    go_wp2_with (first | ((with_reducible refine gate_dst (N := 2) rfl ?_); refine box_event ?hg (N := 2) ?hd (cs := rosC r A c T d) (t := 25) ?hr ?_; (case hd => rfl); (case hg => rfl); (case hr => first | (go_simp; done) | (go_simp; rfl)); intro g hg w3 hbox_ hb_; have BK := Aside0.mk hbox_; have Hg := Aside0.mk hg; have HB := Aside0.mk hb_; obtain ⟨q0, q1, q2, q3, q4⟩ := rosC_cells hbox_; clear hbox_ hb_ hg) | (go_at_call 77; refine (hgat _ (hR.out.below HB.out)).mono ?_; rintro e w4 ⟨rfl, hb_⟩; have HB4 := Aside0.mk (below_step HB.out hb_); have BK4 := Aside0.mk (blk_below BK.out hb_); clear q0 q1 q2 q3 q4; obtain ⟨q0, q1, q2, q3, q4⟩ := rosC_cells BK4.out; clear hb_))
    refine bodyPost_ret (v := .tuple #[_, _, _]) (by simp [results, Tryz.results60, go_sem]; exact ⟨rfl, rfl, rfl⟩) rfl ?_
    exact HQ'.out _ HB4.out
end Go.Proofs.YtflolfbkpjgjaaaGreatDoor
end
section
namespace Go.Proofs.YtflolfbkpjgjaaaGreatDoor
open Go.RowKit Go.Proofs.YtflolfbkpjgjaaaGreatDoorW.PrintWords
open Go.Proofs.YtflolfbkpjgjaaaGreatDoorW.PrintMore
set_option maxHeartbeats 2000000 in
set_option maxRecDepth 100000 in
theorem gate1_calls (i : Int) (bb bg : Nat) (r : Ros) (gate : Int) (w : World) (hb : BoxAt w bb r) (hg : w.heap[bg]? = some (.cells #[.int .i64 gate] 3 (0, 0))) (i0 : 0 ≤ i) (i1 : i < r.turns.length) :
    Calls Tryz.prog 92 #[.int .i64 i, .pointer (some ⟨bb, 0, none⟩), .pointer (some ⟨bg, 0, none⟩)] w fun e w' => e = .returned (.bool ((tn r i).gate != gate)) ∧ Below w.heap.size w w' := by
  obtain ⟨A, c, T, d, h1, h2⟩ := hb.ex
  obtain ⟨q0, q1, q2, q3, q4⟩ := rosC_cells h1
  have q5 : w.cell? ⟨bg, 0, none⟩ = some (.int .i64 gate) := (blk_cell hg 0).trans rfl
  have H2 := Aside0.mk h2
  obtain ⟨A', c', T', d', e, h21, h22, h23, h24⟩ := h2
  cases e
  obtain ⟨ad, hAd, g0, _⟩ := CT_at h24 i i0 i1
  cases hAd
  change w.cell? _ = some (.int .i64 (tn r i).gate) at g0
  clear h1 h23 h24 hb hg
  generalize tn r i = t at *
  go_enter Tryz.func92, Tryz.ntmps92
  go_wp2
  go_still_tail 8, (by kernel_rfl)
  change wpList _ _ _ _ _ w.drew
  go_wp2
  go_ret
  exact ⟨rfl, below_drew (Below.refl _ _)⟩
theorem enter92 : CanEnter 92 := Go.Proofs.enters_of Tryz.func92 (by kernel_rfl) rfl
theorem gate1_pred {bb bg : Nat} {r : Ros} {gate : Int} {w : World} (hb : BoxAt w bb r) (hg : w.heap[bg]? = some (.cells #[.int .i64 gate] 3 (0, 0))) : PredIn 92 #[.pointer (some ⟨bb, 0, none⟩), .pointer (some ⟨bg, 0, none⟩)] (fun i => (tn r i).gate != gate) (fun x => 0 ≤ x ∧ x < r.turns.length) w :=
  fun W x hx hW => gate1_calls x bb bg r gate W (hb.below hW) (blk_below hg hW) hx.1 hx.2
set_option maxHeartbeats 2000000 in
set_option maxRecDepth 100000 in
theorem has_calls (i : Int) (b5 : Nat) (lv : Value) (l : List Int) (w : World) (hb : w.heap[b5]? = some (.cells #[lv] 26 (0, 0))) (hl : IntsAt w lv l) :
    Calls Tryz.prog 93 #[.int .i64 i, .pointer (some ⟨b5, 0, none⟩)] w fun e w' => e = .returned (.bool (l.any fun x => i == x)) ∧ Below w.heap.size w w' := by
  obtain ⟨A1, c1, rfl, hc1, hl1⟩ := hl
  have q0 : w.cell? ⟨b5, 0, none⟩ = some (.slice A1 l.length c1) := (blk_cell hb 0).trans rfl
  have HL := Aside0.mk hl1
  have hcon := fun w h => contains_calls A1 c1 l i w h hl1.2.1
  generalize (l.any fun x => i == x) = m at *
  clear hl1 hb
  go_enter Tryz.func93, Tryz.ntmps93
  go_wp2_with (go_at_call 45; refine (hcon _ HL.out).mono ?_; rintro e w' ⟨rfl, rfl⟩)
  go_ret
  exact ⟨rfl, Below.refl _ _⟩
set_option maxHeartbeats 2000000 in
set_option maxRecDepth 100000 in
theorem fol1_calls (k i : Int) (bb bi : Nat) (r : Ros) (w : World) (V : Valid r) (hb : BoxAt w bb r) (hi : w.heap[bi]? = some (.cells #[.int .i64 i] 3 (0, 0))) (k0 : 0 ≤ k) (k1 : k < r.turns.length) (i0 : 0 ≤ i) (i1 : i < r.turns.length) :
    Calls Tryz.prog 98 #[.int .i64 k, .pointer (some ⟨bb, 0, none⟩), .pointer (some ⟨bi, 0, none⟩)] w fun e w' => e = .returned (.bool (folB r k i)) ∧ Below w.heap.size w w' := by
  obtain ⟨A, c, T, d, h1, h2⟩ := hb.ex
  obtain ⟨q0, q1, q2, q3, q4⟩ := rosC_cells h1
  have q5 : w.cell? ⟨bi, 0, none⟩ = some (.int .i64 i) := (blk_cell hi 0).trans rfl
  have H2 := Aside0.mk h2
  have hfol := fun w (h : RosAt w (.agg (rosC r A c T d)) r) => follows_calls (.agg (rosC r A c T d)) r k i w h V k0 k1 i0 i1
  generalize folB r k i = m at *
  clear h1 h2 hb hi V
  go_enter Tryz.func98, Tryz.ntmps98
  go_wp2_with (go_at_call 99; refine (hfol _ H2.out).mono ?_; rintro e w1 ⟨rfl, hb1⟩; have HB1 := Aside0.mk hb1; clear hb1)
  go_ret
  exact ⟨rfl, HB1.out⟩
theorem enter98 : CanEnter 98 := Go.Proofs.enters_of Tryz.func98 (by kernel_rfl) rfl
theorem fol1_pred {bb bi : Nat} {i : Int} {r : Ros} {w : World} (V : Valid r) (hb : BoxAt w bb r) (hi : w.heap[bi]? = some (.cells #[.int .i64 i] 3 (0, 0))) (i0 : 0 ≤ i) (i1 : i < r.turns.length) : PredIn 98 #[.pointer (some ⟨bb, 0, none⟩), .pointer (some ⟨bi, 0, none⟩)] (fun k => folB r k i) (fun x => 0 ≤ x ∧ x < r.turns.length) w :=
  fun W x hx hW => fol1_calls x i bb bi r W V (hb.below hW) (blk_below hi hW) hx.1 hx.2 i0 i1
end Go.Proofs.YtflolfbkpjgjaaaGreatDoor
end
section
namespace Go.Proofs.YtflolfbkpjgjaaaGreatDoor
open Go.RowKit Go.Proofs.YtflolfbkpjgjaaaGreatDoorW.PrintWords
open Go.Proofs.YtflolfbkpjgjaaaGreatDoorW.PrintMore
set_option maxHeartbeats 1000000 in
theorem less_calls (a b : Int) (w : World) : Calls Tryz.prog 153 #[.int .i64 a, .int .i64 b] w fun e w' => e = .returned (.bool (decide (a < b))) ∧ w = w' := by
  go_enter Tryz.func153, Tryz.ntmps153
  go_wp2_with (go_at_call 171; refine (isNaN_calls _ _).mono ?_; rintro e w' ⟨rfl, rfl⟩)
  go_ret
  exact ⟨rfl, rfl⟩
def sortedB (l : List Int) : Bool := (List.range (l.length - 1)).all fun j => !decide (l.getD (j + 1) 0 < l.getD j 0)
theorem sortedB_true {l : List Int} (h : ∀ j, 0 ≤ j → j + 1 < l.length → l.getD j 0 ≤ l.getD (j + 1) 0) : sortedB l = true := by
  unfold sortedB
  rw [List.all_eq_true]
  intro j hj
  have := List.mem_range.1 hj
  have := h j (Nat.zero_le _) (by omega)
  rw [decide_eq_false (by omega)]
  rfl
theorem sortedB_false {l : List Int} {j : Nat} (h : l.getD (j + 1) 0 < l.getD j 0) (hj : j + 1 < l.length) : sortedB l = false := by
  unfold sortedB
  rw [List.all_eq_false]
  exact ⟨j, List.mem_range.2 (by omega), by simpa using h⟩
set_option maxHeartbeats 2000000 in
set_option maxRecDepth 100000 in
theorem isSorted_calls (A : Option Addr) (c : Nat) (l : List Int) (w : World) (hA : CI w A l.length l) (hbig : l.length ≤ 9223372036854775807) :
    Calls Tryz.prog 91 #[.slice A l.length c] w fun e w' => e = .returned (.bool (sortedB l)) ∧ Below w.heap.size w w' := by
  have HA := Aside0.mk hA
  clear hA
  by_cases h0 : l.length = 0
  · have HN : Aside0 (sortedB l = true) := ⟨sortedB_true (fun j _ hj => by omega)⟩
    rw [h0, HN.out]
    go_enter Tryz.func91, Tryz.ntmps91
    go_wp2
    refine wp_loop_rounds 1 ?_
    rw [rounds_succ]
    go_wp2
    go_ret
    exact ⟨rfl, Below.refl _ _⟩
  · have hwr : IntKind.i64.wrap ((l.length : Int) - 1) = ((l.length - 1 : Nat) : Int) := by rw [IntWalk.i64_left, IntWalk.wrap64_in _ (by omega)]; omega
    have hwr2 : wrap64 ((l.length : Int) - 1) = ((l.length - 1 : Nat) : Int) := by rw [IntWalk.wrap64_in _ (by omega)]; omega
    have H0 := Aside0.mk h0
    clear h0
    go_enter Tryz.func91, Tryz.ntmps91
    go_wp2
    clear hwr hwr2
    go_loopw [3] (fun iv wr => ∃ k : Nat, k + 1 ≤ l.length ∧ iv = .int .i64 k ∧ Aside0 (∀ j, k ≤ j → j + 1 < l.length → l.getD j 0 ≤ l.getD (j + 1) 0) ∧ Aside0 (Below w.heap.size w wr)) (fun iv _ => (intOf iv).toNat)
    case atStart => exact ⟨l.length - 1, by have := H0.out; omega, rfl, ⟨fun j hj hj2 => by omega⟩, ⟨Below.refl _ _⟩⟩
    case round =>
      obtain ⟨k, hk, rfl, HO, HW⟩ := hrel
      by_cases hp : 0 < k
      · have hA' := Kd.C_below HA.out HW.out
        obtain ⟨ad, hAd, g1⟩ := CI_at hA' ((k - 1 : Nat) : Int) (by omega) (by omega)
        cases hAd
        obtain ⟨ad1, hAd1, g2⟩ := CI_at hA' (k : Int) (by omega) (by omega)
        cases hAd1
        rw [show (((k - 1 : Nat) : Int)).toNat = k - 1 from rfl] at g1
        rw [show ((k : Nat) : Int).toNat = k from rfl] at g2
        have HX : Aside0 (l.getD k 0 < l.getD (k - 1) 0 → sortedB l = false) := ⟨fun h => sortedB_false (j := k - 1) (by rw [show k - 1 + 1 = k by omega]; exact h) (by omega)⟩
        have HN : Aside0 (¬ l.getD k 0 < l.getD (k - 1) 0 → ∀ j, k - 1 ≤ j → j + 1 < l.length → l.getD j 0 ≤ l.getD (j + 1) 0) := ⟨fun h j hj hj2 => by
          by_cases e : j = k - 1
          · subst e; rw [show k - 1 + 1 = k by omega]; exact Int.not_lt.1 h
          · exact HO.out j (by omega) hj2⟩
        have hb1 : (0 : Int) ≤ (k : Int) - 1 := by omega
        have hb2 : (k : Int) - 1 < (l.length : Int) := by omega
        have hb3 : (k : Int) < (l.length : Int) := by omega
        have hbt : ((k : Int) - 1).toNat = k - 1 := by omega
        have hwr : IntKind.i64.wrap ((k : Int) - 1) = (k : Int) - 1 := by rw [IntWalk.i64_left, IntWalk.wrap64_in _ (by omega)]
        have hwr2 : wrap64 ((k : Int) - 1) = (k : Int) - 1 := IntWalk.wrap64_in _ (by omega)
        have hb4 : (1 : Int) ≤ (k : Int) := by omega
        have hb5 : (0 : Int) < (k : Int) := by omega
        have hless := fun w => less_calls (l.getD k 0) (l.getD (k - 1) 0) w
        generalize l.getD k 0 = x1 at *
        generalize l.getD (k - 1) 0 = x2 at *
        by_cases hx : x1 < x2
        · have HX' := Aside0.mk (HX.out hx)
          have hd := decide_eq_true hx
          go_wp2
          go_region_held3 (fun w' => w'.cell? (ad.add (k - 1)) = some (.int .i64 x2) ∧ w'.cell? (ad.add k) = some (.int .i64 x1)) (go_keep) (first | (go_at_call 153; refine (hless _).mono ?_; rintro e w7 ⟨rfl, rfl⟩))
          go_wp2
          go_ret
          exact ⟨by rw [HX'.out]; rfl, below_drew HW.out⟩
        · have HN' := Aside0.mk (HN.out hx)
          have hd := decide_eq_false hx
          go_wp2
          go_region_held3 (fun w' => w'.cell? (ad.add (k - 1)) = some (.int .i64 x2) ∧ w'.cell? (ad.add k) = some (.int .i64 x1)) (go_keep) (first | (go_at_call 153; refine (hless _).mono ?_; rintro e w7 ⟨rfl, rfl⟩))
          go_wp2
          go_roundw
          case rel => exact ⟨k - 1, by omega, by first | (congr 1; omega) | go_num, HN', ⟨below_drew HW.out⟩⟩
          case measure => simp [intOf]; omega
      · have HN : Aside0 (sortedB l = true) := ⟨sortedB_true (fun j _ hj => HO.out j (by omega) hj)⟩
        have hk0 : k = 0 := by omega
        subst hk0
        go_wp2
        go_ret
        exact ⟨by rw [HN.out]; rfl, HW.out⟩
end Go.Proofs.YtflolfbkpjgjaaaGreatDoor
end
section
namespace Go.Proofs.YtflolfbkpjgjaaaGreatDoor
open Go.RowKit Go.Proofs.YtflolfbkpjgjaaaGreatDoorW.PrintWords
open Go.Proofs.YtflolfbkpjgjaaaGreatDoorW.PrintMore
def missB (r : Ros) (l : List Int) (i : Int) : Bool := !(l.any fun x => i == x) && (begB r i || l.any fun k => folB r k i)
set_option maxHeartbeats 4000000 in
set_option maxRecDepth 100000 in
theorem miss_calls (i : Int) (b8 br b5 : Nat) (r : Ros) (lv : Value) (l : List Int) (w : World) (V : Valid r) (hf : w.heap[b8]? = some (.cells #[.func (.func 93) #[] #[.pointer (some ⟨b5, 0, none⟩)]] 55 (0, 0))) (hb : BoxAt w br r) (h5 : w.heap[b5]? = some (.cells #[lv] 26 (0, 0))) (hl : IntsAt w lv l) (hin : ∀ x ∈ l, 0 ≤ x ∧ x < r.turns.length) (i0 : 0 ≤ i) (i1 : i < r.turns.length) :
    Calls Tryz.prog 95 #[.int .i64 i, .pointer (some ⟨b8, 0, none⟩), .pointer (some ⟨br, 0, none⟩), .pointer (some ⟨b5, 0, none⟩)] w fun e w' => e = .returned (.bool (missB r l i)) ∧ Below w.heap.size w w' := by
  obtain ⟨A, c, T, d, h1, h2⟩ := hb.ex
  have hR := Aside0.mk h2
  have BR := Aside0.mk h1
  have B8 := Aside0.mk hf
  have B5 := Aside0.mk h5
  have hL := Aside0.mk hl
  have hhas := fun w h h2 => has_calls i b5 lv l w h h2
  have hbeg := fun w (h : RosAt w (.agg (rosC r A c T d)) r) => begin_calls (.agg (rosC r A c T d)) r i w h V i0 i1
  have hnev := fun (w : World) (s : Bool) => never_calls (begLate r i) s w
  change ∀ w s, Calls _ _ _ _ fun e w' => e = .returned (.bool (begB r i)) ∧ _ at hnev
  have hany := fun w gi (h : IntsAt w lv l) (h2 : BoxAt w br r) (h3 : w.heap[gi]? = some (.cells #[.int .i64 i] 3 (0, 0))) => containsL_calls lv l 98 #[.pointer (some ⟨br, 0, none⟩), .pointer (some ⟨gi, 0, none⟩)] (fun k => folB r k i) w enter98 h ((fol1_pred V h2 h3 i0 i1).mono hin)
  obtain ⟨A1, c1, rfl, hc1, hl1⟩ := hl
  unfold missB
  generalize (l.any fun x => i == x) = m1 at *
  generalize begB r i = m2 at *
  generalize (l.any fun k => folB r k i) = m3 at *
  clear h1 h2 hb hf h5 hl1 V hin
  have hmf : ∀ (fn : Fn) (first cap : Array Value) (w : World), (Instr.makeFunc fn first cap).run Tryz.prog w = .ok (.func fn first cap) w := fun _ _ _ _ => rfl
  cases m1
  · cases m2
    · go_enter Tryz.func95, Tryz.ntmps95
      go_wp2_with (first | ((with_reducible refine gate_dst (N := 4) rfl ?_); refine box_event ?hg (N := 4) ?hd (cs := #[.int .i64 i]) (t := 3) ?hr ?_; (case hd => rfl); (case hg => rfl); (case hr => first | (go_simp; done) | (go_simp; rfl)); intro gi hgi w3 hbox_ hb_; have BI := Aside0.mk hbox_; have Hgi := Aside0.mk hgi; have HB := Aside0.mk hb_; have q6 : w3.cell? ⟨gi, 0, none⟩ = some (.int .i64 i) := (blk_cell hbox_ 0).trans rfl; obtain ⟨q0, q1, q2, q3, q4⟩ := rosC_cells (blk_below BR.out hb_); have q5 : w3.cell? ⟨b8, 0, none⟩ = some (.func (.func 93) #[] #[.pointer (some ⟨b5, 0, none⟩)]) := (blk_cell (blk_below B8.out hb_) 0).trans rfl; have q7 : w3.cell? ⟨b5, 0, none⟩ = some (.slice A1 l.length c1) := (blk_cell (blk_below B5.out hb_) 0).trans rfl; have B53 := Aside0.mk (blk_below B5.out hb_); have BR3 := Aside0.mk (blk_below BR.out hb_); clear hbox_ hb_ hgi) | (go_at_call 93; refine (hhas _ B53.out (IntsAt.below hL.out HB.out)).mono ?_; rintro e w5 ⟨rfl, hb_⟩; have HB5 := Aside0.mk (below_step HB.out hb_); have BR5 := Aside0.mk (blk_below BR3.out hb_); have BI5 := Aside0.mk (blk_below BI.out hb_); have B55 := Aside0.mk (blk_below B53.out hb_); clear q0 q1 q2 q3 q4 q5 q6 q7; obtain ⟨q0, q1, q2, q3, q4⟩ := rosC_cells BR5.out; have q6 : w5.cell? ⟨gi, 0, none⟩ = some (.int .i64 i) := (blk_cell BI5.out 0).trans rfl; clear hb_) | (go_at_call 96; refine (hbeg _ (hR.out.below HB5.out)).mono ?_; rintro e w6 ⟨rfl, hb_⟩; have HB6 := Aside0.mk (below_step HB5.out hb_); have BR6 := Aside0.mk (blk_below BR5.out hb_); have BI6 := Aside0.mk (blk_below BI5.out hb_); have B56 := Aside0.mk (blk_below B55.out hb_); clear hb_ q0 q1 q2 q3 q4 q6) | (go_at_call 97; refine (hnev _ _).mono ?_; rintro e w7 ⟨rfl, hb_⟩; have HB7 := Aside0.mk (below_step HB6.out hb_); have BR7 := Aside0.mk (blk_below BR6.out hb_); have BI7 := Aside0.mk (blk_below BI6.out hb_); have q7 : w7.cell? ⟨b5, 0, none⟩ = some (.slice A1 l.length c1) := (blk_cell (blk_below B56.out hb_) 0).trans rfl; clear hb_) | (go_at_call 43; refine (hany _ gi (IntsAt.below hL.out HB7.out) ⟨A, c, T, d, BR7.out, hR.out.below HB7.out⟩ BI7.out).mono ?_; rintro e w8 ⟨rfl, hb_⟩; have HB8 := Aside0.mk (below_step HB7.out hb_); clear hb_))
      go_ret
      exact ⟨rfl, HB8.out⟩
    · go_enter Tryz.func95, Tryz.ntmps95
      go_wp2_with (first | ((with_reducible refine gate_dst (N := 4) rfl ?_); refine box_event ?hg (N := 4) ?hd (cs := #[.int .i64 i]) (t := 3) ?hr ?_; (case hd => rfl); (case hg => rfl); (case hr => first | (go_simp; done) | (go_simp; rfl)); intro gi hgi w3 hbox_ hb_; have BI := Aside0.mk hbox_; have Hgi := Aside0.mk hgi; have HB := Aside0.mk hb_; have q6 : w3.cell? ⟨gi, 0, none⟩ = some (.int .i64 i) := (blk_cell hbox_ 0).trans rfl; obtain ⟨q0, q1, q2, q3, q4⟩ := rosC_cells (blk_below BR.out hb_); have q5 : w3.cell? ⟨b8, 0, none⟩ = some (.func (.func 93) #[] #[.pointer (some ⟨b5, 0, none⟩)]) := (blk_cell (blk_below B8.out hb_) 0).trans rfl; have q7 : w3.cell? ⟨b5, 0, none⟩ = some (.slice A1 l.length c1) := (blk_cell (blk_below B5.out hb_) 0).trans rfl; have B53 := Aside0.mk (blk_below B5.out hb_); have BR3 := Aside0.mk (blk_below BR.out hb_); clear hbox_ hb_ hgi) | (go_at_call 93; refine (hhas _ B53.out (IntsAt.below hL.out HB.out)).mono ?_; rintro e w5 ⟨rfl, hb_⟩; have HB5 := Aside0.mk (below_step HB.out hb_); have BR5 := Aside0.mk (blk_below BR3.out hb_); have BI5 := Aside0.mk (blk_below BI.out hb_); have B55 := Aside0.mk (blk_below B53.out hb_); clear q0 q1 q2 q3 q4 q5 q6 q7; obtain ⟨q0, q1, q2, q3, q4⟩ := rosC_cells BR5.out; have q6 : w5.cell? ⟨gi, 0, none⟩ = some (.int .i64 i) := (blk_cell BI5.out 0).trans rfl; clear hb_) | (go_at_call 96; refine (hbeg _ (hR.out.below HB5.out)).mono ?_; rintro e w6 ⟨rfl, hb_⟩; have HB6 := Aside0.mk (below_step HB5.out hb_); have BR6 := Aside0.mk (blk_below BR5.out hb_); have BI6 := Aside0.mk (blk_below BI5.out hb_); have B56 := Aside0.mk (blk_below B55.out hb_); clear hb_ q0 q1 q2 q3 q4 q6) | (go_at_call 97; refine (hnev _ _).mono ?_; rintro e w7 ⟨rfl, hb_⟩; have HB7 := Aside0.mk (below_step HB6.out hb_); have BR7 := Aside0.mk (blk_below BR6.out hb_); have BI7 := Aside0.mk (blk_below BI6.out hb_); have q7 : w7.cell? ⟨b5, 0, none⟩ = some (.slice A1 l.length c1) := (blk_cell (blk_below B56.out hb_) 0).trans rfl; clear hb_) | (go_at_call 43; refine (hany _ gi (IntsAt.below hL.out HB7.out) ⟨A, c, T, d, BR7.out, hR.out.below HB7.out⟩ BI7.out).mono ?_; rintro e w8 ⟨rfl, hb_⟩; have HB8 := Aside0.mk (below_step HB7.out hb_); clear hb_))
      go_ret
      exact ⟨rfl, HB7.out⟩
  · go_enter Tryz.func95, Tryz.ntmps95
    go_wp2_with (first | ((with_reducible refine gate_dst (N := 4) rfl ?_); refine box_event ?hg (N := 4) ?hd (cs := #[.int .i64 i]) (t := 3) ?hr ?_; (case hd => rfl); (case hg => rfl); (case hr => first | (go_simp; done) | (go_simp; rfl)); intro gi hgi w3 hbox_ hb_; have BI := Aside0.mk hbox_; have Hgi := Aside0.mk hgi; have HB := Aside0.mk hb_; have q6 : w3.cell? ⟨gi, 0, none⟩ = some (.int .i64 i) := (blk_cell hbox_ 0).trans rfl; obtain ⟨q0, q1, q2, q3, q4⟩ := rosC_cells (blk_below BR.out hb_); have q5 : w3.cell? ⟨b8, 0, none⟩ = some (.func (.func 93) #[] #[.pointer (some ⟨b5, 0, none⟩)]) := (blk_cell (blk_below B8.out hb_) 0).trans rfl; have q7 : w3.cell? ⟨b5, 0, none⟩ = some (.slice A1 l.length c1) := (blk_cell (blk_below B5.out hb_) 0).trans rfl; have B53 := Aside0.mk (blk_below B5.out hb_); have BR3 := Aside0.mk (blk_below BR.out hb_); clear hbox_ hb_ hgi) | (go_at_call 93; refine (hhas _ B53.out (IntsAt.below hL.out HB.out)).mono ?_; rintro e w5 ⟨rfl, hb_⟩; have HB5 := Aside0.mk (below_step HB.out hb_); have BR5 := Aside0.mk (blk_below BR3.out hb_); have BI5 := Aside0.mk (blk_below BI.out hb_); have B55 := Aside0.mk (blk_below B53.out hb_); clear q0 q1 q2 q3 q4 q5 q6 q7; obtain ⟨q0, q1, q2, q3, q4⟩ := rosC_cells BR5.out; have q6 : w5.cell? ⟨gi, 0, none⟩ = some (.int .i64 i) := (blk_cell BI5.out 0).trans rfl; clear hb_) | (go_at_call 96; refine (hbeg _ (hR.out.below HB5.out)).mono ?_; rintro e w6 ⟨rfl, hb_⟩; have HB6 := Aside0.mk (below_step HB5.out hb_); have BR6 := Aside0.mk (blk_below BR5.out hb_); have BI6 := Aside0.mk (blk_below BI5.out hb_); have B56 := Aside0.mk (blk_below B55.out hb_); clear hb_ q0 q1 q2 q3 q4 q6) | (go_at_call 97; refine (hnev _ _).mono ?_; rintro e w7 ⟨rfl, hb_⟩; have HB7 := Aside0.mk (below_step HB6.out hb_); have BR7 := Aside0.mk (blk_below BR6.out hb_); have BI7 := Aside0.mk (blk_below BI6.out hb_); have q7 : w7.cell? ⟨b5, 0, none⟩ = some (.slice A1 l.length c1) := (blk_cell (blk_below B56.out hb_) 0).trans rfl; clear hb_) | (go_at_call 43; refine (hany _ gi (IntsAt.below hL.out HB7.out) ⟨A, c, T, d, BR7.out, hR.out.below HB7.out⟩ BI7.out).mono ?_; rintro e w8 ⟨rfl, hb_⟩; have HB8 := Aside0.mk (below_step HB7.out hb_); clear hb_))
    go_ret
    exact ⟨rfl, HB5.out⟩
theorem enter95 : CanEnter 95 := Go.Proofs.enters_of Tryz.func95 (by kernel_rfl) rfl
theorem miss_pred {b8 br b5 : Nat} {r : Ros} {lv : Value} {l : List Int} {w : World} (V : Valid r) (hf : w.heap[b8]? = some (.cells #[.func (.func 93) #[] #[.pointer (some ⟨b5, 0, none⟩)]] 55 (0, 0))) (hb : BoxAt w br r) (h5 : w.heap[b5]? = some (.cells #[lv] 26 (0, 0))) (hl : IntsAt w lv l) (hin : ∀ x ∈ l, 0 ≤ x ∧ x < r.turns.length) :
    PredIn 95 #[.pointer (some ⟨b8, 0, none⟩), .pointer (some ⟨br, 0, none⟩), .pointer (some ⟨b5, 0, none⟩)] (missB r l) (fun x => 0 ≤ x ∧ x < r.turns.length) w :=
  fun W x hx hW => miss_calls x b8 br b5 r lv l W V (blk_below hf hW) (hb.below hW) (blk_below h5 hW) (IntsAt.below hl hW) hin hx.1 hx.2
end Go.Proofs.YtflolfbkpjgjaaaGreatDoor
end
