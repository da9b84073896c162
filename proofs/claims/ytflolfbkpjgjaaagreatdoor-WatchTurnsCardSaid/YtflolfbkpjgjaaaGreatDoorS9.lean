/- WatchTurns holds: the law returns true for every input, and each argument reads behind the call as it read before. Conditions: the tables of the library that the row lists hold what their text lays. -/
import Derived.BigRegion
import Derived.Deep.QuietTactic
import Derived.BigQuiet
import Derived.Deep.CutRange
import Derived.Test.YtflolfbkpjgjaaaGreatDoorCards
import Derived.Test.YtflolfbkpjgjaaaGreatDoorTie
import Derived.Test.YtflolfbkpjgjaaaGreatDoorY8
set_option linter.unusedVariables false
set_option linter.unusedSimpArgs false
section
namespace Go.Proofs.YtflolfbkpjgjaaaGreatDoorW.PrintWords
open Go.RowKit
namespace Kd
def bare {α : Type} (d : Kd α) : Kd α where
  sz := d.sz
  E := d.E
  K := d.K
  M := fun w base _ x cs => d.M w base (fun _ => False) x cs
  K_len := fun h => d.K_len h
  K_one := fun h => d.K_one h
  K_below := fun hb h => d.K_below hb h
  K_of_M := fun h => d.K_of_M h
  M_mono := fun _ h => h
  M_bound := fun h => h
  M_move := fun _ h => d.M_move (fun _ hk => hk.elim) h
  M_lower := fun hb h => d.M_lower hb h
section
variable {α β : Type} {d : Kd α} {d' : Kd β} {e e' : Nat} {w w1 W : World} {base b : Nat} {ok ok' okv oku : Nat → Prop} {u v : Value} {xs : List α} {ys : List β}
end
section
variable {α β : Type} {d : Kd α} {d' : Kd β} {e e' g : Nat} {w w1 W : World} {base b : Nat} {ok ok' okv oku : Nat → Prop} {u v : Value} {xs : List α} {ys : List β}
end
section
variable {P : Program} {ops : Array Oper} {rest : List Oper} {o : Oper} {a : Act} {Q : Exit → Act → World → Prop} {Kc : Act → World → Prop} {α : Type}
end
section
variable {α β : Type} {d : Kd α} {e e' g n cap : Nat} {w w1 W : World} {base : Nat} {ok ok' oki okp : Nat → Prop} {u v : Value} {xs : List α} {i : Int} {c : List Value}
end
section
variable {P : Program} {ops : Array Oper} {rest : List Oper} {o : Oper} {a : Act} {Q : Exit → Act → World → Prop} {α : Type}
end
end Kd
end Go.Proofs.YtflolfbkpjgjaaaGreatDoorW.PrintWords
end
section
namespace Go.Proofs.YtflolfbkpjgjaaaGreatDoor
open Go.RowKit Go.Proofs.YtflolfbkpjgjaaaGreatDoorW.PrintWords
open Go.Proofs.YtflolfbkpjgjaaaGreatDoorW.PrintMore
theorem addr_zero (a : Addr) : a.add 0 = a := by simp [Addr.add]
set_option maxHeartbeats 4000000 in
set_option maxRecDepth 100000 in
theorem turnR_calls (v : Value) (r : Ros) (i : Int) (w : World) (hv : RosAt w v r) :
    Calls Tryz.prog 128 #[v, .int .i64 i] w fun e w' => e = .returned (.bool (!outB r i)) ∧ Below w.heap.size w w' := by
  obtain ⟨A, c, T, d, rfl, h1, h2, h3, h4⟩ := hv
  clear h1 h2 h3 h4
  have hv2 : (!outB r i) = (decide (0 ≤ i) && decide (i < (r.turns.length : Int))) := by
    unfold outB inB
    rw [Bool.not_not]
    congr 1
    exact decide_eq_decide.2 (by omega)
  simp only [hv2]
  clear hv2
  cases d0 : decide (0 ≤ i)
  all_goals
    go_enter Tryz.func128, Tryz.ntmps128
    go_wp2_with ((with_reducible refine gate_dst (N := 2) rfl ?_); refine box_event ?hg (N := 2) ?hd (cs := (rosC r A c T d)) (t := 25) ?hr ?_; (case hd => rfl); (case hg => rfl); (case hr => first | (go_simp; done) | (go_simp; rfl)); intro g hg_ wb hbox_ hb_; have BK := Aside0.mk hbox_; have HB := Aside0.mk hb_; obtain ⟨q0, q1, q2, q3, q4⟩ := rosC_cells BK.out; clear hbox_ hb_ hg_)
    go_ret
    exact ⟨rfl, HB.out⟩
set_option maxHeartbeats 4000000 in
set_option maxRecDepth 100000 in
theorem starts_calls (v : Value) (r : Ros) (i : Int) (w : World) (hv : RosAt w v r) (V : Valid r) (i0 : 0 ≤ i) (i1 : i < r.turns.length) :
    Calls Tryz.prog 87 #[v, .int .i64 i] w fun e w' => e = .returned (.bool (begB r i)) ∧ Below w.heap.size w w' := by
  obtain ⟨A, c, T, d, rfl, h1, h2, h3, h4⟩ := hv
  have H3 := Aside0.mk h3
  have H4 := Aside0.mk h4
  have vf := V.frm
  have vg := V.frmtil
  have vh := V.til
  have vc := V.clocks
  have hz : (0 : Int) < (r.ahead.length : Int) := by omega
  have hzN : 0 < r.ahead.length := by omega
  clear h1 h2 h3 h4
  obtain ⟨ad, hA, G0, G1, G2, G3, G4, G5⟩ := CT_at H4.out i i0 i1
  cases hA
  replace G0 : Aside0 (w.cell? _ = some (.int .i64 (tn r i).gate)) := ⟨G0⟩
  replace G1 : Aside0 (w.cell? _ = some (.int .i64 (tn r i).clock)) := ⟨G1⟩
  replace G2 : Aside0 (w.cell? _ = some (.int .i64 (tn r i).frm)) := ⟨G2⟩
  replace G3 : Aside0 (w.cell? _ = some (.int .i64 (tn r i).clock2)) := ⟨G3⟩
  replace G4 : Aside0 (w.cell? _ = some (.int .i64 (tn r i).til)) := ⟨G4⟩
  replace G5 : Aside0 (w.cell? _ = some (.int .i64 (tn r i).cost)) := ⟨G5⟩
  have vt := V.turn i i0 i1
  obtain ⟨ar, A0, c0, hA, k1, k2, k3⟩ := CII_at H3.out 0 (Int.le_refl _) (by omega)
  cases hA
  have hrow := V.row 0 (Int.le_refl _) (by omega)
  rw [hrow] at k1 k2 k3
  obtain ⟨ac, hA, k4⟩ := CI_at k3 (tn r i).clock vt.2.1.1 (by have := vt.2.1.2; omega)
  cases hA
  replace k4 : w.cell? _ = some (.int .i64 (ahd r 0 (tn r i).clock)) := k4
  have vb := V.bnd 0 (tn r i).clock (Int.le_refl _) (by omega) vt.2.1.1 (by have := vt.2.1.2; omega)
  have K1 := Aside0.mk k1
  have K4 := Aside0.mk k4
  clear k1 k2 k3 k4 hrow
  have hw1 : IntKind.i64.wrap ((tn r i).frm - r.frm) = (tn r i).frm - r.frm := IntWalk.i64_in _ (by omega)
  have hw2 : IntKind.i64.wrap ((tn r i).frm - r.frm + ahd r 0 (tn r i).clock) = (tn r i).frm - r.frm + ahd r 0 (tn r i).clock := IntWalk.i64_in _ (by omega)
  clear V H3 H4
  go_enter Tryz.func87, Tryz.ntmps87
  go_wp2_with ((with_reducible refine gate_dst (N := 2) rfl ?_); refine box_event ?hg (N := 2) ?hd (cs := (rosC r (some ar) c (some ad) d)) (t := 25) ?hr ?_; (case hd => rfl); (case hg => rfl); (case hr => first | (go_simp; done) | (go_simp; rfl)); intro g hg_ wb hbox_ hb_; have BK := Aside0.mk hbox_; have HB := Aside0.mk hb_; obtain ⟨q0, q1, q2, q3, q4⟩ := rosC_cells BK.out; have g0 := pw_cell_below HB.out G0.out; have g1 := pw_cell_below HB.out G1.out; have g2 := pw_cell_below HB.out G2.out; have g3 := pw_cell_below HB.out G3.out; have g4 := pw_cell_below HB.out G4.out; have g5 := pw_cell_below HB.out G5.out; have p0 := World.block_lt_of_cell? wb _ g0; have p1 := Nat.lt_add_right 1 p0; have k1z := pw_cell_below HB.out K1.out; have k4z := pw_cell_below HB.out K4.out; (try simp only [Int.toNat_zero, addr_zero] at k1z k4z); have r1z := World.block_lt_of_cell? wb _ k1z; have r4z := World.block_lt_of_cell? wb _ k4z; have r1y := Nat.lt_add_right 1 r1z; have r4y := Nat.lt_add_right 1 r4z; have k1 := pw_cell_below HB.out K1.out; have k4 := pw_cell_below HB.out K4.out; have r1 := World.block_lt_of_cell? wb _ k1; have r4 := World.block_lt_of_cell? wb _ k4; have r1a := Nat.lt_add_right 1 r1; have r4a := Nat.lt_add_right 1 r4; have gl0 := blk_lt BK.out; have gl1 := Nat.lt_add_right 1 gl0; clear hbox_ hb_ hg_)
  go_quiet (fail)
  go_wp2
  go_ret
  first | exact ⟨rfl, HB.out⟩ | exact ⟨rfl, by repeat (first | exact HB.out | apply below_alloc | apply pw_below_drewN | apply below_drew)⟩
set_option maxHeartbeats 4000000 in
set_option maxRecDepth 100000 in
theorem lasts_calls (v : Value) (r : Ros) (i : Int) (w : World) (hv : RosAt w v r) (V : Valid r) (i0 : 0 ≤ i) (i1 : i < r.turns.length) :
    Calls Tryz.prog 102 #[v, .int .i64 i] w fun e w' => e = .returned (.bool (endB r i)) ∧ Below w.heap.size w w' := by
  obtain ⟨A, c, T, d, rfl, h1, h2, h3, h4⟩ := hv
  have H3 := Aside0.mk h3
  have H4 := Aside0.mk h4
  have vf := V.frm
  have vg := V.frmtil
  have vh := V.til
  have vc := V.clocks
  have hz : (0 : Int) < (r.ahead.length : Int) := by omega
  have hzN : 0 < r.ahead.length := by omega
  clear h1 h2 h3 h4
  obtain ⟨ad, hA, G0, G1, G2, G3, G4, G5⟩ := CT_at H4.out i i0 i1
  cases hA
  replace G0 : Aside0 (w.cell? _ = some (.int .i64 (tn r i).gate)) := ⟨G0⟩
  replace G1 : Aside0 (w.cell? _ = some (.int .i64 (tn r i).clock)) := ⟨G1⟩
  replace G2 : Aside0 (w.cell? _ = some (.int .i64 (tn r i).frm)) := ⟨G2⟩
  replace G3 : Aside0 (w.cell? _ = some (.int .i64 (tn r i).clock2)) := ⟨G3⟩
  replace G4 : Aside0 (w.cell? _ = some (.int .i64 (tn r i).til)) := ⟨G4⟩
  replace G5 : Aside0 (w.cell? _ = some (.int .i64 (tn r i).cost)) := ⟨G5⟩
  have vt := V.turn i i0 i1
  obtain ⟨ar, A0, c0, hA, k1, k2, k3⟩ := CII_at H3.out (tn r i).clock2 vt.2.2.1.1 vt.2.2.1.2
  cases hA
  have hrow := V.row (tn r i).clock2 vt.2.2.1.1 vt.2.2.1.2
  rw [hrow] at k1 k2 k3
  obtain ⟨ac, hA, k4⟩ := CI_at k3 0 (Int.le_refl _) (by omega)
  cases hA
  replace k4 : w.cell? _ = some (.int .i64 (ahd r (tn r i).clock2 0)) := k4
  have vb := V.bnd (tn r i).clock2 0 vt.2.2.1.1 vt.2.2.1.2 (Int.le_refl _) (by omega)
  have K1 := Aside0.mk k1
  have K4 := Aside0.mk k4
  clear k1 k2 k3 k4 hrow
  have hw1 : IntKind.i64.wrap (r.til - (tn r i).til) = r.til - (tn r i).til := IntWalk.i64_in _ (by omega)
  have hw2 : IntKind.i64.wrap (r.til - (tn r i).til + ahd r (tn r i).clock2 0) = r.til - (tn r i).til + ahd r (tn r i).clock2 0 := IntWalk.i64_in _ (by omega)
  clear V H3 H4
  go_enter Tryz.func102, Tryz.ntmps102
  go_wp2_with ((with_reducible refine gate_dst (N := 2) rfl ?_); refine box_event ?hg (N := 2) ?hd (cs := (rosC r (some ar) c (some ad) d)) (t := 25) ?hr ?_; (case hd => rfl); (case hg => rfl); (case hr => first | (go_simp; done) | (go_simp; rfl)); intro g hg_ wb hbox_ hb_; have BK := Aside0.mk hbox_; have HB := Aside0.mk hb_; obtain ⟨q0, q1, q2, q3, q4⟩ := rosC_cells BK.out; have g0 := pw_cell_below HB.out G0.out; have g1 := pw_cell_below HB.out G1.out; have g2 := pw_cell_below HB.out G2.out; have g3 := pw_cell_below HB.out G3.out; have g4 := pw_cell_below HB.out G4.out; have g5 := pw_cell_below HB.out G5.out; have p0 := World.block_lt_of_cell? wb _ g0; have p1 := Nat.lt_add_right 1 p0; have k1z := pw_cell_below HB.out K1.out; have k4z := pw_cell_below HB.out K4.out; (try simp only [Int.toNat_zero, addr_zero] at k1z k4z); have r1z := World.block_lt_of_cell? wb _ k1z; have r4z := World.block_lt_of_cell? wb _ k4z; have r1y := Nat.lt_add_right 1 r1z; have r4y := Nat.lt_add_right 1 r4z; have k1 := pw_cell_below HB.out K1.out; have k4 := pw_cell_below HB.out K4.out; have r1 := World.block_lt_of_cell? wb _ k1; have r4 := World.block_lt_of_cell? wb _ k4; have r1a := Nat.lt_add_right 1 r1; have r4a := Nat.lt_add_right 1 r4; have gl0 := blk_lt BK.out; have gl1 := Nat.lt_add_right 1 gl0; clear hbox_ hb_ hg_)
  go_quiet (fail)
  go_wp2
  go_ret
  first | exact ⟨rfl, HB.out⟩ | exact ⟨rfl, by repeat (first | exact HB.out | apply below_alloc | apply pw_below_drewN | apply below_drew)⟩
set_option maxHeartbeats 4000000 in
set_option maxRecDepth 100000 in
theorem followsR_calls (v : Value) (r : Ros) (i j : Int) (w : World) (hv : RosAt w v r) (V : Valid r) (i0 : 0 ≤ i) (i1 : i < r.turns.length) (j0 : 0 ≤ j) (j1 : j < r.turns.length) :
    Calls Tryz.prog 88 #[v, .int .i64 i, .int .i64 j] w fun e w' => e = .returned (.bool (folB r i j)) ∧ Below w.heap.size w w' := by
  obtain ⟨A, c, T, d, rfl, h1, h2, h3, h4⟩ := hv
  have H3 := Aside0.mk h3
  have H4 := Aside0.mk h4
  have vf := V.frm
  have vg := V.frmtil
  have vh := V.til
  have vc := V.clocks
  have hz : (0 : Int) < (r.ahead.length : Int) := by omega
  have hzN : 0 < r.ahead.length := by omega
  clear h1 h2 h3 h4
  obtain ⟨ad, hA, G0, G1, G2, G3, G4, G5⟩ := CT_at H4.out i i0 i1
  cases hA
  replace G0 : Aside0 (w.cell? _ = some (.int .i64 (tn r i).gate)) := ⟨G0⟩
  replace G1 : Aside0 (w.cell? _ = some (.int .i64 (tn r i).clock)) := ⟨G1⟩
  replace G2 : Aside0 (w.cell? _ = some (.int .i64 (tn r i).frm)) := ⟨G2⟩
  replace G3 : Aside0 (w.cell? _ = some (.int .i64 (tn r i).clock2)) := ⟨G3⟩
  replace G4 : Aside0 (w.cell? _ = some (.int .i64 (tn r i).til)) := ⟨G4⟩
  replace G5 : Aside0 (w.cell? _ = some (.int .i64 (tn r i).cost)) := ⟨G5⟩
  have vt := V.turn i i0 i1
  obtain ⟨adx, hA, Gx0, Gx1, Gx2, Gx3, Gx4, Gx5⟩ := CT_at H4.out j j0 j1
  cases hA
  replace Gx0 : Aside0 (w.cell? _ = some (.int .i64 (tn r j).gate)) := ⟨Gx0⟩
  replace Gx1 : Aside0 (w.cell? _ = some (.int .i64 (tn r j).clock)) := ⟨Gx1⟩
  replace Gx2 : Aside0 (w.cell? _ = some (.int .i64 (tn r j).frm)) := ⟨Gx2⟩
  replace Gx3 : Aside0 (w.cell? _ = some (.int .i64 (tn r j).clock2)) := ⟨Gx3⟩
  replace Gx4 : Aside0 (w.cell? _ = some (.int .i64 (tn r j).til)) := ⟨Gx4⟩
  replace Gx5 : Aside0 (w.cell? _ = some (.int .i64 (tn r j).cost)) := ⟨Gx5⟩
  have vtx := V.turn j j0 j1
  obtain ⟨ar, A0, c0, hA, k1, k2, k3⟩ := CII_at H3.out (tn r i).clock2 vt.2.2.1.1 vt.2.2.1.2
  cases hA
  have hrow := V.row (tn r i).clock2 vt.2.2.1.1 vt.2.2.1.2
  rw [hrow] at k1 k2 k3
  obtain ⟨ac, hA, k4⟩ := CI_at k3 (tn r j).clock vtx.2.1.1 (by have := vtx.2.1.2; omega)
  cases hA
  replace k4 : w.cell? _ = some (.int .i64 (ahd r (tn r i).clock2 (tn r j).clock)) := k4
  have vb := V.bnd (tn r i).clock2 (tn r j).clock vt.2.2.1.1 vt.2.2.1.2 vtx.2.1.1 (by have := vtx.2.1.2; omega)
  have K1 := Aside0.mk k1
  have K4 := Aside0.mk k4
  clear k1 k2 k3 k4 hrow
  have hw1 : IntKind.i64.wrap ((tn r j).frm - (tn r i).til) = (tn r j).frm - (tn r i).til := IntWalk.i64_in _ (by omega)
  have hw2 : IntKind.i64.wrap ((tn r j).frm - (tn r i).til + ahd r (tn r i).clock2 (tn r j).clock) = (tn r j).frm - (tn r i).til + ahd r (tn r i).clock2 (tn r j).clock := IntWalk.i64_in _ (by omega)
  clear V H3 H4
  unfold folB
  by_cases hij : i = j
  · have e1 : (i != j) = false := by simp [hij]
    rw [decide_eq_false (fun h => h hij)]
    clear hij
    go_enter Tryz.func88, Tryz.ntmps88
    go_wp2_with ((with_reducible refine gate_dst (N := 3) rfl ?_); refine box_event ?hg (N := 3) ?hd (cs := (rosC r (some ar) c (some ad) d)) (t := 25) ?hr ?_; (case hd => rfl); (case hg => rfl); (case hr => first | (go_simp; done) | (go_simp; rfl)); intro g hg_ wb hbox_ hb_; have BK := Aside0.mk hbox_; have HB := Aside0.mk hb_; obtain ⟨q0, q1, q2, q3, q4⟩ := rosC_cells BK.out; have g0 := pw_cell_below HB.out G0.out; have g1 := pw_cell_below HB.out G1.out; have g2 := pw_cell_below HB.out G2.out; have g3 := pw_cell_below HB.out G3.out; have g4 := pw_cell_below HB.out G4.out; have g5 := pw_cell_below HB.out G5.out; have p0 := World.block_lt_of_cell? wb _ g0; have p1 := Nat.lt_add_right 1 p0; have gx0 := pw_cell_below HB.out Gx0.out; have gx1 := pw_cell_below HB.out Gx1.out; have gx2 := pw_cell_below HB.out Gx2.out; have gx3 := pw_cell_below HB.out Gx3.out; have gx4 := pw_cell_below HB.out Gx4.out; have gx5 := pw_cell_below HB.out Gx5.out; have p0x := World.block_lt_of_cell? wb _ gx0; have p1x := Nat.lt_add_right 1 p0x; have k1z := pw_cell_below HB.out K1.out; have k4z := pw_cell_below HB.out K4.out; (try simp only [Int.toNat_zero, addr_zero] at k1z k4z); have r1z := World.block_lt_of_cell? wb _ k1z; have r4z := World.block_lt_of_cell? wb _ k4z; have r1y := Nat.lt_add_right 1 r1z; have r4y := Nat.lt_add_right 1 r4z; have k1 := pw_cell_below HB.out K1.out; have k4 := pw_cell_below HB.out K4.out; have r1 := World.block_lt_of_cell? wb _ k1; have r4 := World.block_lt_of_cell? wb _ k4; have r1a := Nat.lt_add_right 1 r1; have r4a := Nat.lt_add_right 1 r4; have gl0 := blk_lt BK.out; have gl1 := Nat.lt_add_right 1 gl0; have p2 := Nat.lt_add_right 2 p0; have p2x := Nat.lt_add_right 2 p0x; have r1b := Nat.lt_add_right 2 r1; have r4b := Nat.lt_add_right 2 r4; have gl2 := Nat.lt_add_right 2 gl0; clear hbox_ hb_ hg_)
    go_quiet (fail)
    go_wp2
    go_ret
    first | exact ⟨rfl, HB.out⟩ | exact ⟨rfl, by repeat (first | exact HB.out | apply below_alloc | apply pw_below_drewN | apply below_drew)⟩
  · have e1 : (i != j) = true := by simp [hij]
    rw [decide_eq_true hij]
    clear hij
    by_cases hg : (tn r i).gate = (tn r j).gate
    · have e2 : ((tn r i).gate == (tn r j).gate) = true := by simp [hg]
      rw [decide_eq_true hg]
      clear hg
      go_enter Tryz.func88, Tryz.ntmps88
      go_wp2_with ((with_reducible refine gate_dst (N := 3) rfl ?_); refine box_event ?hg (N := 3) ?hd (cs := (rosC r (some ar) c (some ad) d)) (t := 25) ?hr ?_; (case hd => rfl); (case hg => rfl); (case hr => first | (go_simp; done) | (go_simp; rfl)); intro g hg_ wb hbox_ hb_; have BK := Aside0.mk hbox_; have HB := Aside0.mk hb_; obtain ⟨q0, q1, q2, q3, q4⟩ := rosC_cells BK.out; have g0 := pw_cell_below HB.out G0.out; have g1 := pw_cell_below HB.out G1.out; have g2 := pw_cell_below HB.out G2.out; have g3 := pw_cell_below HB.out G3.out; have g4 := pw_cell_below HB.out G4.out; have g5 := pw_cell_below HB.out G5.out; have p0 := World.block_lt_of_cell? wb _ g0; have p1 := Nat.lt_add_right 1 p0; have gx0 := pw_cell_below HB.out Gx0.out; have gx1 := pw_cell_below HB.out Gx1.out; have gx2 := pw_cell_below HB.out Gx2.out; have gx3 := pw_cell_below HB.out Gx3.out; have gx4 := pw_cell_below HB.out Gx4.out; have gx5 := pw_cell_below HB.out Gx5.out; have p0x := World.block_lt_of_cell? wb _ gx0; have p1x := Nat.lt_add_right 1 p0x; have k1z := pw_cell_below HB.out K1.out; have k4z := pw_cell_below HB.out K4.out; (try simp only [Int.toNat_zero, addr_zero] at k1z k4z); have r1z := World.block_lt_of_cell? wb _ k1z; have r4z := World.block_lt_of_cell? wb _ k4z; have r1y := Nat.lt_add_right 1 r1z; have r4y := Nat.lt_add_right 1 r4z; have k1 := pw_cell_below HB.out K1.out; have k4 := pw_cell_below HB.out K4.out; have r1 := World.block_lt_of_cell? wb _ k1; have r4 := World.block_lt_of_cell? wb _ k4; have r1a := Nat.lt_add_right 1 r1; have r4a := Nat.lt_add_right 1 r4; have gl0 := blk_lt BK.out; have gl1 := Nat.lt_add_right 1 gl0; have p2 := Nat.lt_add_right 2 p0; have p2x := Nat.lt_add_right 2 p0x; have r1b := Nat.lt_add_right 2 r1; have r4b := Nat.lt_add_right 2 r4; have gl2 := Nat.lt_add_right 2 gl0; clear hbox_ hb_ hg_)
      go_quiet (fail)
      go_wp2
      go_ret
      first | exact ⟨rfl, HB.out⟩ | exact ⟨rfl, by repeat (first | exact HB.out | apply below_alloc | apply pw_below_drewN | apply below_drew)⟩
    · have e2 : ((tn r i).gate == (tn r j).gate) = false := by simp [hg]
      rw [decide_eq_false hg]
      clear hg
      go_enter Tryz.func88, Tryz.ntmps88
      go_wp2_with ((with_reducible refine gate_dst (N := 3) rfl ?_); refine box_event ?hg (N := 3) ?hd (cs := (rosC r (some ar) c (some ad) d)) (t := 25) ?hr ?_; (case hd => rfl); (case hg => rfl); (case hr => first | (go_simp; done) | (go_simp; rfl)); intro g hg_ wb hbox_ hb_; have BK := Aside0.mk hbox_; have HB := Aside0.mk hb_; obtain ⟨q0, q1, q2, q3, q4⟩ := rosC_cells BK.out; have g0 := pw_cell_below HB.out G0.out; have g1 := pw_cell_below HB.out G1.out; have g2 := pw_cell_below HB.out G2.out; have g3 := pw_cell_below HB.out G3.out; have g4 := pw_cell_below HB.out G4.out; have g5 := pw_cell_below HB.out G5.out; have p0 := World.block_lt_of_cell? wb _ g0; have p1 := Nat.lt_add_right 1 p0; have gx0 := pw_cell_below HB.out Gx0.out; have gx1 := pw_cell_below HB.out Gx1.out; have gx2 := pw_cell_below HB.out Gx2.out; have gx3 := pw_cell_below HB.out Gx3.out; have gx4 := pw_cell_below HB.out Gx4.out; have gx5 := pw_cell_below HB.out Gx5.out; have p0x := World.block_lt_of_cell? wb _ gx0; have p1x := Nat.lt_add_right 1 p0x; have k1z := pw_cell_below HB.out K1.out; have k4z := pw_cell_below HB.out K4.out; (try simp only [Int.toNat_zero, addr_zero] at k1z k4z); have r1z := World.block_lt_of_cell? wb _ k1z; have r4z := World.block_lt_of_cell? wb _ k4z; have r1y := Nat.lt_add_right 1 r1z; have r4y := Nat.lt_add_right 1 r4z; have k1 := pw_cell_below HB.out K1.out; have k4 := pw_cell_below HB.out K4.out; have r1 := World.block_lt_of_cell? wb _ k1; have r4 := World.block_lt_of_cell? wb _ k4; have r1a := Nat.lt_add_right 1 r1; have r4a := Nat.lt_add_right 1 r4; have gl0 := blk_lt BK.out; have gl1 := Nat.lt_add_right 1 gl0; have p2 := Nat.lt_add_right 2 p0; have p2x := Nat.lt_add_right 2 p0x; have r1b := Nat.lt_add_right 2 r1; have r4b := Nat.lt_add_right 2 r4; have gl2 := Nat.lt_add_right 2 gl0; clear hbox_ hb_ hg_)
      go_quiet (fail)
      go_wp2
      go_ret
      first | exact ⟨rfl, HB.out⟩ | exact ⟨rfl, by repeat (first | exact HB.out | apply below_alloc | apply pw_below_drewN | apply below_drew)⟩
set_option maxHeartbeats 4000000 in
set_option maxRecDepth 100000 in
theorem guardsR_calls (t : Trn) (lv : Value) (shown : List Int) (w : World) (hl : IntsAt w lv shown) (c0 : 0 ≤ t.clock) (c1 : t.clock < shown.length) (d0 : 0 ≤ t.clock2) (d1 : t.clock2 < shown.length) :
    Calls Tryz.prog 115 #[.agg (trnC t), lv] w fun e w' => e = .returned (.bool (guardB t shown)) ∧ Below w.heap.size w w' := by
  obtain ⟨A, c, rfl, h1, h2⟩ := hl
  obtain ⟨ad, hA, k1⟩ := CI_at h2 t.clock c0 c1
  cases hA
  obtain ⟨ad', hA, k2⟩ := CI_at h2 t.clock2 d0 d1
  cases hA
  have K1 : Aside0 (w.cell? (ad.add t.clock.toNat) = some (.int .i64 (sh shown t.clock))) := ⟨k1⟩
  have K2 : Aside0 (w.cell? (ad.add t.clock2.toNat) = some (.int .i64 (sh shown t.clock2))) := ⟨k2⟩
  have hv2 : guardB t shown = (decide (t.frm ≤ sh shown t.clock) && decide (sh shown t.clock2 < t.til)) := by
    unfold guardB
    congr 1
    rw [← decide_not]
    exact decide_eq_decide.2 (by omega)
  simp only [hv2]
  clear hv2 k1 k2 h1 h2
  generalize sh shown t.clock = s1 at *
  generalize sh shown t.clock2 = s2 at *
  generalize shown.length = n at *
  cases e1 : decide (t.frm ≤ s1)
  all_goals
    go_enter Tryz.func115, Tryz.ntmps115
    go_wp2_with ((with_reducible refine gate_dst (N := 2) rfl ?_); refine box_event ?hg (N := 2) ?hd (cs := (trnC t)) (t := 45) ?hr ?_; (case hd => rfl); (case hg => rfl); (case hr => first | (go_simp; done) | (go_simp; rfl)); intro g hg_ wb hbox_ hb_; have BK := Aside0.mk hbox_; have HB := Aside0.mk hb_; obtain ⟨x0, x1, x2, x3, x4, x5⟩ := trnC_cells BK.out; have k1 := pw_cell_below HB.out K1.out; have k2 := pw_cell_below HB.out K2.out; clear hbox_ hb_ hg_)
    go_quiet (fail)
    go_wp2
    go_ret
    first | exact ⟨rfl, HB.out⟩ | exact ⟨rfl, pw_below_drewN HB.out _⟩
end Go.Proofs.YtflolfbkpjgjaaaGreatDoor
end
section
namespace Go.Proofs.YtflolfbkpjgjaaaGreatDoor
open Go.RowKit Go.Proofs.YtflolfbkpjgjaaaGreatDoorW.PrintWords
open Go.Proofs.YtflolfbkpjgjaaaGreatDoorW.PrintMore
theorem who0_calls {v lv : Value} {r : Ros} {shown : List Int} {w : World} (hv : RosAt w v r) (hl : IntsAt w lv shown) : Calls Tryz.prog 41 #[v, lv] w fun e w' => ∃ ov, e = .returned (.tuple #[ov, .int .i64 (whoE r shown)]) ∧ IntsAt w' ov (whoO r shown) ∧ Below w.heap.size w w' := by
  refine (who_calls v lv r shown w hv hl).mono ?_
  rintro e w' ⟨ov, rfl, ho, hb⟩
  exact ⟨ov, rfl, intsAt_of_own ho, hb⟩
end Go.Proofs.YtflolfbkpjgjaaaGreatDoor
end
section
namespace Go.Proofs.YtflolfbkpjgjaaaGreatDoor
open Go.RowKit Go.Proofs.YtflolfbkpjgjaaaGreatDoorW.PrintWords
open Go.Proofs.YtflolfbkpjgjaaaGreatDoorW.PrintMore
set_option maxHeartbeats 8000000 in
set_option maxRecDepth 100000 in
theorem checkR_calls (v : Value) (r : Ros) (w : World) (hv : RosAt w v r) :
    Calls Tryz.prog 49 #[v] w fun e w' => e = .returned (.int .i64 (checkE r)) ∧ Below w.heap.size w w' := by
  have hR0 := hv
  obtain ⟨A, c, T, d, rfl, h1, h2, h3, h4⟩ := hv
  have hR : Aside0 (RosAt w (.agg #[.int .i64 r.gates, .int .i64 r.frm, .int .i64 r.til, .slice A r.ahead.length c, .slice T r.turns.length d]) r) := ⟨hR0⟩
  clear h1 h2 h3 h4 hR0
  have hval := fun W (h : RosAt W (.agg #[.int .i64 r.gates, .int .i64 r.frm, .int .i64 r.til, .slice A r.ahead.length c, .slice T r.turns.length d]) r) => valid_calls (.agg #[.int .i64 r.gates, .int .i64 r.frm, .int .i64 r.til, .slice A r.ahead.length c, .slice T r.turns.length d]) r W h
  unfold checkE
  generalize checkB r = cb at *
  cases cb
  all_goals
    go_enter Tryz.func49, Tryz.ntmps49
    go_wp2_with (first | ((with_reducible refine gate_dst (N := 1) rfl ?_); refine box_event ?hg (N := 1) ?hd (cs := (rosC r A c T d)) (t := 25) ?hr ?_; (case hd => rfl); (case hg => rfl); (case hr => first | (go_simp; done) | (go_simp; rfl)); intro g hg_ wb hbox_ hb_; have BK := Aside0.mk hbox_; have HB := Aside0.mk hb_; obtain ⟨q0, q1, q2, q3, q4⟩ := rosC_cells BK.out; clear hbox_ hb_ hg_) | (go_at_call 34; (with_reducible refine (hval _ (hR.out.below HB.out)).mono ?_); rintro e wb ⟨rfl, hb_⟩; replace HB := Aside0.mk (below_step HB.out hb_); replace BK := Aside0.mk (blk_below BK.out hb_); clear q0 q1 q2 q3 q4; obtain ⟨q0, q1, q2, q3, q4⟩ := rosC_cells BK.out; clear hb_))
    go_ret
    exact ⟨rfl, HB.out⟩
set_option maxHeartbeats 8000000 in
set_option maxRecDepth 100000 in
theorem beginsR_calls (v : Value) (r : Ros) (i : Int) (w : World) (hv : RosAt w v r) :
    Calls Tryz.prog 50 #[v, .int .i64 i] w fun e w' => e = .returned (.tuple #[.bool (beginsV r i), .int .i64 (turnsE r [i])]) ∧ Below w.heap.size w w' := by
  have hR0 := hv
  obtain ⟨A, c, T, d, rfl, h1, h2, h3, h4⟩ := hv
  have hR : Aside0 (RosAt w (.agg #[.int .i64 r.gates, .int .i64 r.frm, .int .i64 r.til, .slice A r.ahead.length c, .slice T r.turns.length d]) r) := ⟨hR0⟩
  clear h1 h2 h3 h4 hR0
  have hval := fun W (h : RosAt W (.agg #[.int .i64 r.gates, .int .i64 r.frm, .int .i64 r.til, .slice A r.ahead.length c, .slice T r.turns.length d]) r) => valid_calls (.agg #[.int .i64 r.gates, .int .i64 r.frm, .int .i64 r.til, .slice A r.ahead.length c, .slice T r.turns.length d]) r W h
  have hturn := fun W (h : RosAt W (.agg #[.int .i64 r.gates, .int .i64 r.frm, .int .i64 r.til, .slice A r.ahead.length c, .slice T r.turns.length d]) r) => turnR_calls (.agg #[.int .i64 r.gates, .int .i64 r.frm, .int .i64 r.til, .slice A r.ahead.length c, .slice T r.turns.length d]) r i W h
  cases hcb : checkB r
  · have e1 : turnsE r [i] = 70 := by simp [turnsE, checkE, hcb]
    have e2 : beginsV r i = false := by unfold beginsV; rw [e1]; rfl
    rw [e1, e2]
    simp only [hcb] at hval
    clear hturn e1 e2 hcb
    go_enter Tryz.func50, Tryz.ntmps50
    go_wp2_with (first | ((with_reducible refine gate_dst (N := 2) rfl ?_); refine box_event ?hg (N := 2) ?hd (cs := (rosC r A c T d)) (t := 25) ?hr ?_; (case hd => rfl); (case hg => rfl); (case hr => first | (go_simp; done) | (go_simp; rfl)); intro g hg_ wb hbox_ hb_; have BK := Aside0.mk hbox_; have HB := Aside0.mk hb_; obtain ⟨q0, q1, q2, q3, q4⟩ := rosC_cells BK.out; clear hbox_ hb_ hg_) | (go_at_call 34; (with_reducible refine (hval _ (hR.out.below HB.out)).mono ?_); rintro e wb ⟨rfl, hb_⟩; replace HB := Aside0.mk (below_step HB.out hb_); replace BK := Aside0.mk (blk_below BK.out hb_); clear q0 q1 q2 q3 q4; obtain ⟨q0, q1, q2, q3, q4⟩ := rosC_cells BK.out; clear hb_) | (go_at_call 128; (with_reducible refine (hturn _ (hR.out.below HB.out)).mono ?_); rintro e wb ⟨rfl, hb_⟩; replace HB := Aside0.mk (below_step HB.out hb_); replace BK := Aside0.mk (blk_below BK.out hb_); clear q0 q1 q2 q3 q4; obtain ⟨q0, q1, q2, q3, q4⟩ := rosC_cells BK.out; clear hb_))
    go_ret2
    exact ⟨rfl, HB.out⟩
  · have V := (checkB_iff r).1 hcb
    simp only [hcb] at hval
    cases hob : outB r i
    · have e1 : turnsE r [i] = 0 := by simp [turnsE, checkE, hcb, hob]
      have e2 : beginsV r i = begB r i := by unfold beginsV; rw [e1]; rfl
      rw [e1, e2]
      have hin := (outB_iff r i).1 hob
      have hst := fun W (h : RosAt W (.agg #[.int .i64 r.gates, .int .i64 r.frm, .int .i64 r.til, .slice A r.ahead.length c, .slice T r.turns.length d]) r) => starts_calls (.agg #[.int .i64 r.gates, .int .i64 r.frm, .int .i64 r.til, .slice A r.ahead.length c, .slice T r.turns.length d]) r i W h V hin.1 hin.2
      simp only [hob] at hturn
      clear e1 e2 hcb hob hin V
      generalize begB r i = bv at *
      go_enter Tryz.func50, Tryz.ntmps50
      go_wp2_with (first | ((with_reducible refine gate_dst (N := 2) rfl ?_); refine box_event ?hg (N := 2) ?hd (cs := (rosC r A c T d)) (t := 25) ?hr ?_; (case hd => rfl); (case hg => rfl); (case hr => first | (go_simp; done) | (go_simp; rfl)); intro g hg_ wb hbox_ hb_; have BK := Aside0.mk hbox_; have HB := Aside0.mk hb_; obtain ⟨q0, q1, q2, q3, q4⟩ := rosC_cells BK.out; clear hbox_ hb_ hg_) | (go_at_call 34; (with_reducible refine (hval _ (hR.out.below HB.out)).mono ?_); rintro e wb ⟨rfl, hb_⟩; replace HB := Aside0.mk (below_step HB.out hb_); replace BK := Aside0.mk (blk_below BK.out hb_); clear q0 q1 q2 q3 q4; obtain ⟨q0, q1, q2, q3, q4⟩ := rosC_cells BK.out; clear hb_) | (go_at_call 128; (with_reducible refine (hturn _ (hR.out.below HB.out)).mono ?_); rintro e wb ⟨rfl, hb_⟩; replace HB := Aside0.mk (below_step HB.out hb_); replace BK := Aside0.mk (blk_below BK.out hb_); clear q0 q1 q2 q3 q4; obtain ⟨q0, q1, q2, q3, q4⟩ := rosC_cells BK.out; clear hb_) | (go_at_call 87; (with_reducible refine (hst _ (hR.out.below HB.out)).mono ?_); rintro e wb ⟨rfl, hb_⟩; replace HB := Aside0.mk (below_step HB.out hb_); replace BK := Aside0.mk (blk_below BK.out hb_); clear q0 q1 q2 q3 q4; obtain ⟨q0, q1, q2, q3, q4⟩ := rosC_cells BK.out; clear hb_))
      go_ret2
      exact ⟨rfl, HB.out⟩
    · have e1 : turnsE r [i] = 1 := by simp [turnsE, checkE, hcb, hob]
      have e2 : beginsV r i = false := by unfold beginsV; rw [e1]; rfl
      rw [e1, e2]
      simp only [hob] at hturn
      clear e1 e2 hcb hob V
      go_enter Tryz.func50, Tryz.ntmps50
      go_wp2_with (first | ((with_reducible refine gate_dst (N := 2) rfl ?_); refine box_event ?hg (N := 2) ?hd (cs := (rosC r A c T d)) (t := 25) ?hr ?_; (case hd => rfl); (case hg => rfl); (case hr => first | (go_simp; done) | (go_simp; rfl)); intro g hg_ wb hbox_ hb_; have BK := Aside0.mk hbox_; have HB := Aside0.mk hb_; obtain ⟨q0, q1, q2, q3, q4⟩ := rosC_cells BK.out; clear hbox_ hb_ hg_) | (go_at_call 34; (with_reducible refine (hval _ (hR.out.below HB.out)).mono ?_); rintro e wb ⟨rfl, hb_⟩; replace HB := Aside0.mk (below_step HB.out hb_); replace BK := Aside0.mk (blk_below BK.out hb_); clear q0 q1 q2 q3 q4; obtain ⟨q0, q1, q2, q3, q4⟩ := rosC_cells BK.out; clear hb_) | (go_at_call 128; (with_reducible refine (hturn _ (hR.out.below HB.out)).mono ?_); rintro e wb ⟨rfl, hb_⟩; replace HB := Aside0.mk (below_step HB.out hb_); replace BK := Aside0.mk (blk_below BK.out hb_); clear q0 q1 q2 q3 q4; obtain ⟨q0, q1, q2, q3, q4⟩ := rosC_cells BK.out; clear hb_))
      go_ret2
      exact ⟨rfl, HB.out⟩
set_option maxHeartbeats 8000000 in
set_option maxRecDepth 100000 in
theorem endsR_calls (v : Value) (r : Ros) (i : Int) (w : World) (hv : RosAt w v r) :
    Calls Tryz.prog 51 #[v, .int .i64 i] w fun e w' => e = .returned (.tuple #[.bool (endsV r i), .int .i64 (turnsE r [i])]) ∧ Below w.heap.size w w' := by
  have hR0 := hv
  obtain ⟨A, c, T, d, rfl, h1, h2, h3, h4⟩ := hv
  have hR : Aside0 (RosAt w (.agg #[.int .i64 r.gates, .int .i64 r.frm, .int .i64 r.til, .slice A r.ahead.length c, .slice T r.turns.length d]) r) := ⟨hR0⟩
  clear h1 h2 h3 h4 hR0
  have hval := fun W (h : RosAt W (.agg #[.int .i64 r.gates, .int .i64 r.frm, .int .i64 r.til, .slice A r.ahead.length c, .slice T r.turns.length d]) r) => valid_calls (.agg #[.int .i64 r.gates, .int .i64 r.frm, .int .i64 r.til, .slice A r.ahead.length c, .slice T r.turns.length d]) r W h
  have hturn := fun W (h : RosAt W (.agg #[.int .i64 r.gates, .int .i64 r.frm, .int .i64 r.til, .slice A r.ahead.length c, .slice T r.turns.length d]) r) => turnR_calls (.agg #[.int .i64 r.gates, .int .i64 r.frm, .int .i64 r.til, .slice A r.ahead.length c, .slice T r.turns.length d]) r i W h
  cases hcb : checkB r
  · have e1 : turnsE r [i] = 70 := by simp [turnsE, checkE, hcb]
    have e2 : endsV r i = false := by unfold endsV; rw [e1]; rfl
    rw [e1, e2]
    simp only [hcb] at hval
    clear hturn e1 e2 hcb
    go_enter Tryz.func51, Tryz.ntmps51
    go_wp2_with (first | ((with_reducible refine gate_dst (N := 2) rfl ?_); refine box_event ?hg (N := 2) ?hd (cs := (rosC r A c T d)) (t := 25) ?hr ?_; (case hd => rfl); (case hg => rfl); (case hr => first | (go_simp; done) | (go_simp; rfl)); intro g hg_ wb hbox_ hb_; have BK := Aside0.mk hbox_; have HB := Aside0.mk hb_; obtain ⟨q0, q1, q2, q3, q4⟩ := rosC_cells BK.out; clear hbox_ hb_ hg_) | (go_at_call 34; (with_reducible refine (hval _ (hR.out.below HB.out)).mono ?_); rintro e wb ⟨rfl, hb_⟩; replace HB := Aside0.mk (below_step HB.out hb_); replace BK := Aside0.mk (blk_below BK.out hb_); clear q0 q1 q2 q3 q4; obtain ⟨q0, q1, q2, q3, q4⟩ := rosC_cells BK.out; clear hb_) | (go_at_call 128; (with_reducible refine (hturn _ (hR.out.below HB.out)).mono ?_); rintro e wb ⟨rfl, hb_⟩; replace HB := Aside0.mk (below_step HB.out hb_); replace BK := Aside0.mk (blk_below BK.out hb_); clear q0 q1 q2 q3 q4; obtain ⟨q0, q1, q2, q3, q4⟩ := rosC_cells BK.out; clear hb_))
    go_ret2
    exact ⟨rfl, HB.out⟩
  · have V := (checkB_iff r).1 hcb
    simp only [hcb] at hval
    cases hob : outB r i
    · have e1 : turnsE r [i] = 0 := by simp [turnsE, checkE, hcb, hob]
      have e2 : endsV r i = endB r i := by unfold endsV; rw [e1]; rfl
      rw [e1, e2]
      have hin := (outB_iff r i).1 hob
      have hst := fun W (h : RosAt W (.agg #[.int .i64 r.gates, .int .i64 r.frm, .int .i64 r.til, .slice A r.ahead.length c, .slice T r.turns.length d]) r) => lasts_calls (.agg #[.int .i64 r.gates, .int .i64 r.frm, .int .i64 r.til, .slice A r.ahead.length c, .slice T r.turns.length d]) r i W h V hin.1 hin.2
      simp only [hob] at hturn
      clear e1 e2 hcb hob hin V
      generalize endB r i = bv at *
      go_enter Tryz.func51, Tryz.ntmps51
      go_wp2_with (first | ((with_reducible refine gate_dst (N := 2) rfl ?_); refine box_event ?hg (N := 2) ?hd (cs := (rosC r A c T d)) (t := 25) ?hr ?_; (case hd => rfl); (case hg => rfl); (case hr => first | (go_simp; done) | (go_simp; rfl)); intro g hg_ wb hbox_ hb_; have BK := Aside0.mk hbox_; have HB := Aside0.mk hb_; obtain ⟨q0, q1, q2, q3, q4⟩ := rosC_cells BK.out; clear hbox_ hb_ hg_) | (go_at_call 34; (with_reducible refine (hval _ (hR.out.below HB.out)).mono ?_); rintro e wb ⟨rfl, hb_⟩; replace HB := Aside0.mk (below_step HB.out hb_); replace BK := Aside0.mk (blk_below BK.out hb_); clear q0 q1 q2 q3 q4; obtain ⟨q0, q1, q2, q3, q4⟩ := rosC_cells BK.out; clear hb_) | (go_at_call 128; (with_reducible refine (hturn _ (hR.out.below HB.out)).mono ?_); rintro e wb ⟨rfl, hb_⟩; replace HB := Aside0.mk (below_step HB.out hb_); replace BK := Aside0.mk (blk_below BK.out hb_); clear q0 q1 q2 q3 q4; obtain ⟨q0, q1, q2, q3, q4⟩ := rosC_cells BK.out; clear hb_) | (go_at_call 102; (with_reducible refine (hst _ (hR.out.below HB.out)).mono ?_); rintro e wb ⟨rfl, hb_⟩; replace HB := Aside0.mk (below_step HB.out hb_); replace BK := Aside0.mk (blk_below BK.out hb_); clear q0 q1 q2 q3 q4; obtain ⟨q0, q1, q2, q3, q4⟩ := rosC_cells BK.out; clear hb_))
      go_ret2
      exact ⟨rfl, HB.out⟩
    · have e1 : turnsE r [i] = 1 := by simp [turnsE, checkE, hcb, hob]
      have e2 : endsV r i = false := by unfold endsV; rw [e1]; rfl
      rw [e1, e2]
      simp only [hob] at hturn
      clear e1 e2 hcb hob V
      go_enter Tryz.func51, Tryz.ntmps51
      go_wp2_with (first | ((with_reducible refine gate_dst (N := 2) rfl ?_); refine box_event ?hg (N := 2) ?hd (cs := (rosC r A c T d)) (t := 25) ?hr ?_; (case hd => rfl); (case hg => rfl); (case hr => first | (go_simp; done) | (go_simp; rfl)); intro g hg_ wb hbox_ hb_; have BK := Aside0.mk hbox_; have HB := Aside0.mk hb_; obtain ⟨q0, q1, q2, q3, q4⟩ := rosC_cells BK.out; clear hbox_ hb_ hg_) | (go_at_call 34; (with_reducible refine (hval _ (hR.out.below HB.out)).mono ?_); rintro e wb ⟨rfl, hb_⟩; replace HB := Aside0.mk (below_step HB.out hb_); replace BK := Aside0.mk (blk_below BK.out hb_); clear q0 q1 q2 q3 q4; obtain ⟨q0, q1, q2, q3, q4⟩ := rosC_cells BK.out; clear hb_) | (go_at_call 128; (with_reducible refine (hturn _ (hR.out.below HB.out)).mono ?_); rintro e wb ⟨rfl, hb_⟩; replace HB := Aside0.mk (below_step HB.out hb_); replace BK := Aside0.mk (blk_below BK.out hb_); clear q0 q1 q2 q3 q4; obtain ⟨q0, q1, q2, q3, q4⟩ := rosC_cells BK.out; clear hb_))
      go_ret2
      exact ⟨rfl, HB.out⟩
set_option maxHeartbeats 8000000 in
set_option maxRecDepth 100000 in
theorem meetsR_calls (v : Value) (r : Ros) (i j : Int) (w : World) (hv : RosAt w v r) :
    Calls Tryz.prog 52 #[v, .int .i64 i, .int .i64 j] w fun e w' => e = .returned (.tuple #[.bool (meetsV r i j), .int .i64 (turnsE r [i, j])]) ∧ Below w.heap.size w w' := by
  have hR0 := hv
  obtain ⟨A, c, T, d, rfl, h1, h2, h3, h4⟩ := hv
  have hR : Aside0 (RosAt w (.agg #[.int .i64 r.gates, .int .i64 r.frm, .int .i64 r.til, .slice A r.ahead.length c, .slice T r.turns.length d]) r) := ⟨hR0⟩
  clear h1 h2 h3 h4 hR0
  have hval := fun W (h : RosAt W (.agg #[.int .i64 r.gates, .int .i64 r.frm, .int .i64 r.til, .slice A r.ahead.length c, .slice T r.turns.length d]) r) => valid_calls (.agg #[.int .i64 r.gates, .int .i64 r.frm, .int .i64 r.til, .slice A r.ahead.length c, .slice T r.turns.length d]) r W h
  have hti := fun W (h : RosAt W (.agg #[.int .i64 r.gates, .int .i64 r.frm, .int .i64 r.til, .slice A r.ahead.length c, .slice T r.turns.length d]) r) => turnR_calls (.agg #[.int .i64 r.gates, .int .i64 r.frm, .int .i64 r.til, .slice A r.ahead.length c, .slice T r.turns.length d]) r i W h
  have htj := fun W (h : RosAt W (.agg #[.int .i64 r.gates, .int .i64 r.frm, .int .i64 r.til, .slice A r.ahead.length c, .slice T r.turns.length d]) r) => turnR_calls (.agg #[.int .i64 r.gates, .int .i64 r.frm, .int .i64 r.til, .slice A r.ahead.length c, .slice T r.turns.length d]) r j W h
  cases hcb : checkB r
  · have e1 : turnsE r [i, j] = 70 := by simp [turnsE, checkE, hcb]
    have e2 : meetsV r i j = false := by unfold meetsV; rw [e1]; rfl
    rw [e1, e2]
    simp only [hcb] at hval
    clear hti htj e1 e2 hcb
    go_enter Tryz.func52, Tryz.ntmps52
    go_wp2_with (first | ((with_reducible refine gate_dst (N := 3) rfl ?_); refine box_event ?hg (N := 3) ?hd (cs := (rosC r A c T d)) (t := 25) ?hr ?_; (case hd => rfl); (case hg => rfl); (case hr => first | (go_simp; done) | (go_simp; rfl)); intro g hg_ wb hbox_ hb_; have BK := Aside0.mk hbox_; have HB := Aside0.mk hb_; obtain ⟨q0, q1, q2, q3, q4⟩ := rosC_cells BK.out; clear hbox_ hb_ hg_) | (go_at_call 34; (with_reducible refine (hval _ (hR.out.below HB.out)).mono ?_); rintro e wb ⟨rfl, hb_⟩; replace HB := Aside0.mk (below_step HB.out hb_); replace BK := Aside0.mk (blk_below BK.out hb_); clear q0 q1 q2 q3 q4; obtain ⟨q0, q1, q2, q3, q4⟩ := rosC_cells BK.out; clear hb_))
    go_ret2
    exact ⟨rfl, HB.out⟩
  · have V := (checkB_iff r).1 hcb
    simp only [hcb] at hval
    cases hob : outB r i
    · simp only [hob] at hti
      cases hoj : outB r j
      · have e1 : turnsE r [i, j] = 0 := by simp [turnsE, checkE, hcb, hob, hoj]
        have e2 : meetsV r i j = folB r i j := by unfold meetsV; rw [e1]; rfl
        rw [e1, e2]
        have hin := (outB_iff r i).1 hob
        have hjn := (outB_iff r j).1 hoj
        have hst := fun W (h : RosAt W (.agg #[.int .i64 r.gates, .int .i64 r.frm, .int .i64 r.til, .slice A r.ahead.length c, .slice T r.turns.length d]) r) => followsR_calls (.agg #[.int .i64 r.gates, .int .i64 r.frm, .int .i64 r.til, .slice A r.ahead.length c, .slice T r.turns.length d]) r i j W h V hin.1 hin.2 hjn.1 hjn.2
        simp only [hoj] at htj
        clear e1 e2 hcb hob hoj hin hjn V
        generalize folB r i j = bv at *
        go_enter Tryz.func52, Tryz.ntmps52
        go_wp2_with (first | ((with_reducible refine gate_dst (N := 3) rfl ?_); refine box_event ?hg (N := 3) ?hd (cs := (rosC r A c T d)) (t := 25) ?hr ?_; (case hd => rfl); (case hg => rfl); (case hr => first | (go_simp; done) | (go_simp; rfl)); intro g hg_ wb hbox_ hb_; have BK := Aside0.mk hbox_; have HB := Aside0.mk hb_; obtain ⟨q0, q1, q2, q3, q4⟩ := rosC_cells BK.out; clear hbox_ hb_ hg_) | (go_at_call 34; (with_reducible refine (hval _ (hR.out.below HB.out)).mono ?_); rintro e wb ⟨rfl, hb_⟩; replace HB := Aside0.mk (below_step HB.out hb_); replace BK := Aside0.mk (blk_below BK.out hb_); clear q0 q1 q2 q3 q4; obtain ⟨q0, q1, q2, q3, q4⟩ := rosC_cells BK.out; clear hb_) | (go_at_call 128; (with_reducible refine (hti _ (hR.out.below HB.out)).mono ?_); rintro e wb ⟨rfl, hb_⟩; replace HB := Aside0.mk (below_step HB.out hb_); replace BK := Aside0.mk (blk_below BK.out hb_); clear q0 q1 q2 q3 q4; obtain ⟨q0, q1, q2, q3, q4⟩ := rosC_cells BK.out; clear hb_) | (go_at_call 128; (with_reducible refine (htj _ (hR.out.below HB.out)).mono ?_); rintro e wb ⟨rfl, hb_⟩; replace HB := Aside0.mk (below_step HB.out hb_); replace BK := Aside0.mk (blk_below BK.out hb_); clear q0 q1 q2 q3 q4; obtain ⟨q0, q1, q2, q3, q4⟩ := rosC_cells BK.out; clear hb_) | (go_at_call 88; (with_reducible refine (hst _ (hR.out.below HB.out)).mono ?_); rintro e wb ⟨rfl, hb_⟩; replace HB := Aside0.mk (below_step HB.out hb_); replace BK := Aside0.mk (blk_below BK.out hb_); clear q0 q1 q2 q3 q4; obtain ⟨q0, q1, q2, q3, q4⟩ := rosC_cells BK.out; clear hb_))
        go_ret2
        exact ⟨rfl, HB.out⟩
      · have e1 : turnsE r [i, j] = 1 := by simp [turnsE, checkE, hcb, hob, hoj]
        have e2 : meetsV r i j = false := by unfold meetsV; rw [e1]; rfl
        rw [e1, e2]
        simp only [hoj] at htj
        clear e1 e2 hcb hob hoj V
        go_enter Tryz.func52, Tryz.ntmps52
        go_wp2_with (first | ((with_reducible refine gate_dst (N := 3) rfl ?_); refine box_event ?hg (N := 3) ?hd (cs := (rosC r A c T d)) (t := 25) ?hr ?_; (case hd => rfl); (case hg => rfl); (case hr => first | (go_simp; done) | (go_simp; rfl)); intro g hg_ wb hbox_ hb_; have BK := Aside0.mk hbox_; have HB := Aside0.mk hb_; obtain ⟨q0, q1, q2, q3, q4⟩ := rosC_cells BK.out; clear hbox_ hb_ hg_) | (go_at_call 34; (with_reducible refine (hval _ (hR.out.below HB.out)).mono ?_); rintro e wb ⟨rfl, hb_⟩; replace HB := Aside0.mk (below_step HB.out hb_); replace BK := Aside0.mk (blk_below BK.out hb_); clear q0 q1 q2 q3 q4; obtain ⟨q0, q1, q2, q3, q4⟩ := rosC_cells BK.out; clear hb_) | (go_at_call 128; (with_reducible refine (hti _ (hR.out.below HB.out)).mono ?_); rintro e wb ⟨rfl, hb_⟩; replace HB := Aside0.mk (below_step HB.out hb_); replace BK := Aside0.mk (blk_below BK.out hb_); clear q0 q1 q2 q3 q4; obtain ⟨q0, q1, q2, q3, q4⟩ := rosC_cells BK.out; clear hb_) | (go_at_call 128; (with_reducible refine (htj _ (hR.out.below HB.out)).mono ?_); rintro e wb ⟨rfl, hb_⟩; replace HB := Aside0.mk (below_step HB.out hb_); replace BK := Aside0.mk (blk_below BK.out hb_); clear q0 q1 q2 q3 q4; obtain ⟨q0, q1, q2, q3, q4⟩ := rosC_cells BK.out; clear hb_))
        go_ret2
        exact ⟨rfl, HB.out⟩
    · have e1 : turnsE r [i, j] = 1 := by simp [turnsE, checkE, hcb, hob]
      have e2 : meetsV r i j = false := by unfold meetsV; rw [e1]; rfl
      rw [e1, e2]
      simp only [hob] at hti
      clear e1 e2 hcb hob htj V
      go_enter Tryz.func52, Tryz.ntmps52
      go_wp2_with (first | ((with_reducible refine gate_dst (N := 3) rfl ?_); refine box_event ?hg (N := 3) ?hd (cs := (rosC r A c T d)) (t := 25) ?hr ?_; (case hd => rfl); (case hg => rfl); (case hr => first | (go_simp; done) | (go_simp; rfl)); intro g hg_ wb hbox_ hb_; have BK := Aside0.mk hbox_; have HB := Aside0.mk hb_; obtain ⟨q0, q1, q2, q3, q4⟩ := rosC_cells BK.out; clear hbox_ hb_ hg_) | (go_at_call 34; (with_reducible refine (hval _ (hR.out.below HB.out)).mono ?_); rintro e wb ⟨rfl, hb_⟩; replace HB := Aside0.mk (below_step HB.out hb_); replace BK := Aside0.mk (blk_below BK.out hb_); clear q0 q1 q2 q3 q4; obtain ⟨q0, q1, q2, q3, q4⟩ := rosC_cells BK.out; clear hb_) | (go_at_call 128; (with_reducible refine (hti _ (hR.out.below HB.out)).mono ?_); rintro e wb ⟨rfl, hb_⟩; replace HB := Aside0.mk (below_step HB.out hb_); replace BK := Aside0.mk (blk_below BK.out hb_); clear q0 q1 q2 q3 q4; obtain ⟨q0, q1, q2, q3, q4⟩ := rosC_cells BK.out; clear hb_))
      go_ret2
      exact ⟨rfl, HB.out⟩
def showsE (r : Ros) (shown : List Int) : Int := if shownB r shown then if momB r shown then 0 else 61 else 1
theorem sh_mem {shown : List Int} {k : Nat} (h : k < shown.length) : sh shown k ∈ shown := by
  unfold sh
  rw [List.getD_eq_getElem?_getD, Int.toNat_natCast, List.getElem?_eq_getElem h]
  exact List.getElem_mem _
theorem mem_sh {shown : List Int} {x : Int} (h : x ∈ shown) : ∃ k : Nat, k < shown.length ∧ sh shown k = x := by
  obtain ⟨k, hk, rfl⟩ := List.mem_iff_getElem.1 h
  exact ⟨k, hk, by unfold sh; rw [List.getD_eq_getElem?_getD, Int.toNat_natCast, List.getElem?_eq_getElem hk]; rfl⟩
theorem shows_len {r : Ros} {shown : List Int} (h : shown.length ≠ r.ahead.length) : showsE r shown = 1 := by
  unfold showsE
  cases e : shownB r shown
  · rfl
  · exact absurd ((shownB_iff r shown).1 e).1 h
theorem shows_bad {r : Ros} {shown : List Int} (hl : shown.length = r.ahead.length) {k : Nat} (hk : k < r.ahead.length) (h : ¬ (-33554432 ≤ sh shown k ∧ sh shown k ≤ 33554432)) : showsE r shown = 1 := by
  unfold showsE
  cases e : shownB r shown
  · rfl
  · exact absurd (((shownB_iff r shown).1 e).2 _ (sh_mem (by omega))) h
theorem shows_ok {r : Ros} {shown : List Int} (hl : shown.length = r.ahead.length) (h : ∀ k : Nat, k < r.ahead.length → -33554432 ≤ sh shown k ∧ sh shown k ≤ 33554432) : showsE r shown = if momB r shown then 0 else 61 := by
  unfold showsE
  rw [(shownB_iff r shown).2 ⟨hl, fun x hx => by obtain ⟨k, hk, rfl⟩ := mem_sh hx; exact h k (by omega)⟩]
  rfl
set_option maxHeartbeats 8000000 in
set_option maxRecDepth 100000 in
theorem showsR_calls (v lv : Value) (r : Ros) (shown : List Int) (w : World) (V : Valid r) (hv : RosAt w v r) (hl : IntsAt w lv shown) :
    Calls Tryz.prog 114 #[v, lv] w fun e w' => e = .returned (.int .i64 (showsE r shown)) ∧ Below w.heap.size w w' := by
  obtain ⟨A, c, T, d, rfl, h1, h2, h3, h4⟩ := hv
  have H3 := Aside0.mk h3
  have HV := Aside0.mk V
  have hn8 := V.clocks.2
  obtain ⟨A1, c1, rfl, hc1, hl1⟩ := hl
  by_cases hlen : shown.length = r.ahead.length
  · have HE1 : Aside0 (∀ k : Nat, k < r.ahead.length → ¬ (-33554432 ≤ sh shown k ∧ sh shown k ≤ 33554432) → showsE r shown = 1) := ⟨fun k hk h => shows_bad hlen hk h⟩
    have HE2 : Aside0 ((∀ k : Nat, k < r.ahead.length → -33554432 ≤ sh shown k ∧ sh shown k ≤ 33554432) → showsE r shown = if momB r shown then 0 else 61) := ⟨fun h => shows_ok hlen h⟩
    rw [hlen] at hl1 hc1 ⊢
    have HL := Aside0.mk hl1
    clear h1 h2 h3 h4 hl1 hc1 hlen V
    go_enter Tryz.func114, Tryz.ntmps114
    go_wp2_with ((with_reducible refine gate_dst (N := 2) rfl ?_); refine box_event ?hg (N := 2) ?hd (cs := (rosC r A c T d)) (t := 25) ?hr ?_; (case hd => rfl); (case hg => rfl); (case hr => first | (go_simp; done) | (go_simp; rfl)); intro g hg_ wb hbox_ hb_; have BK := Aside0.mk hbox_; have HB := Aside0.mk hb_; obtain ⟨q0, q1, q2, q3, q4⟩ := rosC_cells BK.out; clear hbox_ hb_ hg_)
    clear q0 q1 q2 q3 q4
    go_loopw [5] (fun i wr => ∃ k : Nat, k ≤ r.ahead.length ∧ i = .int .i64 k ∧ Aside0 (∀ j : Nat, j < k → -33554432 ≤ sh shown j ∧ sh shown j ≤ 33554432) ∧ Aside0 (wr.heap[g]? = some (.cells (rosC r A c T d) 25 (0, 0))) ∧ Aside0 (Below w.heap.size w wr)) (fun i _ => r.ahead.length - (intOf i).toNat)
    case atStart => exact ⟨0, Nat.zero_le _, rfl, ⟨fun j hj => by omega⟩, BK, HB⟩
    case round =>
      clear BK HB
      obtain ⟨k, hk, rfl, HO, BK, HB⟩ := hrel
      by_cases hlt : k < r.ahead.length
      · obtain ⟨ads, hAs, s1⟩ := CI_at HL.out k (by omega) (by omega)
        cases hAs
        change w.cell? _ = some (.int .i64 (sh shown k)) at s1
        rw [show ((k : Int)).toNat = k from rfl] at s1
        have S1 := Aside0.mk s1
        clear s1
        have s1' := pw_cell_below HB.out S1.out
        have ik0 : (0 : Int) ≤ (k : Int) := by omega
        have ik1 : (k : Int) < (r.ahead.length : Int) := by omega
        by_cases hin : -33554432 ≤ sh shown k ∧ sh shown k ≤ 33554432
        · have HS : Aside0 (∀ j : Nat, j < k + 1 → -33554432 ≤ sh shown j ∧ sh shown j ≤ 33554432) := ⟨fun j hj => by
            by_cases e : j = k
            · rw [e]; exact hin
            · exact HO.out j (by omega)⟩
          have e1 : decide (sh shown k < -33554432) = false := decide_eq_false (by omega)
          have e2 : decide ((33554432 : Int) < sh shown k) = false := decide_eq_false (by omega)
          clear hin HO
          generalize sh shown k = xk at *
          go_wp2_with fail
          go_roundw
          case rel => exact ⟨k + 1, by omega, by go_num, HS, BK, HB⟩
          case measure => simp [intOf]; omega
        · have HQ := Aside0.mk (HE1.out k hlt hin)
          by_cases h5 : sh shown k < -33554432
          · have e1 : decide (sh shown k < -33554432) = true := decide_eq_true h5
            clear hin HO h5
            generalize sh shown k = xk at *
            go_wp2_with fail
            go_ret
            exact ⟨by rw [HQ.out]; rfl, HB.out⟩
          · have e1 : decide (sh shown k < -33554432) = false := decide_eq_false h5
            have e2 : decide ((33554432 : Int) < sh shown k) = true := decide_eq_true (by omega)
            clear hin HO h5
            generalize sh shown k = xk at *
            go_wp2_with fail
            go_ret
            exact ⟨by rw [HQ.out]; rfl, HB.out⟩
      · obtain rfl : k = r.ahead.length := by omega
        have HSH := HO
        have HQ2 := Aside0.mk (HE2.out HO.out)
        clear HO hlt hk HE1 HE2
        go_wp2_with fail
        go_loopw [6] (fun i wr => ∃ k : Nat, k ≤ r.ahead.length ∧ i = .int .i64 k ∧ Aside0 (((List.range k).all fun a => (List.range r.ahead.length).all fun b => momC r shown a b) = true) ∧ Aside0 (wr.heap[g]? = some (.cells (rosC r A c T d) 25 (0, 0))) ∧ Aside0 (Below w.heap.size w wr)) (fun i _ => r.ahead.length - (intOf i).toNat)
        case atStart => exact ⟨0, Nat.zero_le _, rfl, ⟨rfl⟩, BK, HB⟩
        case round =>
          clear BK HB
          obtain ⟨k, hk, rfl, HO, BK, HB⟩ := hrel
          by_cases hlt : k < r.ahead.length
          · obtain ⟨ad, A0, c0, hA, g1, g2, g3⟩ := CII_at H3.out k (by omega) (by omega)
            cases hA
            rw [show ((k : Int)).toNat = k from rfl] at g1 g2 g3
            have hrl : (r.ahead.getD k []).length = r.ahead.length := HV.out.row k (by omega) (by omega)
            rw [hrl] at g1 g2 g3
            have G1 := Aside0.mk g1
            have HX := Aside0.mk g3
            clear g1 g2 g3 hrl
            obtain ⟨ads, hAs, s1⟩ := CI_at HL.out k (by omega) (by omega)
            cases hAs
            change w.cell? _ = some (.int .i64 (sh shown k)) at s1
            rw [show ((k : Int)).toNat = k from rfl] at s1
            have S1 := Aside0.mk s1
            clear s1
            obtain ⟨xk1, xk2⟩ := HSH.out k hlt
            have HF : Aside0 (((List.range r.ahead.length).all fun b => momC r shown k b) = false → momB r shown = false) := ⟨fun h => by unfold momB; rw [all_range_false hlt h]⟩
            have HO' : Aside0 (((List.range r.ahead.length).all fun b => momC r shown k b) = true → ((List.range (k + 1)).all fun a => (List.range r.ahead.length).all fun b => momC r shown a b) = true) := ⟨fun h => by rw [all_range_succ, HO.out, h]; rfl⟩
            go_wp2
            go_loopw [7] (fun i wr => ∃ j : Nat, j ≤ r.ahead.length ∧ i = .int .i64 j ∧ Aside0 (((List.range j).all fun b => momC r shown k b) = true) ∧ Aside0 (wr.heap[g]? = some (.cells (rosC r (some ad) c T d) 25 (0, 0))) ∧ Aside0 (Below w.heap.size w wr)) (fun i _ => r.ahead.length - (intOf i).toNat)
            case atStart => exact ⟨0, Nat.zero_le _, rfl, ⟨rfl⟩, BK, HB⟩
            case round =>
              clear BK HB
              obtain ⟨j, hj, rfl, HOj, BK, HB⟩ := hrel
              by_cases hlt1 : j < r.ahead.length
              · obtain ⟨ad', hA', g4⟩ := CI_at HX.out j (by omega) (by omega)
                cases hA'
                change w.cell? _ = some (.int .i64 (ahd r k j)) at g4
                rw [show ((j : Int)).toNat = j from rfl] at g4
                have g4' := pw_cell_below HB.out g4
                have g1' := pw_cell_below HB.out G1.out
                obtain ⟨ads', hAs', s2⟩ := CI_at HL.out j (by omega) (by omega)
                cases hAs'
                change w.cell? _ = some (.int .i64 (sh shown j)) at s2
                rw [show ((j : Int)).toNat = j from rfl] at s2
                have s1' := pw_cell_below HB.out S1.out
                have s2' := pw_cell_below HB.out s2
                obtain ⟨q0, q1, q2, q3, q4⟩ := rosC_cells BK.out
                obtain ⟨xj1, xj2⟩ := HSH.out j hlt1
                have vb := HV.out.bnd k j (by omega) (by omega) (by omega) (by omega)
                have HM : Aside0 (momC r shown k j = !decide (ahd r k j < sh shown k - sh shown j)) := ⟨rfl⟩
                have HS : Aside0 (momC r shown k j = true → ((List.range (j + 1)).all fun b => momC r shown k b) = true) := ⟨fun h => by rw [all_range_succ, HOj.out, h]; rfl⟩
                have HE : Aside0 (momC r shown k j = false → momB r shown = false) := ⟨fun h => HF.out (all_range_false hlt1 h)⟩
                clear g4 s2
                generalize momC r shown k j = mm at *
                generalize sh shown k = xk at *
                generalize sh shown j = xj at *
                generalize ahd r k j = dd at *
                have ik0 : (0 : Int) ≤ (k : Int) := by omega
                have ij0 : (0 : Int) ≤ (j : Int) := by omega
                have ik1 : (k : Int) < (r.ahead.length : Int) := by omega
                have ij1 : (j : Int) < (r.ahead.length : Int) := by omega
                have hw : IntKind.i64.wrap (xk - xj) = xk - xj := IntWalk.i64_in _ (by omega)
                cases e1 : decide (dd < xk - xj)
                · have HQ := Aside0.mk (HS.out (by rw [HM.out, e1]; rfl))
                  go_wp2_with fail
                  go_quiet (fail)
                  go_wp2
                  go_roundw
                  case rel => exact ⟨j + 1, by omega, by go_num, HQ, ⟨blk_drewN BK.out _⟩, ⟨pw_below_drewN HB.out _⟩⟩
                  case measure => simp [intOf]; omega
                · have HQ := Aside0.mk (HE.out (by rw [HM.out, e1]; rfl))
                  go_wp2_with fail
                  go_quiet (fail)
                  go_wp2
                  go_ret
                  exact ⟨by rw [HQ2.out, HQ.out]; rfl, pw_below_drewN HB.out _⟩
              · have HQ : Aside0 (((List.range (k + 1)).all fun a => (List.range r.ahead.length).all fun b => momC r shown a b) = true) := ⟨HO'.out (by
                  have e : j = r.ahead.length := by omega
                  rw [← e]
                  exact HOj.out)⟩
                go_wp2
                go_roundw
                case rel => exact ⟨k + 1, by omega, by go_num, HQ, BK, HB⟩
                case measure => simp [intOf]; omega
          · have HQ : Aside0 (momB r shown = true) := ⟨by
              have e : k = r.ahead.length := by omega
              rw [e] at HO
              exact HO.out⟩
            go_wp2
            go_ret
            exact ⟨by rw [HQ2.out, HQ.out]; rfl, HB.out⟩
  · rw [shows_len hlen]
    have e1 : ((shown.length : Int) != (r.ahead.length : Int)) = true := by simp only [bne_iff_ne]; omega
    clear h1 h2 h3 h4 hl1 hc1 hlen V
    generalize shown.length = n at *
    go_enter Tryz.func114, Tryz.ntmps114
    go_wp2_with ((with_reducible refine gate_dst (N := 2) rfl ?_); refine box_event ?hg (N := 2) ?hd (cs := (rosC r A c T d)) (t := 25) ?hr ?_; (case hd => rfl); (case hg => rfl); (case hr => first | (go_simp; done) | (go_simp; rfl)); intro g hg_ wb hbox_ hb_; have BK := Aside0.mk hbox_; have HB := Aside0.mk hb_; obtain ⟨q0, q1, q2, q3, q4⟩ := rosC_cells BK.out; clear hbox_ hb_ hg_)
    go_ret
    exact ⟨rfl, HB.out⟩
theorem whoE_valid {r : Ros} {shown : List Int} (h : checkB r = true) : whoE r shown = showsE r shown := by
  unfold whoE showsE checkE
  rw [h]
  rfl
theorem whoO_valid {r : Ros} {shown : List Int} (h : checkB r = true) : whoO r shown = if showsE r shown = 0 then whoL r shown else [] := by
  unfold whoO showsE checkE
  rw [h]
  cases shownB r shown <;> cases momB r shown <;> rfl
theorem shows_zero {r : Ros} {shown : List Int} (h : showsE r shown = 0) : shown.length = r.ahead.length := by
  by_cases hl : shown.length = r.ahead.length
  · exact hl
  · rw [shows_len hl] at h; omega
set_option maxHeartbeats 8000000 in
set_option maxRecDepth 100000 in
theorem whoR_calls (v lv : Value) (r : Ros) (shown : List Int) (w : World) (hv : RosAt w v r) (hl : IntsAt w lv shown) :
    Calls Tryz.prog 53 #[v, lv] w fun e w' => ∃ ov, e = .returned (.tuple #[ov, .int .i64 (whoE r shown)]) ∧ w'.ownsRow w.heap.size 3 1 ov (whoO r shown).length (nums .i64 (whoO r shown)) ∧ Below w.heap.size w w' := by
  have hR0 := hv
  obtain ⟨A, c, T, d, rfl, h1, h2, h3, h4⟩ := hv
  have hR : Aside0 (RosAt w (.agg #[.int .i64 r.gates, .int .i64 r.frm, .int .i64 r.til, .slice A r.ahead.length c, .slice T r.turns.length d]) r) := ⟨hR0⟩
  have H4 := Aside0.mk h4
  clear h1 h2 h3 h4 hR0
  obtain ⟨A1, c1, rfl, i1, i2⟩ := hl
  have HL : Aside0 (IntsAt w (.slice A1 shown.length c1) shown) := ⟨⟨A1, c1, rfl, i1, i2⟩⟩
  clear i1 i2
  generalize hPost : (fun (e : Ending) (w' : World) => ∃ ov, e = .returned (.tuple #[ov, .int .i64 (whoE r shown)]) ∧ w'.ownsRow w.heap.size 3 1 ov (whoO r shown).length (nums .i64 (whoO r shown)) ∧ Below w.heap.size w w') = Post
  have HQ : Aside0 (∀ ov w', w'.ownsRow w.heap.size 3 1 ov (whoO r shown).length (nums .i64 (whoO r shown)) → Below w.heap.size w w' → Post (.returned (.tuple #[ov, .int .i64 (whoE r shown)])) w') := ⟨fun ov w' a b => hPost ▸ ⟨ov, rfl, a, b⟩⟩
  clear hPost
  have hval := fun W (h : RosAt W (.agg #[.int .i64 r.gates, .int .i64 r.frm, .int .i64 r.til, .slice A r.ahead.length c, .slice T r.turns.length d]) r) => valid_calls (.agg #[.int .i64 r.gates, .int .i64 r.frm, .int .i64 r.til, .slice A r.ahead.length c, .slice T r.turns.length d]) r W h
  cases hcb : checkB r
  · have HQ' : Aside0 (∀ w', Below w.heap.size w w' → Post (.returned (.tuple #[.slice none 0 0, .int .i64 70])) w') := ⟨fun w' hb => by
      have := HQ.out (.slice none 0 0) w'
      unfold whoE whoO checkE at this
      rw [hcb] at this
      exact this (own_nil _ _ _ _) hb⟩
    simp only [hcb] at hval
    clear HQ hcb
    go_enter Tryz.func53, Tryz.ntmps53
    go_wp2_with (first | ((with_reducible refine gate_dst (N := 2) rfl ?_); refine box_event ?hg (N := 2) ?hd (cs := (rosC r A c T d)) (t := 25) ?hr ?_; (case hd => rfl); (case hg => rfl); (case hr => first | (go_simp; done) | (go_simp; rfl)); intro g hg_ wb hbox_ hb_; have BK := Aside0.mk hbox_; have HB := Aside0.mk hb_; obtain ⟨q0, q1, q2, q3, q4⟩ := rosC_cells BK.out; clear hbox_ hb_ hg_) | (go_at_call 34; (with_reducible refine (hval _ (hR.out.below HB.out)).mono ?_); rintro e wb ⟨rfl, hb_⟩; replace HB := Aside0.mk (below_step HB.out hb_); replace BK := Aside0.mk (blk_below BK.out hb_); clear q0 q1 q2 q3 q4; obtain ⟨q0, q1, q2, q3, q4⟩ := rosC_cells BK.out; clear hb_))
    exact HQ'.out _ HB.out
  · have V := (checkB_iff r).1 hcb
    rw [whoE_valid hcb, whoO_valid hcb] at HQ
    simp only [hcb] at hval
    have hsho := fun W (h : RosAt W (.agg #[.int .i64 r.gates, .int .i64 r.frm, .int .i64 r.til, .slice A r.ahead.length c, .slice T r.turns.length d]) r) (h2 : IntsAt W (.slice A1 shown.length c1) shown) => showsR_calls (.agg #[.int .i64 r.gates, .int .i64 r.frm, .int .i64 r.til, .slice A r.ahead.length c, .slice T r.turns.length d]) _ r shown W V h h2
    by_cases hs : showsE r shown = 0
    · have hlen := shows_zero hs
      rw [if_pos hs, hs] at HQ
      simp only [hs] at hsho
      have HV := Aside0.mk V
      have h24 := V.turns
      have HLEN2 := Aside0.mk hlen
      clear hs hcb V hlen
      go_enter Tryz.func53, Tryz.ntmps53
      go_wp2_with (first | ((with_reducible refine gate_dst (N := 2) rfl ?_); refine box_event ?hg (N := 2) ?hd (cs := (rosC r A c T d)) (t := 25) ?hr ?_; (case hd => rfl); (case hg => rfl); (case hr => first | (go_simp; done) | (go_simp; rfl)); intro g hg_ wb hbox_ hb_; have BK := Aside0.mk hbox_; have HB := Aside0.mk hb_; obtain ⟨q0, q1, q2, q3, q4⟩ := rosC_cells BK.out; clear hbox_ hb_ hg_) | (go_at_call 34; (with_reducible refine (hval _ (hR.out.below HB.out)).mono ?_); rintro e wb ⟨rfl, hb_⟩; replace HB := Aside0.mk (below_step HB.out hb_); replace BK := Aside0.mk (blk_below BK.out hb_); clear q0 q1 q2 q3 q4; obtain ⟨q0, q1, q2, q3, q4⟩ := rosC_cells BK.out; clear hb_) | (go_at_call 114; (with_reducible refine (hsho _ (hR.out.below HB.out) (HL.out.below HB.out)).mono ?_); rintro e wb ⟨rfl, hb_⟩; replace HB := Aside0.mk (below_step HB.out hb_); replace BK := Aside0.mk (blk_below BK.out hb_); clear q0 q1 q2 q3 q4; obtain ⟨q0, q1, q2, q3, q4⟩ := rosC_cells BK.out; clear hb_))
      clear q0 q1 q2 q3 q4 hval hsho
      have HB3 := HB
      have BK3 := BK
      go_loopw [7, 8] (fun u i wr => ∃ k : Nat, k ≤ r.turns.length ∧ i = .int .i64 k ∧ Aside0 (wr.ownsRow wb.heap.size 3 1 u (whoN r shown k).length (nums .i64 (whoN r shown k))) ∧ Aside0 (Below wb.heap.size wb wr)) (fun _ i _ => r.turns.length - (intOf i).toNat)
      case atStart => exact ⟨0, Nat.zero_le _, rfl, ⟨own_nil _ _ _ _⟩, ⟨Below.refl _ _⟩⟩
      case round =>
        clear BK HB
        obtain ⟨k, hk, rfl, HO, HW⟩ := hrel
        have HB := Aside0.mk (below_step HB3.out HW.out)
        have BK := Aside0.mk (blk_below BK3.out HW.out)
        obtain ⟨q0, q1, q2, q3, q4⟩ := rosC_cells BK.out
        by_cases hlt : k < r.turns.length
        · obtain ⟨ad, hA, g0, g1, g2, g3, g4, g5⟩ := CT_at (Kd.C_below H4.out HB.out) k (by omega) (by omega)
          cases hA
          have p0 := World.block_lt_of_cell? wr _ g0
          have HT : Aside0 (r.turns.getD ((k : Int)).toNat Trn.z = tn r k) := ⟨rfl⟩
          rw [HT.out] at g0 g1 g2 g3 g4 g5
          rw [show ((k : Int)).toNat = k from rfl] at g0 g1 g2 g3 g4 g5 p0
          clear HT
          have vt := HV.out.turn k (by omega) (by omega)
          have hg := fun W (h : IntsAt W (.slice A1 shown.length c1) shown) => guardsR_calls (tn r k) _ shown W h vt.2.1.1 (by rw [HLEN2.out]; exact vt.2.1.2) vt.2.2.1.1 (by rw [HLEN2.out]; exact vt.2.2.1.2)
          have HS := Aside0.mk (whoN_succ r shown k)
          have HL9 := Aside0.mk (whoN_len r shown k)
          clear vt
          generalize hxs : whoN r shown k = xs at *
          clear hxs
          generalize guardB (tn r (k : Int)) shown = gb at *
          generalize tn r (k : Int) = tt at *
          have ik0 : (0 : Int) ≤ (k : Int) := by omega
          have ik1 : (k : Int) < (r.turns.length : Int) := by omega
          cases gb
          · have HO' : Aside0 (wr.ownsRow wb.heap.size 3 1 u7 (whoN r shown (k + 1)).length (nums .i64 (whoN r shown (k + 1)))) := ⟨by rw [HS.out]; exact HO.out⟩
            go_wp2_with (go_at_call 115; refine (hg _ (HL.out.below HB.out)).mono ?_; rintro e w7 ⟨rfl, hb7⟩; have HO7 := Aside0.mk (pw_own_below HO'.out hb7); have HB7 := Aside0.mk (below_step HW.out hb7); clear hb7)
            go_roundw
            case rel => exact ⟨k + 1, by omega, by go_num, HO7, HB7⟩
            case measure => simp [intOf]; omega
          · go_wp2_with (first | (go_at_call 115; refine (hg _ (HL.out.below HB.out)).mono ?_; rintro e w7 ⟨rfl, hb7⟩; have HO7 := Aside0.mk (pw_own_below HO.out hb7); have HB7 := Aside0.mk (below_step HW.out hb7); clear hb7) | (at_builtin; refine print_append_num wb.heap.size rfl (.tmp 32) (.tmp 34) 26 3 .i64 8 rfl Tryz.underlying26 info3 (by omega) u7 xs (k : Int) rfl rfl HO7.out HB7.out HB7.out.size (by have := HL9.out; omega) ?_; intro v1 w8 hown hbel hgr hat; have HO8 := Aside0.mk hown; have HB8 := Aside0.mk hbel; have HGR := Aside0.mk hgr; have HAT := Aside0.mk hat; clear hown hbel hgr hat))
            go_roundw
            case rel => exact ⟨k + 1, by omega, by go_num, ⟨by rw [HS.out]; exact HO8.out⟩, HB8⟩
            case measure => simp [intOf]; omega
        · have hkn : k = r.turns.length := by omega
          rw [hkn] at HO
          go_wp2
          exact HQ.out _ _ (own_weaken HO.out HB3.out.size) HB.out
    · have e1 : (showsE r shown != 0) = true := by simp only [bne_iff_ne]; exact hs
      rw [if_neg hs] at HQ
      have HQ' : Aside0 (∀ w', Below w.heap.size w w' → Post (.returned (.tuple #[.slice none 0 0, .int .i64 (showsE r shown)])) w') := ⟨fun w' hb => HQ.out (.slice none 0 0) w' (own_nil _ _ _ _) hb⟩
      clear HQ hs hcb V
      generalize showsE r shown = se at *
      go_enter Tryz.func53, Tryz.ntmps53
      go_wp2_with (first | ((with_reducible refine gate_dst (N := 2) rfl ?_); refine box_event ?hg (N := 2) ?hd (cs := (rosC r A c T d)) (t := 25) ?hr ?_; (case hd => rfl); (case hg => rfl); (case hr => first | (go_simp; done) | (go_simp; rfl)); intro g hg_ wb hbox_ hb_; have BK := Aside0.mk hbox_; have HB := Aside0.mk hb_; obtain ⟨q0, q1, q2, q3, q4⟩ := rosC_cells BK.out; clear hbox_ hb_ hg_) | (go_at_call 34; (with_reducible refine (hval _ (hR.out.below HB.out)).mono ?_); rintro e wb ⟨rfl, hb_⟩; replace HB := Aside0.mk (below_step HB.out hb_); replace BK := Aside0.mk (blk_below BK.out hb_); clear q0 q1 q2 q3 q4; obtain ⟨q0, q1, q2, q3, q4⟩ := rosC_cells BK.out; clear hb_) | (go_at_call 114; (with_reducible refine (hsho _ (hR.out.below HB.out) (HL.out.below HB.out)).mono ?_); rintro e wb ⟨rfl, hb_⟩; replace HB := Aside0.mk (below_step HB.out hb_); replace BK := Aside0.mk (blk_below BK.out hb_); clear q0 q1 q2 q3 q4; obtain ⟨q0, q1, q2, q3, q4⟩ := rosC_cells BK.out; clear hb_))
      exact HQ'.out _ HB.out
end Go.Proofs.YtflolfbkpjgjaaaGreatDoor
end
section
namespace Go.Proofs.YtflolfbkpjgjaaaGreatDoor
open Go.RowKit Go.Proofs.YtflolfbkpjgjaaaGreatDoorW.PrintWords
open Go.Proofs.YtflolfbkpjgjaaaGreatDoorW.PrintMore
open Go.Deep
def o100_4_0 : Oper := { dst := some 15, op := Op.load 25 (Operand.tmp 3), type := 25, pos := "ref.go:110", after := #[], guard := none }
def o100_4_1 : Oper := { dst := some 16, op := Op.move (Operand.tmp 2), type := 26, pos := "ref.go:110", after := #[], guard := none }
def o100_4_2 : Oper := { dst := some 17, op := Op.move (Operand.tmp 7), type := 3, pos := "ref.go:110", after := #[], guard := none }
def o100_4_3 : Oper := { dst := some 18, op := Op.indexAddr 26 (Operand.tmp 16) (Operand.tmp 17), type := 0, pos := "ref.go:110", after := #[{ on := 1, ground := Ground.data }, { on := 2, ground := Ground.data }], guard := none }
def o100_4_4 : Oper := { dst := some 19, op := Op.load 3 (Operand.tmp 18), type := 3, pos := "ref.go:110", after := #[{ on := 3, ground := Ground.data }], guard := none }
def o100_4_5 : Oper := { dst := some 20, op := Op.call { callee := Callee.value (Operand.func 128), args := #[Operand.tmp 15, Operand.tmp 19], argTypes := #[25, 3] }, type := 4, pos := "ref.go:110", after := #[{ on := 0, ground := Ground.data }, { on := 4, ground := Ground.data }], guard := none }
def o100_4_6 : Oper := { dst := some 21, op := Op.unOp UnOp.not 4 (Operand.tmp 20), type := 4, pos := "ref.go:110", after := #[{ on := 5, ground := Ground.data }], guard := none }
def o100_4_7 : Oper := { dst := some 22, op := Op.move (Operand.tmp 21), type := 4, pos := "ref.go:110", after := #[{ on := 6, ground := Ground.data }, { on := 5, ground := Ground.chain }], guard := none }
def o100_4_8 : Oper := { dst := some 23, op := Op.move (Operand.tmp 1), type := 3, pos := "ref.go:110", after := #[{ on := 7, ground := Ground.guard }], guard := some (7, false) }
def o100_4_9 : Oper := { dst := some 24, op := Op.binOp BinOp.geq 3 (Operand.tmp 23) (Operand.const (Value.int IntKind.i64 0)) 3, type := 4, pos := "ref.go:110", after := #[{ on := 8, ground := Ground.data }, { on := 7, ground := Ground.guard }], guard := some (7, false) }
def o100_4_10 : Oper := { dst := some 25, op := Op.move (Operand.tmp 24), type := 4, pos := "ref.go:110", after := #[{ on := 9, ground := Ground.data }, { on := 7, ground := Ground.chain }, { on := 7, ground := Ground.guard }], guard := some (7, false) }
def o100_4_11 : Oper := { dst := some 26, op := Op.fieldAddr 25 (Operand.tmp 3) 4, type := 0, pos := "ref.go:110", after := #[{ on := 10, ground := Ground.guard }], guard := some (10, true) }
def o100_4_12 : Oper := { dst := some 27, op := Op.load 23 (Operand.tmp 26), type := 23, pos := "ref.go:110", after := #[{ on := 11, ground := Ground.data }, { on := 10, ground := Ground.guard }], guard := some (10, true) }
def o100_4_13 : Oper := { dst := some 28, op := Op.move (Operand.tmp 2), type := 26, pos := "ref.go:110", after := #[{ on := 10, ground := Ground.guard }], guard := some (10, true) }
def o100_4_14 : Oper := { dst := some 29, op := Op.move (Operand.tmp 7), type := 3, pos := "ref.go:110", after := #[{ on := 10, ground := Ground.guard }], guard := some (10, true) }
def o100_4_15 : Oper := { dst := some 30, op := Op.indexAddr 26 (Operand.tmp 28) (Operand.tmp 29), type := 0, pos := "ref.go:110", after := #[{ on := 13, ground := Ground.data }, { on := 14, ground := Ground.data }, { on := 10, ground := Ground.guard }], guard := some (10, true) }
def o100_4_16 : Oper := { dst := some 31, op := Op.load 3 (Operand.tmp 30), type := 3, pos := "ref.go:110", after := #[{ on := 15, ground := Ground.data }, { on := 10, ground := Ground.guard }], guard := some (10, true) }
def o100_4_17 : Oper := { dst := some 32, op := Op.indexAddr 23 (Operand.tmp 27) (Operand.tmp 31), type := 0, pos := "ref.go:110", after := #[{ on := 12, ground := Ground.data }, { on := 16, ground := Ground.data }, { on := 10, ground := Ground.guard }], guard := some (10, true) }
def o100_4_18 : Oper := { dst := some 33, op := Op.fieldAddr 45 (Operand.tmp 32) 0, type := 0, pos := "ref.go:110", after := #[{ on := 17, ground := Ground.data }, { on := 10, ground := Ground.guard }], guard := some (10, true) }
def o100_4_19 : Oper := { dst := some 34, op := Op.load 3 (Operand.tmp 33), type := 3, pos := "ref.go:110", after := #[{ on := 18, ground := Ground.data }, { on := 10, ground := Ground.guard }], guard := some (10, true) }
def o100_4_20 : Oper := { dst := some 35, op := Op.move (Operand.tmp 1), type := 3, pos := "ref.go:110", after := #[{ on := 10, ground := Ground.guard }], guard := some (10, true) }
def o100_4_21 : Oper := { dst := some 36, op := Op.binOp BinOp.neq 3 (Operand.tmp 34) (Operand.tmp 35) 3, type := 4, pos := "ref.go:110", after := #[{ on := 19, ground := Ground.data }, { on := 20, ground := Ground.data }, { on := 10, ground := Ground.guard }], guard := some (10, true) }
def o100_4_22 : Oper := { dst := some 37, op := Op.pick (Operand.tmp 25) (Operand.tmp 36) (Operand.const (Value.bool false)), type := 4, pos := "ref.go:110", after := #[{ on := 10, ground := Ground.data }, { on := 21, ground := Ground.data }, { on := 7, ground := Ground.guard }], guard := some (7, false) }
def o100_4_23 : Oper := { dst := some 38, op := Op.pick (Operand.tmp 22) (Operand.const (Value.bool true)) (Operand.tmp 37), type := 4, pos := "ref.go:110", after := #[{ on := 7, ground := Ground.data }, { on := 22, ground := Ground.data }], guard := none }
def diffG (r : Ros) (g : Int) (l : List Int) (i : Nat) : Bool := !(outB r (sh l i) || (decide (0 ≤ g) && ((tn r (sh l i)).gate != g))) && (List.range i).all fun b => !(sh l b == sh l i)
def diffRB (r : Ros) (g : Int) (l : List Int) : Bool := (List.range l.length).all (diffG r g l)
theorem sh_get {l : List Int} {k : Nat} (h : k < l.length) : sh l (k : Int) = l[k] := by
  unfold sh
  rw [List.getD_eq_getElem?_getD, Int.toNat_natCast, List.getElem?_eq_getElem h]
  rfl
theorem diffRB_iff (r : Ros) (g : Int) (l : List Int) : diffRB r g l = true ↔ (∀ x ∈ l, (0 ≤ x ∧ x < r.turns.length) ∧ (0 ≤ g → (tn r x).gate = g)) ∧ l.Nodup := by
  unfold diffRB diffG
  simp only [List.all_eq_true, List.mem_range, Bool.and_eq_true, Bool.not_eq_true', Bool.or_eq_false_iff, Bool.and_eq_false_iff, decide_eq_false_iff_not, bne_eq_false_iff_eq, beq_eq_false_iff_ne]
  rw [List.Nodup, List.pairwise_iff_getElem]
  constructor
  · intro h
    refine ⟨fun x hx => ?_, fun i j hi hj hij e => ?_⟩
    · obtain ⟨k, hk, rfl⟩ := List.mem_iff_getElem.1 hx
      have := (h k hk).1
      rw [sh_get hk] at this
      exact ⟨(outB_iff _ _).1 this.1, fun h0 => this.2.resolve_left (fun h => h h0)⟩
    · have := (h j hj).2 i hij
      rw [sh_get hj, sh_get hi] at this
      exact this e
  · rintro ⟨h1, h2⟩ k hk
    have := h1 _ (List.getElem_mem hk)
    rw [sh_get hk]
    refine ⟨⟨(outB_iff _ _).2 this.1, ?_⟩, fun b hb => ?_⟩
    · by_cases h0 : 0 ≤ g
      · exact .inr (this.2 h0)
      · exact .inl h0
    · rw [sh_get (by omega : b < l.length)]
      exact h2 b k (by omega) hk hb
theorem diffRB_neg (r : Ros) (l : List Int) : diffRB r (-1) l = (!(l.any (outB r)) && diffB l) := by
  rw [Bool.eq_iff_iff, diffRB_iff, Bool.and_eq_true, Bool.not_eq_true', List.any_eq_false, diffB_iff]
  refine and_congr_left' (forall_congr' fun x => forall_congr' fun _ => ?_)
  rw [Bool.not_eq_true, outB_iff]
  exact ⟨fun h => h.1, fun h => ⟨h, fun h0 => by omega⟩⟩
set_option maxHeartbeats 8000000 in
set_option maxRecDepth 100000 in
theorem diffR_calls (v lv : Value) (r : Ros) (gt : Int) (l : List Int) (w : World) (hv : RosAt w v r) (hl : IntsAt w lv l) :
    Calls Tryz.prog 100 #[v, .int .i64 gt, lv] w fun e w' => e = .returned (.bool (diffRB r gt l)) ∧ Below w.heap.size w w' := by
  have hR0 := hv
  obtain ⟨A, c, T, d, rfl, h1, h2, h3, h4⟩ := hv
  have hR : Aside0 (RosAt w (.agg #[.int .i64 r.gates, .int .i64 r.frm, .int .i64 r.til, .slice A r.ahead.length c, .slice T r.turns.length d]) r) := ⟨hR0⟩
  have H4 := Aside0.mk h4
  obtain ⟨A1, c1, rfl, hc1, hl1⟩ := hl
  have HL := Aside0.mk hl1
  have hbig := hl1.2.1
  clear h1 h2 h3 h4 hc1 hl1 hR0
  go_enter Tryz.func100, Tryz.ntmps100
  go_wp2_with ((with_reducible refine gate_dst (N := 3) rfl ?_); refine box_event ?hg (N := 3) ?hd (cs := (rosC r A c T d)) (t := 25) ?hr ?_; (case hd => rfl); (case hg => rfl); (case hr => first | (go_simp; done) | (go_simp; rfl)); intro g hg_ wb hbox_ hb_; have BK := Aside0.mk hbox_; have HB := Aside0.mk hb_; obtain ⟨q0, q1, q2, q3, q4⟩ := rosC_cells BK.out; clear hbox_ hb_ hg_)
  clear q0 q1 q2 q3 q4
  go_loopw [7] (fun i wr => ∃ k : Nat, k ≤ l.length ∧ i = .int .i64 k ∧ Aside0 ((List.range k).all (diffG r gt l) = true) ∧ Aside0 (wr.heap[g]? = some (.cells (rosC r A c T d) 25 (0, 0))) ∧ Aside0 (Below w.heap.size w wr)) (fun i _ => l.length - (intOf i).toNat)
  case atStart => exact ⟨0, Nat.zero_le _, rfl, ⟨rfl⟩, BK, HB⟩
  case round =>
    clear BK HB
    obtain ⟨k, hk, rfl, HO, BK, HB⟩ := hrel
    by_cases hlt : k < l.length
    · obtain ⟨ads, hAs, s1⟩ := CI_at HL.out k (by omega) (by omega)
      cases hAs
      change w.cell? _ = some (.int .i64 (sh l k)) at s1
      rw [show ((k : Int)).toNat = k from rfl] at s1
      have S1 := Aside0.mk s1
      clear s1
      have ik0 : (0 : Int) ≤ (k : Int) := by omega
      have ik1 : (k : Int) < (l.length : Int) := by omega
      have hturn := fun W (h : RosAt W (.agg #[.int .i64 r.gates, .int .i64 r.frm, .int .i64 r.til, .slice A r.ahead.length c, .slice T r.turns.length d]) r) => turnR_calls (.agg #[.int .i64 r.gates, .int .i64 r.frm, .int .i64 r.til, .slice A r.ahead.length c, .slice T r.turns.length d]) r (sh l k) W h
      have HBAD : Aside0 (diffG r gt l k = false → diffRB r gt l = false) := ⟨fun h => all_range_false hlt h⟩
      have HOK : Aside0 (diffG r gt l k = true → (List.range (k + 1)).all (diffG r gt l) = true) := ⟨fun h => by rw [all_range_succ, HO.out, h]; rfl⟩
      have HG : Aside0 (diffG r gt l k = (!(outB r (sh l k) || (decide (0 ≤ gt) && ((tn r (sh l k)).gate != gt))) && (List.range k).all fun b => !(sh l b == sh l k))) := ⟨rfl⟩
      generalize diffG r gt l k = dg at *
      go_upto_region 4 with fail
      go_cut [38] from 15 to 38 (fun v wx => v = .bool (outB r (sh l k) || (decide (0 ≤ gt) && ((tn r (sh l k)).gate != gt))) ∧ Aside0 (wx.heap[g]? = some (.cells (rosC r A c T d) 25 (0, 0))) ∧ Aside0 (Below w.heap.size w wx))
      case first =>
        clear HBAD HOK HG HO
        cases hob : outB r (sh l k)
        · have hin := (outB_iff r _).1 hob
          obtain ⟨y0, y1⟩ := hin
          obtain ⟨adt, hAt, t0, t1, t2, t3, t4, t5⟩ := CT_at H4.out (sh l k) y0 y1
          cases hAt
          have T1 : Aside0 (w.cell? (adt.add ((sh l k).toNat * 6)) = some (.int .i64 (tn r (sh l k)).gate)) := ⟨t0⟩
          simp only [hob] at hturn
          clear t0 t1 t2 t3 t4 t5
          replace hob := Aside0.mk hob
          cases hg0 : decide (0 ≤ gt)
          · have HG0 := Aside0.mk hg0
            have HSW : Aside0 (∀ W, Below wr.heap.size wr W → (fun w' => w'.cell? ⟨g, 0, none⟩ = some (.int .i64 r.gates) ∧ w'.cell? ⟨g, 1, none⟩ = some (.int .i64 r.frm) ∧ w'.cell? ⟨g, 2, none⟩ = some (.int .i64 r.til) ∧ w'.cell? ⟨g, 3, none⟩ = some (.slice A r.ahead.length c) ∧ w'.cell? ⟨g, 4, none⟩ = some (.slice (some adt) r.turns.length d) ∧ w'.cell? (ads.add k) = some (.int .i64 (sh l k)) ∧ w'.cell? (adt.add ((sh l k).toNat * 6)) = some (.int .i64 (tn r (sh l k)).gate)) W) := ⟨fun W h => by
              obtain ⟨a0, a1, a2, a3, a4⟩ := rosC_cells (blk_below BK.out h)
              exact ⟨a0, a1, a2, a3, a4, pw_cell_below (below_step HB.out h) S1.out, pw_cell_below (below_step HB.out h) T1.out⟩⟩
            refine wp_region_held_drew (S := (fun w' => w'.cell? ⟨g, 0, none⟩ = some (.int .i64 r.gates) ∧ w'.cell? ⟨g, 1, none⟩ = some (.int .i64 r.frm) ∧ w'.cell? ⟨g, 2, none⟩ = some (.int .i64 r.til) ∧ w'.cell? ⟨g, 3, none⟩ = some (.slice A r.ahead.length c) ∧ w'.cell? ⟨g, 4, none⟩ = some (.slice (some adt) r.turns.length d) ∧ w'.cell? (ads.add k) = some (.int .i64 (sh l k)) ∧ w'.cell? (adt.add ((sh l k).toNat * 6)) = some (.int .i64 (tn r (sh l k)).gate))) (by kernel_rfl) ?_ (fun hH0 => ?_)
            · exact HSW.out _ (below_drew (Below.refl _ _))
            refine tk 0 (oi := o100_4_0) (v := ?_) rfl (by kernel_rfl) (fun _ _ _ h => h) (by rfl) ?_ hH0 ?_
            rotate_left
            · (intro w hSw; (try dsimp only at hSw); unfold o100_4_0; go_simp <;> (with_reducible rfl))
            simp only [Act.put, o100_4_0, List.setIfInBounds_toArray, List.set_cons_zero, List.set_cons_succ]
            refine tk 1 (oi := o100_4_1) (v := ?_) rfl (by kernel_rfl) (fun _ _ _ h => h) (by rfl) ?_ hH0 ?_
            rotate_left
            · (intro w hSw; (try dsimp only at hSw); unfold o100_4_1; go_simp <;> (with_reducible rfl))
            simp only [Act.put, o100_4_1, List.setIfInBounds_toArray, List.set_cons_zero, List.set_cons_succ]
            refine tk 2 (oi := o100_4_2) (v := ?_) rfl (by kernel_rfl) (fun _ _ _ h => h) (by rfl) ?_ hH0 ?_
            rotate_left
            · (intro w hSw; (try dsimp only at hSw); unfold o100_4_2; go_simp <;> (with_reducible rfl))
            simp only [Act.put, o100_4_2, List.setIfInBounds_toArray, List.set_cons_zero, List.set_cons_succ]
            refine tk 3 (oi := o100_4_3) (v := ?_) rfl (by kernel_rfl) (fun _ _ _ h => h) (by rfl) ?_ hH0 ?_
            rotate_left
            · (intro w hSw; (try dsimp only at hSw); unfold o100_4_3; go_simp <;> (with_reducible rfl))
            simp only [Act.put, o100_4_3, List.setIfInBounds_toArray, List.set_cons_zero, List.set_cons_succ]
            refine tk 4 (oi := o100_4_4) (v := ?_) rfl (by kernel_rfl) (fun _ _ _ h => h) (by rfl) ?_ hH0 ?_
            rotate_left
            · (intro w hSw; (try dsimp only at hSw); unfold o100_4_4; go_simp <;> (with_reducible rfl))
            simp only [Act.put, o100_4_4, List.setIfInBounds_toArray, List.set_cons_zero, List.set_cons_succ]
            refine wpAnyH_ready (rs := [5]) (by kernel_rfl) (by simp) (AllReadyH.cons (o := o100_4_5) rfl (fun K' hK' => ?_) AllReadyH.nil)
            unfold o100_4_5
            go_simp
            go_at_call 128; refine (hturn _ (hR.out.below (below_drew HB.out))).mono ?_; rintro e ww ⟨rfl, hb_⟩; have HX := Aside0.mk (below_step (below_drew (Below.refl _ wr)) hb_); have hk_ := HSW.out _ HX.out; clear hb_
            refine hK'.out _ _ (by exact hk_) (fun hH1 => ?_)
            clear hK' K'
            try simp only [Act.put, List.setIfInBounds_toArray, List.set_cons_zero, List.set_cons_succ]
            refine tk 6 (oi := o100_4_6) (v := ?_) rfl (by kernel_rfl) (fun _ _ _ h => h) (by rfl) ?_ hH1 ?_
            rotate_left
            · (intro w hSw; (try dsimp only at hSw); unfold o100_4_6; go_simp <;> (with_reducible rfl))
            simp only [Act.put, o100_4_6, List.setIfInBounds_toArray, List.set_cons_zero, List.set_cons_succ]
            refine tk 7 (oi := o100_4_7) (v := ?_) rfl (by kernel_rfl) (fun _ _ _ h => h) (by rfl) ?_ hH1 ?_
            rotate_left
            · (intro w hSw; (try dsimp only at hSw); unfold o100_4_7; go_simp <;> (with_reducible rfl))
            simp only [Act.put, o100_4_7, List.setIfInBounds_toArray, List.set_cons_zero, List.set_cons_succ]
            refine tk 8 (oi := o100_4_8) (v := ?_) rfl (by kernel_rfl) (fun _ _ _ h => h) (by rfl) ?_ hH1 ?_
            rotate_left
            · (intro w hSw; (try dsimp only at hSw); unfold o100_4_8; go_simp <;> (with_reducible rfl))
            simp only [Act.put, o100_4_8, List.setIfInBounds_toArray, List.set_cons_zero, List.set_cons_succ]
            refine tk 9 (oi := o100_4_9) (v := ?_) rfl (by kernel_rfl) (fun _ _ _ h => h) (by rfl) ?_ hH1 ?_
            rotate_left
            · (intro w hSw; (try dsimp only at hSw); unfold o100_4_9; go_simp <;> (with_reducible rfl))
            simp only [Act.put, o100_4_9, List.setIfInBounds_toArray, List.set_cons_zero, List.set_cons_succ]
            refine tk 10 (oi := o100_4_10) (v := ?_) rfl (by kernel_rfl) (fun _ _ _ h => h) (by rfl) ?_ hH1 ?_
            rotate_left
            · (intro w hSw; (try dsimp only at hSw); unfold o100_4_10; go_simp <;> (with_reducible rfl))
            simp only [Act.put, o100_4_10, List.setIfInBounds_toArray, List.set_cons_zero, List.set_cons_succ]
            refine tu 11 (oi := o100_4_11) rfl (by kernel_rfl) (fun _ _ _ h => h) (by rfl) hH1 ?_
            simp only [Act.put, o100_4_11, List.setIfInBounds_toArray, List.set_cons_zero, List.set_cons_succ]
            refine tu 12 (oi := o100_4_12) rfl (by kernel_rfl) (fun _ _ _ h => h) (by rfl) hH1 ?_
            simp only [Act.put, o100_4_12, List.setIfInBounds_toArray, List.set_cons_zero, List.set_cons_succ]
            refine tu 13 (oi := o100_4_13) rfl (by kernel_rfl) (fun _ _ _ h => h) (by rfl) hH1 ?_
            simp only [Act.put, o100_4_13, List.setIfInBounds_toArray, List.set_cons_zero, List.set_cons_succ]
            refine tu 14 (oi := o100_4_14) rfl (by kernel_rfl) (fun _ _ _ h => h) (by rfl) hH1 ?_
            simp only [Act.put, o100_4_14, List.setIfInBounds_toArray, List.set_cons_zero, List.set_cons_succ]
            refine tu 15 (oi := o100_4_15) rfl (by kernel_rfl) (fun _ _ _ h => h) (by rfl) hH1 ?_
            simp only [Act.put, o100_4_15, List.setIfInBounds_toArray, List.set_cons_zero, List.set_cons_succ]
            refine tu 16 (oi := o100_4_16) rfl (by kernel_rfl) (fun _ _ _ h => h) (by rfl) hH1 ?_
            simp only [Act.put, o100_4_16, List.setIfInBounds_toArray, List.set_cons_zero, List.set_cons_succ]
            refine tu 17 (oi := o100_4_17) rfl (by kernel_rfl) (fun _ _ _ h => h) (by rfl) hH1 ?_
            simp only [Act.put, o100_4_17, List.setIfInBounds_toArray, List.set_cons_zero, List.set_cons_succ]
            refine tu 18 (oi := o100_4_18) rfl (by kernel_rfl) (fun _ _ _ h => h) (by rfl) hH1 ?_
            simp only [Act.put, o100_4_18, List.setIfInBounds_toArray, List.set_cons_zero, List.set_cons_succ]
            refine tu 19 (oi := o100_4_19) rfl (by kernel_rfl) (fun _ _ _ h => h) (by rfl) hH1 ?_
            simp only [Act.put, o100_4_19, List.setIfInBounds_toArray, List.set_cons_zero, List.set_cons_succ]
            refine tu 20 (oi := o100_4_20) rfl (by kernel_rfl) (fun _ _ _ h => h) (by rfl) hH1 ?_
            simp only [Act.put, o100_4_20, List.setIfInBounds_toArray, List.set_cons_zero, List.set_cons_succ]
            refine tu 21 (oi := o100_4_21) rfl (by kernel_rfl) (fun _ _ _ h => h) (by rfl) hH1 ?_
            simp only [Act.put, o100_4_21, List.setIfInBounds_toArray, List.set_cons_zero, List.set_cons_succ]
            refine tk 22 (oi := o100_4_22) (v := ?_) rfl (by kernel_rfl) (fun _ _ _ h => h) (by rfl) ?_ hH1 ?_
            rotate_left
            · (intro w hSw; (try dsimp only at hSw); unfold o100_4_22; go_simp <;> (with_reducible rfl))
            simp only [Act.put, o100_4_22, List.setIfInBounds_toArray, List.set_cons_zero, List.set_cons_succ]
            refine tk 23 (oi := o100_4_23) (v := ?_) rfl (by kernel_rfl) (fun _ _ _ h => h) (by rfl) ?_ hH1 ?_
            rotate_left
            · (intro w hSw; (try dsimp only at hSw); unfold o100_4_23; go_simp <;> (with_reducible rfl))
            simp only [Act.put, o100_4_23, List.setIfInBounds_toArray, List.set_cons_zero, List.set_cons_succ]
            refine wpAnyH_done (by kernel_rfl) ?_ _
            clear HSW
            go_wp2_with fail
            go_meet
            case rel => exact ⟨by first | rfl | (rw [hob.out]; rfl) | (rw [hob.out, HG0.out]; rfl) | (simp [hob.out, HG0.out]; done), ⟨blk_below BK.out HX.out⟩, ⟨below_step HB.out HX.out⟩⟩
          · have HG0 := Aside0.mk hg0
            have HSW : Aside0 (∀ W, Below wr.heap.size wr W → (fun w' => w'.cell? ⟨g, 0, none⟩ = some (.int .i64 r.gates) ∧ w'.cell? ⟨g, 1, none⟩ = some (.int .i64 r.frm) ∧ w'.cell? ⟨g, 2, none⟩ = some (.int .i64 r.til) ∧ w'.cell? ⟨g, 3, none⟩ = some (.slice A r.ahead.length c) ∧ w'.cell? ⟨g, 4, none⟩ = some (.slice (some adt) r.turns.length d) ∧ w'.cell? (ads.add k) = some (.int .i64 (sh l k)) ∧ w'.cell? (adt.add ((sh l k).toNat * 6)) = some (.int .i64 (tn r (sh l k)).gate)) W) := ⟨fun W h => by
              obtain ⟨a0, a1, a2, a3, a4⟩ := rosC_cells (blk_below BK.out h)
              exact ⟨a0, a1, a2, a3, a4, pw_cell_below (below_step HB.out h) S1.out, pw_cell_below (below_step HB.out h) T1.out⟩⟩
            refine wp_region_held_drew (S := (fun w' => w'.cell? ⟨g, 0, none⟩ = some (.int .i64 r.gates) ∧ w'.cell? ⟨g, 1, none⟩ = some (.int .i64 r.frm) ∧ w'.cell? ⟨g, 2, none⟩ = some (.int .i64 r.til) ∧ w'.cell? ⟨g, 3, none⟩ = some (.slice A r.ahead.length c) ∧ w'.cell? ⟨g, 4, none⟩ = some (.slice (some adt) r.turns.length d) ∧ w'.cell? (ads.add k) = some (.int .i64 (sh l k)) ∧ w'.cell? (adt.add ((sh l k).toNat * 6)) = some (.int .i64 (tn r (sh l k)).gate))) (by kernel_rfl) ?_ (fun hH0 => ?_)
            · exact HSW.out _ (below_drew (Below.refl _ _))
            refine tk 0 (oi := o100_4_0) (v := ?_) rfl (by kernel_rfl) (fun _ _ _ h => h) (by rfl) ?_ hH0 ?_
            rotate_left
            · (intro w hSw; (try dsimp only at hSw); unfold o100_4_0; go_simp <;> (with_reducible rfl))
            simp only [Act.put, o100_4_0, List.setIfInBounds_toArray, List.set_cons_zero, List.set_cons_succ]
            refine tk 1 (oi := o100_4_1) (v := ?_) rfl (by kernel_rfl) (fun _ _ _ h => h) (by rfl) ?_ hH0 ?_
            rotate_left
            · (intro w hSw; (try dsimp only at hSw); unfold o100_4_1; go_simp <;> (with_reducible rfl))
            simp only [Act.put, o100_4_1, List.setIfInBounds_toArray, List.set_cons_zero, List.set_cons_succ]
            refine tk 2 (oi := o100_4_2) (v := ?_) rfl (by kernel_rfl) (fun _ _ _ h => h) (by rfl) ?_ hH0 ?_
            rotate_left
            · (intro w hSw; (try dsimp only at hSw); unfold o100_4_2; go_simp <;> (with_reducible rfl))
            simp only [Act.put, o100_4_2, List.setIfInBounds_toArray, List.set_cons_zero, List.set_cons_succ]
            refine tk 3 (oi := o100_4_3) (v := ?_) rfl (by kernel_rfl) (fun _ _ _ h => h) (by rfl) ?_ hH0 ?_
            rotate_left
            · (intro w hSw; (try dsimp only at hSw); unfold o100_4_3; go_simp <;> (with_reducible rfl))
            simp only [Act.put, o100_4_3, List.setIfInBounds_toArray, List.set_cons_zero, List.set_cons_succ]
            refine tk 4 (oi := o100_4_4) (v := ?_) rfl (by kernel_rfl) (fun _ _ _ h => h) (by rfl) ?_ hH0 ?_
            rotate_left
            · (intro w hSw; (try dsimp only at hSw); unfold o100_4_4; go_simp <;> (with_reducible rfl))
            simp only [Act.put, o100_4_4, List.setIfInBounds_toArray, List.set_cons_zero, List.set_cons_succ]
            refine wpAnyH_ready (rs := [5]) (by kernel_rfl) (by simp) (AllReadyH.cons (o := o100_4_5) rfl (fun K' hK' => ?_) AllReadyH.nil)
            unfold o100_4_5
            go_simp
            go_at_call 128; refine (hturn _ (hR.out.below (below_drew HB.out))).mono ?_; rintro e ww ⟨rfl, hb_⟩; have HX := Aside0.mk (below_step (below_drew (Below.refl _ wr)) hb_); have hk_ := HSW.out _ HX.out; clear hb_
            refine hK'.out _ _ (by exact hk_) (fun hH1 => ?_)
            clear hK' K'
            try simp only [Act.put, List.setIfInBounds_toArray, List.set_cons_zero, List.set_cons_succ]
            refine tk 6 (oi := o100_4_6) (v := ?_) rfl (by kernel_rfl) (fun _ _ _ h => h) (by rfl) ?_ hH1 ?_
            rotate_left
            · (intro w hSw; (try dsimp only at hSw); unfold o100_4_6; go_simp <;> (with_reducible rfl))
            simp only [Act.put, o100_4_6, List.setIfInBounds_toArray, List.set_cons_zero, List.set_cons_succ]
            refine tk 7 (oi := o100_4_7) (v := ?_) rfl (by kernel_rfl) (fun _ _ _ h => h) (by rfl) ?_ hH1 ?_
            rotate_left
            · (intro w hSw; (try dsimp only at hSw); unfold o100_4_7; go_simp <;> (with_reducible rfl))
            simp only [Act.put, o100_4_7, List.setIfInBounds_toArray, List.set_cons_zero, List.set_cons_succ]
            refine tk 8 (oi := o100_4_8) (v := ?_) rfl (by kernel_rfl) (fun _ _ _ h => h) (by rfl) ?_ hH1 ?_
            rotate_left
            · (intro w hSw; (try dsimp only at hSw); unfold o100_4_8; go_simp <;> (with_reducible rfl))
            simp only [Act.put, o100_4_8, List.setIfInBounds_toArray, List.set_cons_zero, List.set_cons_succ]
            refine tk 9 (oi := o100_4_9) (v := ?_) rfl (by kernel_rfl) (fun _ _ _ h => h) (by rfl) ?_ hH1 ?_
            rotate_left
            · (intro w hSw; (try dsimp only at hSw); unfold o100_4_9; go_simp <;> (with_reducible rfl))
            simp only [Act.put, o100_4_9, List.setIfInBounds_toArray, List.set_cons_zero, List.set_cons_succ]
            refine tk 10 (oi := o100_4_10) (v := ?_) rfl (by kernel_rfl) (fun _ _ _ h => h) (by rfl) ?_ hH1 ?_
            rotate_left
            · (intro w hSw; (try dsimp only at hSw); unfold o100_4_10; go_simp <;> (with_reducible rfl))
            simp only [Act.put, o100_4_10, List.setIfInBounds_toArray, List.set_cons_zero, List.set_cons_succ]
            refine tk 11 (oi := o100_4_11) (v := ?_) rfl (by kernel_rfl) (fun _ _ _ h => h) (by rfl) ?_ hH1 ?_
            rotate_left
            · (intro w hSw; (try dsimp only at hSw); unfold o100_4_11; go_simp <;> (with_reducible rfl))
            simp only [Act.put, o100_4_11, List.setIfInBounds_toArray, List.set_cons_zero, List.set_cons_succ]
            refine tk 12 (oi := o100_4_12) (v := ?_) rfl (by kernel_rfl) (fun _ _ _ h => h) (by rfl) ?_ hH1 ?_
            rotate_left
            · (intro w hSw; (try dsimp only at hSw); unfold o100_4_12; go_simp <;> (with_reducible rfl))
            simp only [Act.put, o100_4_12, List.setIfInBounds_toArray, List.set_cons_zero, List.set_cons_succ]
            refine tk 13 (oi := o100_4_13) (v := ?_) rfl (by kernel_rfl) (fun _ _ _ h => h) (by rfl) ?_ hH1 ?_
            rotate_left
            · (intro w hSw; (try dsimp only at hSw); unfold o100_4_13; go_simp <;> (with_reducible rfl))
            simp only [Act.put, o100_4_13, List.setIfInBounds_toArray, List.set_cons_zero, List.set_cons_succ]
            refine tk 14 (oi := o100_4_14) (v := ?_) rfl (by kernel_rfl) (fun _ _ _ h => h) (by rfl) ?_ hH1 ?_
            rotate_left
            · (intro w hSw; (try dsimp only at hSw); unfold o100_4_14; go_simp <;> (with_reducible rfl))
            simp only [Act.put, o100_4_14, List.setIfInBounds_toArray, List.set_cons_zero, List.set_cons_succ]
            refine tk 15 (oi := o100_4_15) (v := ?_) rfl (by kernel_rfl) (fun _ _ _ h => h) (by rfl) ?_ hH1 ?_
            rotate_left
            · (intro w hSw; (try dsimp only at hSw); unfold o100_4_15; go_simp <;> (with_reducible rfl))
            simp only [Act.put, o100_4_15, List.setIfInBounds_toArray, List.set_cons_zero, List.set_cons_succ]
            refine tk 16 (oi := o100_4_16) (v := ?_) rfl (by kernel_rfl) (fun _ _ _ h => h) (by rfl) ?_ hH1 ?_
            rotate_left
            · (intro w hSw; (try dsimp only at hSw); unfold o100_4_16; go_simp <;> (with_reducible rfl))
            simp only [Act.put, o100_4_16, List.setIfInBounds_toArray, List.set_cons_zero, List.set_cons_succ]
            refine tk 17 (oi := o100_4_17) (v := ?_) rfl (by kernel_rfl) (fun _ _ _ h => h) (by rfl) ?_ hH1 ?_
            rotate_left
            · (intro w hSw; (try dsimp only at hSw); unfold o100_4_17; go_simp <;> (with_reducible rfl))
            simp only [Act.put, o100_4_17, List.setIfInBounds_toArray, List.set_cons_zero, List.set_cons_succ]
            refine tk 18 (oi := o100_4_18) (v := ?_) rfl (by kernel_rfl) (fun _ _ _ h => h) (by rfl) ?_ hH1 ?_
            rotate_left
            · (intro w hSw; (try dsimp only at hSw); unfold o100_4_18; go_simp <;> (with_reducible rfl))
            simp only [Act.put, o100_4_18, List.setIfInBounds_toArray, List.set_cons_zero, List.set_cons_succ]
            refine tk 19 (oi := o100_4_19) (v := ?_) rfl (by kernel_rfl) (fun _ _ _ h => h) (by rfl) ?_ hH1 ?_
            rotate_left
            · (intro w hSw; (try dsimp only at hSw); unfold o100_4_19; go_simp <;> (with_reducible rfl))
            simp only [Act.put, o100_4_19, List.setIfInBounds_toArray, List.set_cons_zero, List.set_cons_succ]
            refine tk 20 (oi := o100_4_20) (v := ?_) rfl (by kernel_rfl) (fun _ _ _ h => h) (by rfl) ?_ hH1 ?_
            rotate_left
            · (intro w hSw; (try dsimp only at hSw); unfold o100_4_20; go_simp <;> (with_reducible rfl))
            simp only [Act.put, o100_4_20, List.setIfInBounds_toArray, List.set_cons_zero, List.set_cons_succ]
            refine tk 21 (oi := o100_4_21) (v := ?_) rfl (by kernel_rfl) (fun _ _ _ h => h) (by rfl) ?_ hH1 ?_
            rotate_left
            · (intro w hSw; (try dsimp only at hSw); unfold o100_4_21; go_simp <;> (with_reducible rfl))
            simp only [Act.put, o100_4_21, List.setIfInBounds_toArray, List.set_cons_zero, List.set_cons_succ]
            refine tk 22 (oi := o100_4_22) (v := ?_) rfl (by kernel_rfl) (fun _ _ _ h => h) (by rfl) ?_ hH1 ?_
            rotate_left
            · (intro w hSw; (try dsimp only at hSw); unfold o100_4_22; go_simp <;> (with_reducible rfl))
            simp only [Act.put, o100_4_22, List.setIfInBounds_toArray, List.set_cons_zero, List.set_cons_succ]
            refine tk 23 (oi := o100_4_23) (v := ?_) rfl (by kernel_rfl) (fun _ _ _ h => h) (by rfl) ?_ hH1 ?_
            rotate_left
            · (intro w hSw; (try dsimp only at hSw); unfold o100_4_23; go_simp <;> (with_reducible rfl))
            simp only [Act.put, o100_4_23, List.setIfInBounds_toArray, List.set_cons_zero, List.set_cons_succ]
            refine wpAnyH_done (by kernel_rfl) ?_ _
            clear HSW
            go_wp2_with fail
            go_meet
            case rel => exact ⟨by first | rfl | (rw [hob.out]; rfl) | (rw [hob.out, HG0.out]; rfl) | (simp [hob.out, HG0.out]; done), ⟨blk_below BK.out HX.out⟩, ⟨below_step HB.out HX.out⟩⟩
        · simp only [hob] at hturn
          replace hob := Aside0.mk hob
          have HG0 : Aside0 True := ⟨trivial⟩
          have HSW : Aside0 (∀ W, Below wr.heap.size wr W → (fun w' => w'.cell? ⟨g, 0, none⟩ = some (.int .i64 r.gates) ∧ w'.cell? ⟨g, 1, none⟩ = some (.int .i64 r.frm) ∧ w'.cell? ⟨g, 2, none⟩ = some (.int .i64 r.til) ∧ w'.cell? ⟨g, 3, none⟩ = some (.slice A r.ahead.length c) ∧ w'.cell? ⟨g, 4, none⟩ = some (.slice T r.turns.length d) ∧ w'.cell? (ads.add k) = some (.int .i64 (sh l k))) W) := ⟨fun W h => by
            obtain ⟨a0, a1, a2, a3, a4⟩ := rosC_cells (blk_below BK.out h)
            exact ⟨a0, a1, a2, a3, a4, pw_cell_below (below_step HB.out h) S1.out⟩⟩
          refine wp_region_held_drew (S := (fun w' => w'.cell? ⟨g, 0, none⟩ = some (.int .i64 r.gates) ∧ w'.cell? ⟨g, 1, none⟩ = some (.int .i64 r.frm) ∧ w'.cell? ⟨g, 2, none⟩ = some (.int .i64 r.til) ∧ w'.cell? ⟨g, 3, none⟩ = some (.slice A r.ahead.length c) ∧ w'.cell? ⟨g, 4, none⟩ = some (.slice T r.turns.length d) ∧ w'.cell? (ads.add k) = some (.int .i64 (sh l k)))) (by kernel_rfl) ?_ (fun hH0 => ?_)
          · exact HSW.out _ (below_drew (Below.refl _ _))
          refine tk 0 (oi := o100_4_0) (v := ?_) rfl (by kernel_rfl) (fun _ _ _ h => h) (by rfl) ?_ hH0 ?_
          rotate_left
          · (intro w hSw; (try dsimp only at hSw); unfold o100_4_0; go_simp <;> (with_reducible rfl))
          simp only [Act.put, o100_4_0, List.setIfInBounds_toArray, List.set_cons_zero, List.set_cons_succ]
          refine tk 1 (oi := o100_4_1) (v := ?_) rfl (by kernel_rfl) (fun _ _ _ h => h) (by rfl) ?_ hH0 ?_
          rotate_left
          · (intro w hSw; (try dsimp only at hSw); unfold o100_4_1; go_simp <;> (with_reducible rfl))
          simp only [Act.put, o100_4_1, List.setIfInBounds_toArray, List.set_cons_zero, List.set_cons_succ]
          refine tk 2 (oi := o100_4_2) (v := ?_) rfl (by kernel_rfl) (fun _ _ _ h => h) (by rfl) ?_ hH0 ?_
          rotate_left
          · (intro w hSw; (try dsimp only at hSw); unfold o100_4_2; go_simp <;> (with_reducible rfl))
          simp only [Act.put, o100_4_2, List.setIfInBounds_toArray, List.set_cons_zero, List.set_cons_succ]
          refine tk 3 (oi := o100_4_3) (v := ?_) rfl (by kernel_rfl) (fun _ _ _ h => h) (by rfl) ?_ hH0 ?_
          rotate_left
          · (intro w hSw; (try dsimp only at hSw); unfold o100_4_3; go_simp <;> (with_reducible rfl))
          simp only [Act.put, o100_4_3, List.setIfInBounds_toArray, List.set_cons_zero, List.set_cons_succ]
          refine tk 4 (oi := o100_4_4) (v := ?_) rfl (by kernel_rfl) (fun _ _ _ h => h) (by rfl) ?_ hH0 ?_
          rotate_left
          · (intro w hSw; (try dsimp only at hSw); unfold o100_4_4; go_simp <;> (with_reducible rfl))
          simp only [Act.put, o100_4_4, List.setIfInBounds_toArray, List.set_cons_zero, List.set_cons_succ]
          refine wpAnyH_ready (rs := [5]) (by kernel_rfl) (by simp) (AllReadyH.cons (o := o100_4_5) rfl (fun K' hK' => ?_) AllReadyH.nil)
          unfold o100_4_5
          go_simp
          go_at_call 128; refine (hturn _ (hR.out.below (below_drew HB.out))).mono ?_; rintro e ww ⟨rfl, hb_⟩; have HX := Aside0.mk (below_step (below_drew (Below.refl _ wr)) hb_); have hk_ := HSW.out _ HX.out; clear hb_
          refine hK'.out _ _ (by exact hk_) (fun hH1 => ?_)
          clear hK' K'
          try simp only [Act.put, List.setIfInBounds_toArray, List.set_cons_zero, List.set_cons_succ]
          refine tk 6 (oi := o100_4_6) (v := ?_) rfl (by kernel_rfl) (fun _ _ _ h => h) (by rfl) ?_ hH1 ?_
          rotate_left
          · (intro w hSw; (try dsimp only at hSw); unfold o100_4_6; go_simp <;> (with_reducible rfl))
          simp only [Act.put, o100_4_6, List.setIfInBounds_toArray, List.set_cons_zero, List.set_cons_succ]
          refine tk 7 (oi := o100_4_7) (v := ?_) rfl (by kernel_rfl) (fun _ _ _ h => h) (by rfl) ?_ hH1 ?_
          rotate_left
          · (intro w hSw; (try dsimp only at hSw); unfold o100_4_7; go_simp <;> (with_reducible rfl))
          simp only [Act.put, o100_4_7, List.setIfInBounds_toArray, List.set_cons_zero, List.set_cons_succ]
          refine tu 8 (oi := o100_4_8) rfl (by kernel_rfl) (fun _ _ _ h => h) (by rfl) hH1 ?_
          simp only [Act.put, o100_4_8, List.setIfInBounds_toArray, List.set_cons_zero, List.set_cons_succ]
          refine tu 9 (oi := o100_4_9) rfl (by kernel_rfl) (fun _ _ _ h => h) (by rfl) hH1 ?_
          simp only [Act.put, o100_4_9, List.setIfInBounds_toArray, List.set_cons_zero, List.set_cons_succ]
          refine tu 10 (oi := o100_4_10) rfl (by kernel_rfl) (fun _ _ _ h => h) (by rfl) hH1 ?_
          simp only [Act.put, o100_4_10, List.setIfInBounds_toArray, List.set_cons_zero, List.set_cons_succ]
          refine tu 11 (oi := o100_4_11) rfl (by kernel_rfl) (fun _ _ _ h => h) (by rfl) hH1 ?_
          simp only [Act.put, o100_4_11, List.setIfInBounds_toArray, List.set_cons_zero, List.set_cons_succ]
          refine tu 12 (oi := o100_4_12) rfl (by kernel_rfl) (fun _ _ _ h => h) (by rfl) hH1 ?_
          simp only [Act.put, o100_4_12, List.setIfInBounds_toArray, List.set_cons_zero, List.set_cons_succ]
          refine tu 13 (oi := o100_4_13) rfl (by kernel_rfl) (fun _ _ _ h => h) (by rfl) hH1 ?_
          simp only [Act.put, o100_4_13, List.setIfInBounds_toArray, List.set_cons_zero, List.set_cons_succ]
          refine tu 14 (oi := o100_4_14) rfl (by kernel_rfl) (fun _ _ _ h => h) (by rfl) hH1 ?_
          simp only [Act.put, o100_4_14, List.setIfInBounds_toArray, List.set_cons_zero, List.set_cons_succ]
          refine tu 15 (oi := o100_4_15) rfl (by kernel_rfl) (fun _ _ _ h => h) (by rfl) hH1 ?_
          simp only [Act.put, o100_4_15, List.setIfInBounds_toArray, List.set_cons_zero, List.set_cons_succ]
          refine tu 16 (oi := o100_4_16) rfl (by kernel_rfl) (fun _ _ _ h => h) (by rfl) hH1 ?_
          simp only [Act.put, o100_4_16, List.setIfInBounds_toArray, List.set_cons_zero, List.set_cons_succ]
          refine tu 17 (oi := o100_4_17) rfl (by kernel_rfl) (fun _ _ _ h => h) (by rfl) hH1 ?_
          simp only [Act.put, o100_4_17, List.setIfInBounds_toArray, List.set_cons_zero, List.set_cons_succ]
          refine tu 18 (oi := o100_4_18) rfl (by kernel_rfl) (fun _ _ _ h => h) (by rfl) hH1 ?_
          simp only [Act.put, o100_4_18, List.setIfInBounds_toArray, List.set_cons_zero, List.set_cons_succ]
          refine tu 19 (oi := o100_4_19) rfl (by kernel_rfl) (fun _ _ _ h => h) (by rfl) hH1 ?_
          simp only [Act.put, o100_4_19, List.setIfInBounds_toArray, List.set_cons_zero, List.set_cons_succ]
          refine tu 20 (oi := o100_4_20) rfl (by kernel_rfl) (fun _ _ _ h => h) (by rfl) hH1 ?_
          simp only [Act.put, o100_4_20, List.setIfInBounds_toArray, List.set_cons_zero, List.set_cons_succ]
          refine tu 21 (oi := o100_4_21) rfl (by kernel_rfl) (fun _ _ _ h => h) (by rfl) hH1 ?_
          simp only [Act.put, o100_4_21, List.setIfInBounds_toArray, List.set_cons_zero, List.set_cons_succ]
          refine tu 22 (oi := o100_4_22) rfl (by kernel_rfl) (fun _ _ _ h => h) (by rfl) hH1 ?_
          simp only [Act.put, o100_4_22, List.setIfInBounds_toArray, List.set_cons_zero, List.set_cons_succ]
          refine tk 23 (oi := o100_4_23) (v := ?_) rfl (by kernel_rfl) (fun _ _ _ h => h) (by rfl) ?_ hH1 ?_
          rotate_left
          · (intro w hSw; (try dsimp only at hSw); unfold o100_4_23; go_simp <;> (with_reducible rfl))
          simp only [Act.put, o100_4_23, List.setIfInBounds_toArray, List.set_cons_zero, List.set_cons_succ]
          refine wpAnyH_done (by kernel_rfl) ?_ _
          clear HSW
          go_wp2_with fail
          go_meet
          case rel => exact ⟨by first | rfl | (rw [hob.out]; rfl) | (rw [hob.out, HG0.out]; rfl) | (simp [hob.out, HG0.out]; done), ⟨blk_below BK.out HX.out⟩, ⟨below_step HB.out HX.out⟩⟩
      case rest =>
        clear BK HB hturn
        obtain ⟨rfl, BK, HB⟩ := hcut
        generalize (outB r (sh l k) || (decide (0 ≤ gt) && ((tn r (sh l k)).gate != gt))) = bb at *
        cases bb
        · go_wp2_with fail
          go_loopw [8] (fun i wr => ∃ j : Nat, j ≤ k ∧ i = .int .i64 j ∧ Aside0 (((List.range j).all fun b => !(sh l b == sh l k)) = true) ∧ Aside0 (wr.heap[g]? = some (.cells (rosC r A c T d) 25 (0, 0))) ∧ Aside0 (Below w.heap.size w wr)) (fun i _ => k - (intOf i).toNat)
          case atStart => exact ⟨0, Nat.zero_le _, rfl, ⟨rfl⟩, BK, HB⟩
          case round =>
            clear BK HB
            obtain ⟨j, hj, rfl, HOj, BK, HB⟩ := hrel
            by_cases hlt1 : j < k
            · obtain ⟨ads', hAs', s2⟩ := CI_at HL.out j (by omega) (by omega)
              cases hAs'
              change w.cell? _ = some (.int .i64 (sh l j)) at s2
              rw [show ((j : Int)).toNat = j from rfl] at s2
              have s1' := pw_cell_below HB.out S1.out
              have s2' := pw_cell_below HB.out s2
              have HS : Aside0 ((sh l j == sh l k) = false → ((List.range (j + 1)).all fun b => !(sh l b == sh l k)) = true) := ⟨fun h => by rw [all_range_succ, HOj.out, h]; rfl⟩
              have HE : Aside0 ((sh l j == sh l k) = true → diffRB r gt l = false) := ⟨fun h => HBAD.out (by
                have h2 : ((List.range k).all fun b => !(sh l b == sh l k)) = false := all_range_false hlt1 (by simp only [h]; rfl)
                rw [HG.out, h2, Bool.and_false])⟩
              clear s2
              have ij0 : (0 : Int) ≤ (j : Int) := by omega
              have ij1 : (j : Int) < (l.length : Int) := by omega
              have ij2 : (j : Int) < (k : Int) := by omega
              generalize sh l k = xk at *
              generalize sh l j = xj at *
              cases e1 : (xj == xk)
              · have HQ := Aside0.mk (HS.out e1)
                go_wp2_with fail
                go_quiet (fail)
                go_wp2
                go_roundw
                case rel => exact ⟨j + 1, by omega, by go_num, HQ, ⟨blk_drewN BK.out _⟩, ⟨pw_below_drewN HB.out _⟩⟩
                case measure => simp [intOf]; omega
              · have HQ := Aside0.mk (HE.out e1)
                go_wp2_with fail
                go_quiet (fail)
                go_wp2
                go_ret
                exact ⟨by rw [HQ.out]; rfl, pw_below_drewN HB.out _⟩
            · have HQ : Aside0 ((List.range (k + 1)).all (diffG r gt l) = true) := ⟨HOK.out (by
                have e : j = k := by omega
                rw [e] at HOj
                rw [HG.out, HOj.out]
                rfl)⟩
              go_wp2
              go_roundw
              case rel => exact ⟨k + 1, by omega, by go_num, HQ, BK, HB⟩
              case measure => simp [intOf]; omega
        · have HQ := Aside0.mk (HBAD.out (by rw [HG.out]; rfl))
          go_wp2_with fail
          go_ret
          exact ⟨by rw [HQ.out]; rfl, HB.out⟩
    · have HQ : Aside0 (diffRB r gt l = true) := ⟨by
        have e : k = l.length := by omega
        rw [e] at HO
        exact HO.out⟩
      go_wp2
      go_ret
      exact ⟨by rw [HQ.out]; rfl, HB.out⟩
set_option maxHeartbeats 8000000 in
set_option maxRecDepth 100000 in
theorem costR_calls (v lv : Value) (r : Ros) (l : List Int) (w : World) (hv : RosAt w v r) (hl : IntsAt w lv l) :
    Calls Tryz.prog 55 #[v, lv] w fun e w' => e = .returned (.tuple #[.int .i64 (costV r l), .int .i64 (costE r l)]) ∧ Below w.heap.size w w' := by
  have hR0 := hv
  obtain ⟨A, c, T, d, rfl, h1, h2, h3, h4⟩ := hv
  have hR : Aside0 (RosAt w (.agg #[.int .i64 r.gates, .int .i64 r.frm, .int .i64 r.til, .slice A r.ahead.length c, .slice T r.turns.length d]) r) := ⟨hR0⟩
  have H4 := Aside0.mk h4
  obtain ⟨A1, c1, rfl, i1, i2⟩ := hl
  have HL : Aside0 (IntsAt w (.slice A1 l.length c1) l) := ⟨⟨A1, c1, rfl, i1, i2⟩⟩
  have hL := Aside0.mk i2
  clear h1 h2 h3 h4 hR0 i1 i2
  have hval := fun W (h : RosAt W (.agg #[.int .i64 r.gates, .int .i64 r.frm, .int .i64 r.til, .slice A r.ahead.length c, .slice T r.turns.length d]) r) => valid_calls (.agg #[.int .i64 r.gates, .int .i64 r.frm, .int .i64 r.til, .slice A r.ahead.length c, .slice T r.turns.length d]) r W h
  have hdif := fun W (h : RosAt W (.agg #[.int .i64 r.gates, .int .i64 r.frm, .int .i64 r.til, .slice A r.ahead.length c, .slice T r.turns.length d]) r) (h2 : IntsAt W (.slice A1 l.length c1) l) => diffR_calls (.agg #[.int .i64 r.gates, .int .i64 r.frm, .int .i64 r.til, .slice A r.ahead.length c, .slice T r.turns.length d]) _ r (-1) l W h h2
  cases hcb : checkB r
  · have e1 : costE r l = 70 := by simp [costE, turnsE, checkE, hcb]
    have e2 : costV r l = 0 := by simp [costV, turnsE, checkE, hcb]
    rw [e1, e2]
    simp only [hcb] at hval
    clear e1 e2 hcb hdif hL H4
    go_enter Tryz.func55, Tryz.ntmps55
    go_wp2_with (first | ((with_reducible refine gate_dst (N := 2) rfl ?_); refine box_event ?hg (N := 2) ?hd (cs := (rosC r A c T d)) (t := 25) ?hr ?_; (case hd => rfl); (case hg => rfl); (case hr => first | (go_simp; done) | (go_simp; rfl)); intro g hg_ wb hbox_ hb_; have BK := Aside0.mk hbox_; have HB := Aside0.mk hb_; obtain ⟨q0, q1, q2, q3, q4⟩ := rosC_cells BK.out; clear hbox_ hb_ hg_) | (go_at_call 34; (with_reducible refine (hval _ (hR.out.below HB.out)).mono ?_); rintro e wb ⟨rfl, hb_⟩; replace HB := Aside0.mk (below_step HB.out hb_); replace BK := Aside0.mk (blk_below BK.out hb_); clear q0 q1 q2 q3 q4; obtain ⟨q0, q1, q2, q3, q4⟩ := rosC_cells BK.out; clear hb_))
    go_ret2
    exact ⟨rfl, HB.out⟩
  · have V := (checkB_iff r).1 hcb
    simp only [hcb] at hval
    rw [diffRB_neg] at hdif
    cases hdd : (!(l.any (outB r)) && diffB l)
    · have e0 : costE r l = 1 ∧ costV r l = 0 := by
        unfold costE costV turnsE checkE
        rw [hcb]
        cases ho : l.any (outB r)
        · rw [ho] at hdd
          have : diffB l = false := by simpa using hdd
          rw [this]
          exact ⟨rfl, rfl⟩
        · exact ⟨rfl, rfl⟩
      rw [e0.1, e0.2]
      simp only [hdd] at hdif
      clear e0 hdd hcb V hL H4
      go_enter Tryz.func55, Tryz.ntmps55
      go_wp2_with (first | ((with_reducible refine gate_dst (N := 2) rfl ?_); refine box_event ?hg (N := 2) ?hd (cs := (rosC r A c T d)) (t := 25) ?hr ?_; (case hd => rfl); (case hg => rfl); (case hr => first | (go_simp; done) | (go_simp; rfl)); intro g hg_ wb hbox_ hb_; have BK := Aside0.mk hbox_; have HB := Aside0.mk hb_; obtain ⟨q0, q1, q2, q3, q4⟩ := rosC_cells BK.out; clear hbox_ hb_ hg_) | (go_at_call 34; (with_reducible refine (hval _ (hR.out.below HB.out)).mono ?_); rintro e wb ⟨rfl, hb_⟩; replace HB := Aside0.mk (below_step HB.out hb_); replace BK := Aside0.mk (blk_below BK.out hb_); clear q0 q1 q2 q3 q4; obtain ⟨q0, q1, q2, q3, q4⟩ := rosC_cells BK.out; clear hb_) | (go_at_call 100; (with_reducible refine (hdif _ (hR.out.below HB.out) (HL.out.below HB.out)).mono ?_); rintro e wb ⟨rfl, hb_⟩; replace HB := Aside0.mk (below_step HB.out hb_); replace BK := Aside0.mk (blk_below BK.out hb_); clear q0 q1 q2 q3 q4; obtain ⟨q0, q1, q2, q3, q4⟩ := rosC_cells BK.out; clear hb_))
      go_ret2
      exact ⟨rfl, HB.out⟩
    · obtain ⟨ho, hd⟩ := Bool.and_eq_true_iff.1 hdd
      rw [Bool.not_eq_true'] at ho
      have e0 : costE r l = 0 ∧ costV r l = costL r l := by
        unfold costE costV turnsE checkE
        rw [hcb, ho, hd]
        exact ⟨rfl, rfl⟩
      rw [e0.1, e0.2]
      simp only [hdd] at hdif
      have HV := Aside0.mk V
      have HI := Aside0.mk (outB_all ho)
      have hlen : l.length ≤ 24 := by have := diff_len hd (outB_all ho); have := V.turns; omega
      have HF : Aside0 (costN r l l.length = costL r l) := ⟨by unfold costN costL; rw [List.take_length]⟩
      have HZ : Aside0 (costN r l 0 = 0) := ⟨rfl⟩
      clear e0 hdd hcb V ho hd
      go_enter Tryz.func55, Tryz.ntmps55
      go_wp2_with (first | ((with_reducible refine gate_dst (N := 2) rfl ?_); refine box_event ?hg (N := 2) ?hd (cs := (rosC r A c T d)) (t := 25) ?hr ?_; (case hd => rfl); (case hg => rfl); (case hr => first | (go_simp; done) | (go_simp; rfl)); intro g hg_ wb hbox_ hb_; have BK := Aside0.mk hbox_; have HB := Aside0.mk hb_; obtain ⟨q0, q1, q2, q3, q4⟩ := rosC_cells BK.out; clear hbox_ hb_ hg_) | (go_at_call 34; (with_reducible refine (hval _ (hR.out.below HB.out)).mono ?_); rintro e wb ⟨rfl, hb_⟩; replace HB := Aside0.mk (below_step HB.out hb_); replace BK := Aside0.mk (blk_below BK.out hb_); clear q0 q1 q2 q3 q4; obtain ⟨q0, q1, q2, q3, q4⟩ := rosC_cells BK.out; clear hb_) | (go_at_call 100; (with_reducible refine (hdif _ (hR.out.below HB.out) (HL.out.below HB.out)).mono ?_); rintro e wb ⟨rfl, hb_⟩; replace HB := Aside0.mk (below_step HB.out hb_); replace BK := Aside0.mk (blk_below BK.out hb_); clear q0 q1 q2 q3 q4; obtain ⟨q0, q1, q2, q3, q4⟩ := rosC_cells BK.out; clear hb_))
      clear q0 q1 q2 q3 q4 hval hdif
      go_loopw [6, 7] (fun s i wr => ∃ k : Nat, k ≤ l.length ∧ i = .int .i64 k ∧ s = .int .i64 (costN r l k) ∧ Aside0 (wr.heap[g]? = some (.cells (rosC r A c T d) 25 (0, 0))) ∧ Aside0 (Below w.heap.size w wr)) (fun _ i _ => l.length - (intOf i).toNat)
      case atStart => exact ⟨0, Nat.zero_le _, rfl, by rw [HZ.out], BK, HB⟩
      case round =>
        clear BK HB
        obtain ⟨k, hk, rfl, rfl, BK, HB⟩ := hrel
        have hbd := costN_bd r HV.out l HI.out k hk
        obtain ⟨s0, s1⟩ := hbd
        by_cases hlt : k < l.length
        · obtain ⟨ad, hAd, g4⟩ := CI_at (Kd.C_below hL.out HB.out) k (by omega) (by omega)
          cases hAd
          rw [show ((k : Nat) : Int).toNat = k from rfl] at g4
          have hm := HI.out _ (mem_getD l k hlt)
          have HS := Aside0.mk (costN_succ r l k hlt)
          generalize l.getD k 0 = y at *
          generalize costN r l k = s at *
          obtain ⟨y0, y1⟩ := hm
          obtain ⟨ad', hAd', t0, t1, t2, t3, t4, t5⟩ := CT_at (Kd.C_below H4.out HB.out) y y0 y1
          cases hAd'
          have HT : Aside0 (r.turns.getD y.toNat Trn.z = tn r y) := ⟨rfl⟩
          rw [HT.out] at t0 t1 t2 t3 t4 t5
          clear HT
          have vt := HV.out.turn y y0 y1
          have vc0 := vt.2.2.2.2.2.1
          have vc1 := vt.2.2.2.2.2.2
          clear vt
          obtain ⟨q0, q1, q2, q3, q4⟩ := rosC_cells BK.out
          have ik0 : (0 : Int) ≤ (k : Int) := by omega
          have ik1 : (k : Int) < (l.length : Int) := by omega
          have hw : IntKind.i64.wrap (s + (tn r y).cost) = s + (tn r y).cost := IntWalk.i64_in _ (by omega)
          go_wp2_with fail
          go_quiet (fail)
          go_wp2
          go_roundw
          case rel => exact ⟨k + 1, by omega, by go_num, by rw [HS.out], ⟨blk_drewN BK.out _⟩, ⟨pw_below_drewN HB.out _⟩⟩
          case measure => simp [intOf]; omega
        · have hkn : k = l.length := by omega
          rw [hkn, HF.out]
          go_wp2
          go_ret2
          exact ⟨rfl, HB.out⟩
end Go.Proofs.YtflolfbkpjgjaaaGreatDoor
end
section
namespace Go.Proofs.YtflolfbkpjgjaaaGreatDoor
open Go.RowKit Go.Proofs.YtflolfbkpjgjaaaGreatDoorW.PrintWords
open Go.Proofs.YtflolfbkpjgjaaaGreatDoorW.PrintMore
open Go.Deep
def o9_5_0 : Oper := { dst := some 37, op := Op.load 25 (Operand.tmp 5), type := 25, pos := "law.go:62", after := #[], guard := none }
def o9_5_1 : Oper := { dst := some 38, op := Op.call { callee := Callee.value (Operand.func 48), args := #[Operand.tmp 37], argTypes := #[25] }, type := 29, pos := "law.go:62", after := #[{ on := 0, ground := Ground.data }], guard := none }
def o9_5_2 : Oper := { dst := some 39, op := Op.load 25 (Operand.tmp 5), type := 25, pos := "law.go:62", after := #[], guard := none }
def o9_5_3 : Oper := { dst := some 40, op := Op.call { callee := Callee.value (Operand.func 49), args := #[Operand.tmp 39], argTypes := #[25] }, type := 29, pos := "law.go:62", after := #[{ on := 2, ground := Ground.data }, { on := 1, ground := Ground.chain }], guard := none }
def o9_5_4 : Oper := { dst := some 41, op := Op.binOp BinOp.neq 29 (Operand.tmp 38) (Operand.tmp 40) 29, type := 4, pos := "law.go:62", after := #[{ on := 1, ground := Ground.data }, { on := 3, ground := Ground.data }], guard := none }
theorem whoR0_calls {v lv : Value} {r : Ros} {shown : List Int} {w : World} (hv : RosAt w v r) (hl : IntsAt w lv shown) : Calls Tryz.prog 53 #[v, lv] w fun e w' => ∃ ov, e = .returned (.tuple #[ov, .int .i64 (whoE r shown)]) ∧ IntsAt w' ov (whoO r shown) ∧ Below w.heap.size w w' := by
  refine (whoR_calls v lv r shown w hv hl).mono ?_
  rintro e w' ⟨lv, rfl, ho, hb⟩
  exact ⟨lv, rfl, intsAt_of_own ho, hb⟩
set_option maxHeartbeats 60000000 in
set_option maxRecDepth 100000 in
theorem turns9_calls (v sv lv : Value) (r : Ros) (i j : Int) (shown l : List Int) (w : World) (hT : TabP w) (hv : RosAt w v r) (hs : IntsAt w sv shown) (hl : IntsAt w lv l) :
    Calls Tryz.prog 9 #[v, .int .i64 i, .int .i64 j, sv, lv] w fun e w' => e = .returned (.bool true) ∧ Below w.heap.size w w' := by
  have HT := Aside0.mk hT
  obtain ⟨A, c, T, d, rfl, h1, h2, h3, h4⟩ := hv
  have hR : Aside0 (RosAt w (.agg #[.int .i64 r.gates, .int .i64 r.frm, .int .i64 r.til, .slice A r.ahead.length c, .slice T r.turns.length d]) r) := ⟨⟨A, c, T, d, rfl, h1, h2, h3, h4⟩⟩
  obtain ⟨S1, s1, rfl, i1, i2⟩ := hs
  have HS : Aside0 (IntsAt w (.slice S1 shown.length s1) shown) := ⟨⟨S1, s1, rfl, i1, i2⟩⟩
  clear i1 i2
  obtain ⟨A1, c1, rfl, i1, i2⟩ := hl
  have HL : Aside0 (IntsAt w (.slice A1 l.length c1) l) := ⟨⟨A1, c1, rfl, i1, i2⟩⟩
  clear i1 i2
  clear hT h1 h2 h3 h4
  have hfew := fun W (h : RosAt W (.agg #[.int .i64 r.gates, .int .i64 r.frm, .int .i64 r.til, .slice A r.ahead.length c, .slice T r.turns.length d]) r) (h2 : IntsAt W (.slice S1 shown.length s1) shown) (h3 : IntsAt W (.slice A1 l.length c1) l) => few2_calls (.agg #[.int .i64 r.gates, .int .i64 r.frm, .int .i64 r.til, .slice A r.ahead.length c, .slice T r.turns.length d]) _ _ r shown l W h h2 h3
  cases hf : fewB r [shown, l]
  · simp only [hf] at hfew
    clear hf
    go_enter Tryz.func9, Tryz.ntmps9
    go_wp2_with (first | ((with_reducible refine gate_dst (N := 5) rfl ?_); refine box_event ?hg (N := 5) ?hd (cs := (rosC r A c T d)) (t := 25) ?hr ?_; (case hd => rfl); (case hg => rfl); (case hr => first | (go_simp; done) | (go_simp; rfl)); intro g hg_ wb hbox_ hb_; have BK := Aside0.mk hbox_; have HB := Aside0.mk hb_; obtain ⟨q0, q1, q2, q3, q4⟩ := rosC_cells BK.out; clear hbox_ hb_ hg_) | (go_at_call 17; refine (sane_calls _ (HT.out.below HB.out)).mono ?_; rintro e wb ⟨rfl, hb_⟩; replace HB := Aside0.mk (below_step HB.out hb_); replace BK := Aside0.mk (blk_below BK.out hb_); (try (replace LX := Aside0.mk (LX.out.below hb_))); (try (replace LY := Aside0.mk (LY.out.below hb_))); clear q0 q1 q2 q3 q4; obtain ⟨q0, q1, q2, q3, q4⟩ := rosC_cells BK.out; clear hb_) | (go_at_call 18; (with_reducible refine (hfew _ (hR.out.below HB.out) (HS.out.below HB.out) (HL.out.below HB.out)).mono ?_); rintro e wb ⟨rfl, hb_⟩; replace hb_ := below_al hb_; replace HB := Aside0.mk (below_step HB.out hb_); replace BK := Aside0.mk (blk_below BK.out hb_); (try (replace LX := Aside0.mk (LX.out.below hb_))); (try (replace LY := Aside0.mk (LY.out.below hb_))); clear q0 q1 q2 q3 q4; obtain ⟨q0, q1, q2, q3, q4⟩ := rosC_cells BK.out; clear hb_))
    go_ret
    exact ⟨rfl, HB.out⟩
  · simp only [hf] at hfew
    clear hf
    have hck := fun W (h : RosAt W (.agg #[.int .i64 r.gates, .int .i64 r.frm, .int .i64 r.til, .slice A r.ahead.length c, .slice T r.turns.length d]) r) => check_calls (.agg #[.int .i64 r.gates, .int .i64 r.frm, .int .i64 r.til, .slice A r.ahead.length c, .slice T r.turns.length d]) r W h
    have hckR := fun W (h : RosAt W (.agg #[.int .i64 r.gates, .int .i64 r.frm, .int .i64 r.til, .slice A r.ahead.length c, .slice T r.turns.length d]) r) => checkR_calls (.agg #[.int .i64 r.gates, .int .i64 r.frm, .int .i64 r.til, .slice A r.ahead.length c, .slice T r.turns.length d]) r W h
    have hb := fun W (h : RosAt W (.agg #[.int .i64 r.gates, .int .i64 r.frm, .int .i64 r.til, .slice A r.ahead.length c, .slice T r.turns.length d]) r) => begins_calls (.agg #[.int .i64 r.gates, .int .i64 r.frm, .int .i64 r.til, .slice A r.ahead.length c, .slice T r.turns.length d]) r i W h
    have hbR := fun W (h : RosAt W (.agg #[.int .i64 r.gates, .int .i64 r.frm, .int .i64 r.til, .slice A r.ahead.length c, .slice T r.turns.length d]) r) => beginsR_calls (.agg #[.int .i64 r.gates, .int .i64 r.frm, .int .i64 r.til, .slice A r.ahead.length c, .slice T r.turns.length d]) r i W h
    have he := fun W (h : RosAt W (.agg #[.int .i64 r.gates, .int .i64 r.frm, .int .i64 r.til, .slice A r.ahead.length c, .slice T r.turns.length d]) r) => ends_calls (.agg #[.int .i64 r.gates, .int .i64 r.frm, .int .i64 r.til, .slice A r.ahead.length c, .slice T r.turns.length d]) r i W h
    have heR := fun W (h : RosAt W (.agg #[.int .i64 r.gates, .int .i64 r.frm, .int .i64 r.til, .slice A r.ahead.length c, .slice T r.turns.length d]) r) => endsR_calls (.agg #[.int .i64 r.gates, .int .i64 r.frm, .int .i64 r.til, .slice A r.ahead.length c, .slice T r.turns.length d]) r i W h
    have hm := fun W (h : RosAt W (.agg #[.int .i64 r.gates, .int .i64 r.frm, .int .i64 r.til, .slice A r.ahead.length c, .slice T r.turns.length d]) r) => meets_calls (.agg #[.int .i64 r.gates, .int .i64 r.frm, .int .i64 r.til, .slice A r.ahead.length c, .slice T r.turns.length d]) r i j W h
    have hmR := fun W (h : RosAt W (.agg #[.int .i64 r.gates, .int .i64 r.frm, .int .i64 r.til, .slice A r.ahead.length c, .slice T r.turns.length d]) r) => meetsR_calls (.agg #[.int .i64 r.gates, .int .i64 r.frm, .int .i64 r.til, .slice A r.ahead.length c, .slice T r.turns.length d]) r i j W h
    have hw := fun W (h : RosAt W (.agg #[.int .i64 r.gates, .int .i64 r.frm, .int .i64 r.til, .slice A r.ahead.length c, .slice T r.turns.length d]) r) (h2 : IntsAt W (.slice S1 shown.length s1) shown) => who0_calls h h2
    have hwR := fun W (h : RosAt W (.agg #[.int .i64 r.gates, .int .i64 r.frm, .int .i64 r.til, .slice A r.ahead.length c, .slice T r.turns.length d]) r) (h2 : IntsAt W (.slice S1 shown.length s1) shown) => whoR0_calls h h2
    have hc := fun W (h : RosAt W (.agg #[.int .i64 r.gates, .int .i64 r.frm, .int .i64 r.til, .slice A r.ahead.length c, .slice T r.turns.length d]) r) (h2 : IntsAt W (.slice A1 l.length c1) l) => costOf_calls (.agg #[.int .i64 r.gates, .int .i64 r.frm, .int .i64 r.til, .slice A r.ahead.length c, .slice T r.turns.length d]) _ r l W h h2
    have hcR := fun W (h : RosAt W (.agg #[.int .i64 r.gates, .int .i64 r.frm, .int .i64 r.til, .slice A r.ahead.length c, .slice T r.turns.length d]) r) (h2 : IntsAt W (.slice A1 l.length c1) l) => costR_calls (.agg #[.int .i64 r.gates, .int .i64 r.frm, .int .i64 r.til, .slice A r.ahead.length c, .slice T r.turns.length d]) _ r l W h h2
    generalize beginsV r i = x1 at *
    generalize endsV r i = x2 at *
    generalize meetsV r i j = x3 at *
    generalize turnsE r [i] = x4 at *
    generalize turnsE r [i, j] = x5 at *
    generalize checkE r = x6 at *
    generalize costV r l = x7 at *
    generalize costE r l = x8 at *
    generalize whoE r shown = x9 at *
    generalize whoO r shown = X at *
    have n1 : (x1 != x1) = false := bne_self_eq_false _
    have n2 : (x2 != x2) = false := bne_self_eq_false _
    have n3 : (x3 != x3) = false := bne_self_eq_false _
    have n4 : (x4 != x4) = false := bne_self_eq_false _
    have n5 : (x5 != x5) = false := bne_self_eq_false _
    have n6 : (x6 != x6) = false := bne_self_eq_false _
    have m7 : (x7 == x7) = true := beq_self_eq_true _
    have m8 : (x8 == x8) = true := beq_self_eq_true _
    have m9 : (x9 == x9) = true := beq_self_eq_true _
    go_enter Tryz.func9, Tryz.ntmps9
    go_upto_region 5 with (first | ((with_reducible refine gate_dst (N := 5) rfl ?_); refine box_event ?hg (N := 5) ?hd (cs := (rosC r A c T d)) (t := 25) ?hr ?_; (case hd => rfl); (case hg => rfl); (case hr => first | (go_simp; done) | (go_simp; rfl)); intro g hg_ wb hbox_ hb_; have BK := Aside0.mk hbox_; have HB := Aside0.mk hb_; obtain ⟨q0, q1, q2, q3, q4⟩ := rosC_cells BK.out; clear hbox_ hb_ hg_) | (go_at_call 17; refine (sane_calls _ (HT.out.below HB.out)).mono ?_; rintro e wb ⟨rfl, hb_⟩; replace HB := Aside0.mk (below_step HB.out hb_); replace BK := Aside0.mk (blk_below BK.out hb_); (try (replace LX := Aside0.mk (LX.out.below hb_))); (try (replace LY := Aside0.mk (LY.out.below hb_))); clear q0 q1 q2 q3 q4; obtain ⟨q0, q1, q2, q3, q4⟩ := rosC_cells BK.out; clear hb_) | (go_at_call 18; (with_reducible refine (hfew _ (hR.out.below HB.out) (HS.out.below HB.out) (HL.out.below HB.out)).mono ?_); rintro e wb ⟨rfl, hb_⟩; replace hb_ := below_al hb_; replace HB := Aside0.mk (below_step HB.out hb_); replace BK := Aside0.mk (blk_below BK.out hb_); (try (replace LX := Aside0.mk (LX.out.below hb_))); (try (replace LY := Aside0.mk (LY.out.below hb_))); clear q0 q1 q2 q3 q4; obtain ⟨q0, q1, q2, q3, q4⟩ := rosC_cells BK.out; clear hb_))
    go_cut [41] from 37 to 41 (fun s wx => s = .bool false ∧ Aside0 (wx.heap[g]? = some (.cells (rosC r A c T d) 25 (0, 0))) ∧ Aside0 (Below w.heap.size w wx))
    case first =>
      have HSW : Aside0 (∀ W, Below wb.heap.size wb W → (fun w' => w'.cell? ⟨g, 0, none⟩ = some (.int .i64 r.gates) ∧ w'.cell? ⟨g, 1, none⟩ = some (.int .i64 r.frm) ∧ w'.cell? ⟨g, 2, none⟩ = some (.int .i64 r.til) ∧ w'.cell? ⟨g, 3, none⟩ = some (.slice A r.ahead.length c) ∧ w'.cell? ⟨g, 4, none⟩ = some (.slice T r.turns.length d)) W) := ⟨fun W h => rosC_cells (blk_below BK.out h)⟩
      clear q0 q1 q2 q3 q4
      refine wp_region_held_drew (S := (fun w' => w'.cell? ⟨g, 0, none⟩ = some (.int .i64 r.gates) ∧ w'.cell? ⟨g, 1, none⟩ = some (.int .i64 r.frm) ∧ w'.cell? ⟨g, 2, none⟩ = some (.int .i64 r.til) ∧ w'.cell? ⟨g, 3, none⟩ = some (.slice A r.ahead.length c) ∧ w'.cell? ⟨g, 4, none⟩ = some (.slice T r.turns.length d))) (by kernel_rfl) ?_ (fun hH0 => ?_)
      · exact HSW.out _ (below_drew (Below.refl _ _))
      refine tk 0 (oi := o9_5_0) (v := ?_) rfl (by kernel_rfl) (fun _ _ _ h => h) (by rfl) ?_ hH0 ?_
      rotate_left
      · (intro w hSw; (try dsimp only at hSw); unfold o9_5_0; go_simp <;> (with_reducible rfl))
      simp only [Act.put, o9_5_0, List.setIfInBounds_toArray, List.set_cons_zero, List.set_cons_succ]
      refine tk 2 (oi := o9_5_2) (v := ?_) rfl (by kernel_rfl) (fun _ _ _ h => h) (by rfl) ?_ hH0 ?_
      rotate_left
      · (intro w hSw; (try dsimp only at hSw); unfold o9_5_2; go_simp <;> (with_reducible rfl))
      simp only [Act.put, o9_5_2, List.setIfInBounds_toArray, List.set_cons_zero, List.set_cons_succ]
      refine wpAnyH_ready (rs := [1]) (by kernel_rfl) (by simp) (AllReadyH.cons (o := o9_5_1) rfl (fun K' hK' => ?_) AllReadyH.nil)
      unfold o9_5_1
      go_simp
      go_at_call 48; refine (hck _ (hR.out.below (below_drew HB.out))).mono ?_; rintro e ww ⟨rfl, hb_⟩; have HX := Aside0.mk (below_step (below_drew (Below.refl _ wb)) hb_); have hk_ := HSW.out _ HX.out; clear hb_
      refine hK'.out _ _ (by exact hk_) (fun hH1 => ?_)
      clear hK' K'
      try simp only [Act.put, List.setIfInBounds_toArray, List.set_cons_zero, List.set_cons_succ]
      refine wpAnyH_ready (rs := [3]) (by kernel_rfl) (by simp) (AllReadyH.cons (o := o9_5_3) rfl (fun K' hK' => ?_) AllReadyH.nil)
      unfold o9_5_3
      go_simp
      go_at_call 49; refine (hckR _ (hR.out.below (below_step HB.out HX.out))).mono ?_; rintro e ww ⟨rfl, hb_⟩; replace HX := Aside0.mk (below_step HX.out hb_); have hk_ := HSW.out _ HX.out; clear hb_
      refine hK'.out _ _ (by exact hk_) (fun hH2 => ?_)
      clear hK' K'
      try simp only [Act.put, List.setIfInBounds_toArray, List.set_cons_zero, List.set_cons_succ]
      refine tk 4 (oi := o9_5_4) (v := ?_) rfl (by kernel_rfl) (fun _ _ _ h => h) (by rfl) ?_ hH2 ?_
      rotate_left
      · (intro w hSw; (try dsimp only at hSw); unfold o9_5_4; go_simp <;> (with_reducible rfl))
      simp only [Act.put, o9_5_4, List.setIfInBounds_toArray, List.set_cons_zero, List.set_cons_succ]
      refine wpAnyH_done (by kernel_rfl) ?_ _
      clear HSW
      go_wp2_with fail
      go_meet
      case rel => exact ⟨by first | rfl | (rw [n6]; done) | (simp; done), ⟨blk_below BK.out HX.out⟩, ⟨below_step HB.out HX.out⟩⟩
    case rest =>
      clear HB BK hfew hck hckR
      obtain ⟨rfl, BK, HB⟩ := hcut
      obtain ⟨q0, q1, q2, q3, q4⟩ := rosC_cells BK.out
      go_wp2_with (first | (go_at_call 37; (with_reducible refine (hb _ (hR.out.below HB.out)).mono ?_); rintro e wb ⟨rfl, hb_⟩; replace HB := Aside0.mk (below_step HB.out hb_); replace BK := Aside0.mk (blk_below BK.out hb_); (try (replace LX := Aside0.mk (LX.out.below hb_))); (try (replace LY := Aside0.mk (LY.out.below hb_))); clear q0 q1 q2 q3 q4; obtain ⟨q0, q1, q2, q3, q4⟩ := rosC_cells BK.out; clear hb_) | (go_at_call 50; (with_reducible refine (hbR _ (hR.out.below HB.out)).mono ?_); rintro e wb ⟨rfl, hb_⟩; replace HB := Aside0.mk (below_step HB.out hb_); replace BK := Aside0.mk (blk_below BK.out hb_); (try (replace LX := Aside0.mk (LX.out.below hb_))); (try (replace LY := Aside0.mk (LY.out.below hb_))); clear q0 q1 q2 q3 q4; obtain ⟨q0, q1, q2, q3, q4⟩ := rosC_cells BK.out; clear hb_) | (go_at_call 38; (with_reducible refine (he _ (hR.out.below HB.out)).mono ?_); rintro e wb ⟨rfl, hb_⟩; replace HB := Aside0.mk (below_step HB.out hb_); replace BK := Aside0.mk (blk_below BK.out hb_); (try (replace LX := Aside0.mk (LX.out.below hb_))); (try (replace LY := Aside0.mk (LY.out.below hb_))); clear q0 q1 q2 q3 q4; obtain ⟨q0, q1, q2, q3, q4⟩ := rosC_cells BK.out; clear hb_) | (go_at_call 51; (with_reducible refine (heR _ (hR.out.below HB.out)).mono ?_); rintro e wb ⟨rfl, hb_⟩; replace HB := Aside0.mk (below_step HB.out hb_); replace BK := Aside0.mk (blk_below BK.out hb_); (try (replace LX := Aside0.mk (LX.out.below hb_))); (try (replace LY := Aside0.mk (LY.out.below hb_))); clear q0 q1 q2 q3 q4; obtain ⟨q0, q1, q2, q3, q4⟩ := rosC_cells BK.out; clear hb_) | (go_at_call 39; (with_reducible refine (hm _ (hR.out.below HB.out)).mono ?_); rintro e wb ⟨rfl, hb_⟩; replace HB := Aside0.mk (below_step HB.out hb_); replace BK := Aside0.mk (blk_below BK.out hb_); (try (replace LX := Aside0.mk (LX.out.below hb_))); (try (replace LY := Aside0.mk (LY.out.below hb_))); clear q0 q1 q2 q3 q4; obtain ⟨q0, q1, q2, q3, q4⟩ := rosC_cells BK.out; clear hb_) | (go_at_call 52; (with_reducible refine (hmR _ (hR.out.below HB.out)).mono ?_); rintro e wb ⟨rfl, hb_⟩; replace HB := Aside0.mk (below_step HB.out hb_); replace BK := Aside0.mk (blk_below BK.out hb_); (try (replace LX := Aside0.mk (LX.out.below hb_))); (try (replace LY := Aside0.mk (LY.out.below hb_))); clear q0 q1 q2 q3 q4; obtain ⟨q0, q1, q2, q3, q4⟩ := rosC_cells BK.out; clear hb_) | (go_at_call 41; (with_reducible refine (hw _ (hR.out.below HB.out) (HS.out.below HB.out)).mono ?_); rintro e wb ⟨xv, rfl, hl_, hb_⟩; replace HB := Aside0.mk (below_step HB.out hb_); replace BK := Aside0.mk (blk_below BK.out hb_); (try (replace LX := Aside0.mk (LX.out.below hb_))); (try (replace LY := Aside0.mk (LY.out.below hb_))); clear q0 q1 q2 q3 q4; obtain ⟨q0, q1, q2, q3, q4⟩ := rosC_cells BK.out; obtain ⟨ALX, cLX, rfl, z1, z2⟩ := hl_; have LX : Aside0 (IntsAt wb (.slice ALX _ cLX) _) := ⟨⟨ALX, cLX, rfl, z1, z2⟩⟩; clear z1 z2; clear hb_) | (go_at_call 53; (with_reducible refine (hwR _ (hR.out.below HB.out) (HS.out.below HB.out)).mono ?_); rintro e wb ⟨yv, rfl, hl_, hb_⟩; replace HB := Aside0.mk (below_step HB.out hb_); replace BK := Aside0.mk (blk_below BK.out hb_); (try (replace LX := Aside0.mk (LX.out.below hb_))); (try (replace LY := Aside0.mk (LY.out.below hb_))); clear q0 q1 q2 q3 q4; obtain ⟨q0, q1, q2, q3, q4⟩ := rosC_cells BK.out; obtain ⟨ALY, cLY, rfl, z1, z2⟩ := hl_; have LY : Aside0 (IntsAt wb (.slice ALY _ cLY) _) := ⟨⟨ALY, cLY, rfl, z1, z2⟩⟩; clear z1 z2; clear hb_) | (go_at_call 54; (with_reducible refine (hc _ (hR.out.below HB.out) (HL.out.below HB.out)).mono ?_); rintro e wb ⟨rfl, hb_⟩; replace HB := Aside0.mk (below_step HB.out hb_); replace BK := Aside0.mk (blk_below BK.out hb_); (try (replace LX := Aside0.mk (LX.out.below hb_))); (try (replace LY := Aside0.mk (LY.out.below hb_))); clear q0 q1 q2 q3 q4; obtain ⟨q0, q1, q2, q3, q4⟩ := rosC_cells BK.out; clear hb_) | (go_at_call 55; (with_reducible refine (hcR _ (hR.out.below HB.out) (HL.out.below HB.out)).mono ?_); rintro e wb ⟨rfl, hb_⟩; replace HB := Aside0.mk (below_step HB.out hb_); replace BK := Aside0.mk (blk_below BK.out hb_); (try (replace LX := Aside0.mk (LX.out.below hb_))); (try (replace LY := Aside0.mk (LY.out.below hb_))); clear q0 q1 q2 q3 q4; obtain ⟨q0, q1, q2, q3, q4⟩ := rosC_cells BK.out; clear hb_) | (go_at_call 25; refine (eqs_calls LX.out LY.out (decide_eq_true rfl)).mono ?_; rintro e wb ⟨rfl, hb_⟩; replace HB := Aside0.mk (below_step HB.out hb_); replace BK := Aside0.mk (blk_below BK.out hb_); (try (replace LX := Aside0.mk (LX.out.below hb_))); (try (replace LY := Aside0.mk (LY.out.below hb_))); clear q0 q1 q2 q3 q4; obtain ⟨q0, q1, q2, q3, q4⟩ := rosC_cells BK.out; clear hb_))
      go_ret
      exact ⟨rfl, HB.out⟩
end Go.Proofs.YtflolfbkpjgjaaaGreatDoor
end
section
namespace Go.Proofs.YtflolfbkpjgjaaaGreatDoor
open Go.RowKit Go.Proofs.YtflolfbkpjgjaaaGreatDoorW.PrintWords
namespace watchTurns
open Go.ChangeShapes Go.WideShapes Go.ChangeAt
theorem own : ownKnob Tryz.prog.godebug = none := by kernel_rfl
theorem laidOut : laidOutB Tryz.prog = true := by kernel_rfl
set_option maxRecDepth 100000 in
theorem contract (H : Type) (enc : TypeId × Value → H) (W : World) (base : Nat) (args : Array Value) (ds gs : List (DataW H)) (before : List MemPlace)
    (hval : ∀ (j : Nat) t v, Tryz.f9.params[j]? = some t → args[j]? = some v → Value.okWide Tryz.prog W .any base t v)
    (hW : DataW.Whole enc Tryz.prog Tryz.f9.params.toList Rows.watchTurnsSpec.vars false W args.toList ds gs before) (hL : laidMetH Tryz.prog Rows.watchTurnsRow.laid W) :
    Calls Tryz.prog 9 args W fun e W' => ∃ v, e = .returned v ∧ Rows.watchTurnsSpec.post enc Tryz.prog Tryz.f9 false true false false W args v W' := by
  have hW' := hW
  obtain ⟨p, q, hA0, hV, rfl, hfz, hnd⟩ := hW
  have hA : DataW.TrodAll enc Tryz.prog W 0 (fun _ => true) true Tryz.f9.params.toList args.toList ds p := hA0
  rw [Tryz.params9] at hA hval
  obtain ⟨v0, vs0, d0, ds0, p0, q0, hargs, rfl, rfl, h0, r0_⟩ := trodAll_cons hA
  obtain ⟨v1, vs1, d1, ds1, p1, q1, rfl, rfl, rfl, h1, r1_⟩ := trodAll_cons r0_
  obtain ⟨v2, vs2, d2, ds2, p2, q2, rfl, rfl, rfl, h2, r2_⟩ := trodAll_cons r1_
  obtain ⟨v3, vs3, d3, ds3, p3, q3, rfl, rfl, rfl, h3, r3_⟩ := trodAll_cons r2_
  obtain ⟨v4, vs4, d4, ds4, p4, q4, rfl, rfl, rfl, h4, r4_⟩ := trodAll_cons r3_
  obtain ⟨rfl, rfl, rfl⟩ := trodAll_nil r4_
  obtain rfl : args = #[v0, v1, v2, v3, v4] := by cases args; simp_all
  obtain ⟨rfl, rfl⟩ := trodVars_none hV
  have k0 := h0
  have lt0 : ∀ x ∈ p0, x.block < W.heap.size := by obtain ⟨m, hm⟩ := k0; exact DataW.trod_lt m _ _ _ hm
  obtain ⟨r0, hr0⟩ := open_ros (hval 0 25 v0 rfl rfl) h0
  obtain ⟨a1, rfl, rfl, rfl, w1⟩ := open_int Tryz.underlying3 (hval 1 3 v1 rfl rfl) h1
  obtain ⟨a2, rfl, rfl, rfl, w2⟩ := open_int Tryz.underlying3 (hval 2 3 v2 rfl rfl) h2
  have k3 := h3
  have lt3 : ∀ x ∈ p3, x.block < W.heap.size := by obtain ⟨m, hm⟩ := k3; exact DataW.trod_lt m _ _ _ hm
  obtain ⟨l3, hr3⟩ := open_intsAt (hval 3 26 v3 rfl rfl) h3
  have k4 := h4
  have lt4 : ∀ x ∈ p4, x.block < W.heap.size := by obtain ⟨m, hm⟩ := k4; exact DataW.trod_lt m _ _ _ hm
  obtain ⟨l4, hr4⟩ := open_intsAt (hval 4 26 v4 rfl rfl) h4
  clear hA0
  have hT : TabP W := laid_tab hL
  refine (turns9_calls v0 v3 v4 r0 a1 a2 l3 l4 W hT hr0 hr3 hr4).mono fun e W' ⟨he, bel⟩ => ?_
  subst he
  exact ⟨_, rfl, _, _, _, [], _, [], hW', trodAll_mk1 (shut_bool Tryz.underlying4 _), (trodAll_cons_mk (Below.trod laidOut (by kernel_rfl) (of_decide_eq_true (by kernel_rfl)) k0 bel lt0) (trodAll_cons_mk (shut_int Tryz.underlying3 w1) (trodAll_cons_mk (shut_int Tryz.underlying3 w2) (trodAll_cons_mk (Below.trod laidOut (by kernel_rfl) (of_decide_eq_true (by kernel_rfl)) k3 bel lt3) (trodAll_cons_mk (Below.trod laidOut (by kernel_rfl) (of_decide_eq_true (by kernel_rfl)) k4 bel lt4) trodAll_mk0))))), rfl, bel.frame _, fun h => by cases h⟩
noncomputable def laidWorld (os : Os) : World :=
  { World.holding Tryz.prog os ⟨#[], #[], []⟩ with heap := (((World.holding Tryz.prog os ⟨#[], #[], []⟩).heap.modify 6 (layC tab32)).modify 7 (layC tab64)).modify 2 (layC tab10) }
theorem laid_met (os : Os) : laidMet Tryz.prog Rows.watchTurnsRow.laid ((laidWorld os).forCall (fun _ _ => 0) ⟨#[], #[.agg #[.int .i64 0, .int .i64 0, .int .i64 0, .slice none 0 0, .slice none 0 0], .int .i64 0, .int .i64 0, .slice none 0 0, .slice none 0 0], []⟩).memory :=
  laidMet_of_run3 8 (by kernel_rfl) (by kernel_rfl) (by kernel_rfl)
theorem reads (os : Os) {H : Type} (enc : TypeId × Value → H) : ∃ places, DataW.whole enc Tryz.prog ((laidWorld os).forCall (fun _ _ => 0) ⟨#[], #[.agg #[.int .i64 0, .int .i64 0, .int .i64 0, .slice none 0 0, .slice none 0 0], .int .i64 0, .int .i64 0, .slice none 0 0, .slice none 0 0], []⟩).memory Tryz.f9.params.toList Rows.watchTurnsSpec.vars false #[Value.agg #[.int .i64 0, .int .i64 0, .int .i64 0, .slice none 0 0, .slice none 0 0], .int .i64 0, .int .i64 0, .slice none 0 0, .slice none 0 0].toList 8 = some ([.agg [.lit (.int .i64 0), .lit (.int .i64 0), .lit (.int .i64 0), .nil, .nil], .lit (.int .i64 0), .lit (.int .i64 0), .nil, .nil], [], places) :=
  ⟨[], by kernel_rfl⟩
set_option maxRecDepth 100000 in
theorem lifted (os : Os) (started : os.Started) (H : Type) (enc : TypeId × Value → H) (F : Stop.Interp) :
    ReturnsInHanded {} Tryz.checked os 9 .any ((OpenSpec.ofChange Rows.watchTurnsSpec).preRow enc Tryz.prog Tryz.f9 Rows.watchTurnsRow.domain false Rows.watchTurnsRow.laid) (((OpenSpec.ofChange Rows.watchTurnsSpec).at F).post enc Tryz.prog Tryz.f9 false true false false) := by
  obtain ⟨places, hx⟩ := reads os enc
  refine returnsInHanded_of_row (C := Tryz.checked) (s := OpenSpec.ofChange Rows.watchTurnsSpec) own started (by kernel_rfl) Tryz.func9
    (witness_row_at (enc := enc) (C := Tryz.checked) false (laidWorld os) #[.agg #[.int .i64 0, .int .i64 0, .int .i64 0, .slice none 0 0, .slice none 0 0], .int .i64 0, .int .i64 0, .slice none 0 0, .slice none 0 0] rfl (by kernel_rfl) (by kernel_rfl) (by kernel_rfl)
      (OpenSpec.preRow_of_cond 8 hx (by kernel_rfl) (fun k hk => by cases hk) (by kernel_rfl) (laid_met os))) ?_
  intro W base args ds gs before hval hW _ _ _ hL _ _
  exact contract H enc W base args ds gs before hval hW hL
theorem named : Tryz.pinned.checked.prog.funcNamed Rows.watchTurnsRow.func = some 9 := by kernel_rfl
set_option maxHeartbeats 8000000 in
theorem closed : joinedFacts Tryz.pinned.checked.prog 9 Tryz.f9 (OpenSpec.ofChange Rows.watchTurnsSpec).bare Rows.watchTurnsRow = true := by
  unfold joinedFacts
  repeat' (with_reducible refine band ?_ ?_)
  all_goals (as_aux_lemma => kernel_rfl)
theorem inst : Tryz.f9.isInstance Tryz.pinned.checked.prog Rows.watchTurnsRow.origin Rows.watchTurnsRow.targs := of_decide_eq_true (by kernel_rfl)
theorem said : Rows.WatchTurnsSaid :=
  OpenClaim.holds_of_cond 9 Tryz.f9 rfl rfl rfl rfl rfl rfl rfl ⟨rfl, rfl, rfl, rfl, rfl⟩ rfl rfl rfl rfl rfl named Tryz.func9 closed
    inst (by unfold Func.isWrapper; first | (rw [if_pos (by decide +kernel)]; kernel_rfl) | (rw [if_neg (by decide +kernel)]; exact ⟨rfl, rfl⟩))
    (fun os started H enc _ F => by rw [OpenClaim.pre_eq_preRow]; exact lifted os started H enc F)
theorem plain (f : FuncId) (fn : Func) (hf : Tryz.pinned.checked.prog.funcNamed "waterhour/waterhourlaw07.WatchTurns" = some f) (hfn : Tryz.pinned.checked.prog.funcs[f]? = some fn) :
    true = Tryz.pinned.checked.prog.looks [] ∧ ∀ (j : Nat) t, fn.params[j]? = some t → Tryz.pinned.checked.prog.wantsStandIn t = false := by
  obtain rfl : f = 9 := Option.some.inj ((show Tryz.prog.funcNamed "waterhour/waterhourlaw07.WatchTurns" = some 9 by kernel_rfl).symm.trans hf) |>.symm
  obtain rfl : fn = Tryz.f9 := (Option.some.inj (Tryz.func9.symm.trans hfn)).symm
  refine ⟨by kernel_rfl, fun j t ht => ?_⟩
  rw [Tryz.params9] at ht
  have hm := Array.mem_of_getElem? ht
  have hm2 : t ∈ ([25, 3, 3, 26, 26] : List Nat) := by simpa using hm
  have hall : ([25, 3, 3, 26, 26] : List Nat).all (fun t => Tryz.prog.wantsStandIn t == false) = true := by kernel_rfl
  rw [List.all_eq_true] at hall
  exact beq_iff_eq.1 (hall t hm2)
end watchTurns
theorem watchTurns_card : Rows.WatchTurnsCardSaid :=
  Claim7.holds_tied_plain_at .later [] _ _ _ _ watchTurns.said (fun _ h => by cases h) (by kernel_rfl) (fun _ h => by cases h) watchTurns_row_tie rfl ⟨rfl, rfl⟩ (by kernel_rfl) rfl watchTurns.plain (by kernel_rfl)
end Go.Proofs.YtflolfbkpjgjaaaGreatDoor
end
