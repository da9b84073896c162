/- What the proofs lean on, part 6: contracts of the functions that all the laws reach, and the plain words for them. -/
import Derived.Shelf.Strings.OnBuilder
import Derived.Shelf.LaysM
import Derived.Shelf.Strconv.Itoa3
import Derived.Shelf.Slices.Reverse
import Derived.Shelf.Slices.Cells
import Derived.Test.YtflolfbkpjgjaaaGreatDoorProg
import Derived.Lib.SmallJoins
import Derived.Lib.AppendIntMem
import Derived.Lib.ItoaLen
import Derived.Test.YtflolfbkpjgjaaaGreatDoorY5
set_option linter.unusedVariables false
set_option linter.unusedSimpArgs false
section
namespace Go.Proofs.YtflolfbkpjgjaaaGreatDoor
open Go.RowKit Go.Proofs.YtflolfbkpjgjaaaGreatDoorW.PrintWords
open Go.Proofs.YtflolfbkpjgjaaaGreatDoorW.PrintMore
def o30_6_0 : Oper := { dst := some 31, op := Op.fieldAddr 103 (Operand.tmp 11) 0, type := 0, pos := "plan.go:345", after := #[], guard := none }
def o30_6_1 : Oper := { dst := some 32, op := Op.load 26 (Operand.tmp 31), type := 26, pos := "plan.go:345", after := #[{ on := 0, ground := Ground.data }], guard := none }
def o30_6_2 : Oper := { dst := some 33, op := Op.fieldAddr 103 (Operand.tmp 11) 1, type := 0, pos := "plan.go:345", after := #[{ on := 10, ground := Ground.gcOnly Departure.lateStores }], guard := none }
def o30_6_3 : Oper := { dst := some 34, op := Op.load 26 (Operand.tmp 33), type := 26, pos := "plan.go:345", after := #[{ on := 2, ground := Ground.data }, { on := 10, ground := Ground.gcOnly Departure.lateStores }], guard := none }
def o30_6_4 : Oper := { dst := some 35, op := Op.fieldAddr 25 (Operand.tmp 3) 1, type := 0, pos := "plan.go:345", after := #[], guard := none }
def o30_6_5 : Oper := { dst := some 36, op := Op.load 3 (Operand.tmp 35), type := 3, pos := "plan.go:345", after := #[{ on := 4, ground := Ground.data }], guard := none }
def o30_6_6 : Oper := { dst := some 37, op := Op.fieldAddr 25 (Operand.tmp 3) 2, type := 0, pos := "plan.go:345", after := #[{ on := 10, ground := Ground.gcOnly Departure.lateStores }], guard := none }
def o30_6_7 : Oper := { dst := some 38, op := Op.load 3 (Operand.tmp 37), type := 3, pos := "plan.go:345", after := #[{ on := 6, ground := Ground.data }, { on := 10, ground := Ground.gcOnly Departure.lateStores }], guard := none }
def o30_6_8 : Oper := { dst := some 39, op := Op.binOp BinOp.sub 3 (Operand.tmp 38) (Operand.const (Value.int IntKind.i64 1)) 3, type := 3, pos := "plan.go:345", after := #[{ on := 7, ground := Ground.data }, { on := 10, ground := Ground.gcOnly Departure.lateStores }], guard := none }
def o30_6_9 : Oper := { dst := some 40, op := Op.indexAddr 26 (Operand.tmp 32) (Operand.const (Value.int IntKind.i64 0)), type := 0, pos := "plan.go:345", after := #[{ on := 1, ground := Ground.data }, { on := 0, ground := Ground.phase }, { on := 1, ground := Ground.phase }, { on := 2, ground := Ground.textOnly Departure.lateStores }, { on := 3, ground := Ground.textOnly Departure.lateStores }, { on := 4, ground := Ground.phase }, { on := 5, ground := Ground.phase }, { on := 6, ground := Ground.textOnly Departure.lateStores }, { on := 7, ground := Ground.textOnly Departure.lateStores }, { on := 8, ground := Ground.textOnly Departure.lateStores }], guard := none }
def o30_6_10 : Oper := { dst := none, op := Op.store 3 (Operand.tmp 40) (Operand.tmp 36), type := 0, pos := "plan.go:345", after := #[{ on := 9, ground := Ground.data }, { on := 5, ground := Ground.data }, { on := 0, ground := Ground.phase }, { on := 1, ground := Ground.phase }, { on := 2, ground := Ground.textOnly Departure.lateStores }, { on := 3, ground := Ground.textOnly Departure.lateStores }, { on := 4, ground := Ground.phase }, { on := 5, ground := Ground.phase }, { on := 6, ground := Ground.textOnly Departure.lateStores }, { on := 7, ground := Ground.textOnly Departure.lateStores }, { on := 8, ground := Ground.textOnly Departure.lateStores }], guard := none }
def o30_6_11 : Oper := { dst := some 41, op := Op.indexAddr 26 (Operand.tmp 34) (Operand.const (Value.int IntKind.i64 0)), type := 0, pos := "plan.go:345", after := #[{ on := 3, ground := Ground.data }, { on := 0, ground := Ground.phase }, { on := 1, ground := Ground.phase }, { on := 2, ground := Ground.phase }, { on := 3, ground := Ground.phase }, { on := 4, ground := Ground.phase }, { on := 5, ground := Ground.phase }, { on := 6, ground := Ground.phase }, { on := 7, ground := Ground.phase }, { on := 8, ground := Ground.phase }, { on := 9, ground := Ground.phase }, { on := 10, ground := Ground.phase }], guard := none }
def o30_6_12 : Oper := { dst := none, op := Op.store 3 (Operand.tmp 41) (Operand.tmp 39), type := 0, pos := "plan.go:345", after := #[{ on := 11, ground := Ground.data }, { on := 8, ground := Ground.data }, { on := 10, ground := Ground.chain }, { on := 0, ground := Ground.phase }, { on := 1, ground := Ground.phase }, { on := 2, ground := Ground.phase }, { on := 3, ground := Ground.phase }, { on := 4, ground := Ground.phase }, { on := 5, ground := Ground.phase }, { on := 6, ground := Ground.phase }, { on := 7, ground := Ground.phase }, { on := 8, ground := Ground.phase }, { on := 9, ground := Ground.phase }, { on := 10, ground := Ground.phase }], guard := none }
def bareO (r : Ros) (gate : Int) (l : List Int) : Option (List Int) := if bareE r gate l != 0 then none else idleP r.ahead (l.map (tcOf r)) (loL r.ahead.length r.frm) (hiL r.ahead.length r.til)
theorem filL_full (n : Nat) (x : Int) : filL n x n = nums .i64 (List.replicate n x) := by simp [filL]
theorem own_of_blk {w : World} {base g n : Nat} {xs : List Int} (h : w.heap[g]? = some (.cells (nums .i64 xs).toArray 3 (0, 0))) (hb : base ≤ g) (hn : xs.length = n) (hm : n ≤ 9223372036854775807) :
    w.ownsRow base 3 1 (.slice (some ⟨g, 0, none⟩) n n) n (nums .i64 xs) := by
  refine ⟨by simp [nums, hn], .inr ⟨g, n, _, rfl, hb, h, Nat.le_refl _, hm, by simp [nums, hn], ?_⟩⟩
  rw [List.take_of_length_le (by simp [nums, hn])]
theorem idle_calls : ∀ l, IdleSaid l
  | [] => idle_nil
  | x :: l => idle_cons x l (idle_calls l)
theorem cfar {w : World} {p a : Addr} {v u : Value} (h : w.cell? a = some v) (hp : p.block ≠ a.block) : (w.setCell p u).cell? a = some v := (World.cell?_setCell_far w p a u hp).trans h
theorem loL_nums (n : Nat) (frm : Int) : (nums .i64 (List.replicate n (-67108864))).toArray.setIfInBounds 0 (.int .i64 frm) = (nums .i64 (loL n frm)).toArray := by
  unfold loL nums
  rw [List.setIfInBounds_toArray, List.map_set]
theorem hiL_nums (n : Nat) (til : Int) : (nums .i64 (List.replicate n 67108864)).toArray.setIfInBounds 0 (.int .i64 (til - 1)) = (nums .i64 (hiL n til)).toArray := by
  unfold hiL nums
  rw [List.setIfInBounds_toArray, List.map_set]
theorem bndI_first {r : Ros} (V : Valid r) : BndI r (loL r.ahead.length r.frm) (hiL r.ahead.length r.til) := by
  have h1 := V.frm
  have h2 := V.frmtil
  have h3 := V.til
  refine ⟨by simp [loL], by simp [hiL], fun a ha => ?_, fun a ha => ?_⟩
  · unfold loL
    rw [getD_set_int, rep_getD]
    split
    · omega
    · omega
  · unfold hiL
    rw [getD_set_int, rep_getD]
    split
    · omega
    · omega
set_option maxHeartbeats 3000000 in
set_option maxRecDepth 100000 in
theorem bare_calls (v lv : Value) (r : Ros) (gate : Int) (l : List Int) (w : World) (hv : RosAt w v r) (hl : IntsAt w lv l) :
    Calls Tryz.prog 30 #[v, .int .i64 gate, lv] w fun e w' => ∃ ov, e = .returned (.tuple #[ov, .bool (bareO r gate l).isSome, .int .i64 (bareE r gate l)]) ∧ w'.ownsRow w.heap.size 3 1 ov ((bareO r gate l).getD []).length (nums .i64 ((bareO r gate l).getD [])) ∧ Below w.heap.size w w' := by
  have hR := Aside0.mk hv
  obtain ⟨A, c, T, d, rfl, h1, h2, h3, h4⟩ := hv
  clear h3 h4
  have hL := Aside0.mk hl
  have hbare := fun w (h : RosAt w (.agg (rosC r A c T d)) r) (h2 : IntsAt w lv l) => bareE_calls (.agg (rosC r A c T d)) lv r gate l w h h2
  have hz := fun h => bareE_zero (r := r) (gate := gate) (l := l) h
  generalize hPost : (fun (e : Ending) (w' : World) => ∃ ov, e = .returned (.tuple #[ov, .bool (bareO r gate l).isSome, .int .i64 (bareE r gate l)]) ∧ w'.ownsRow w.heap.size 3 1 ov ((bareO r gate l).getD []).length (nums .i64 ((bareO r gate l).getD [])) ∧ Below w.heap.size w w') = Post
  have HQ : Aside0 (∀ o ov w', bareO r gate l = o → w'.ownsRow w.heap.size 3 1 ov (o.getD []).length (nums .i64 (o.getD [])) → Below w.heap.size w w' → Post (.returned (.tuple #[ov, .bool o.isSome, .int .i64 (bareE r gate l)])) w') := ⟨fun o ov w' e a b => by subst e; exact hPost ▸ ⟨ov, rfl, a, b⟩⟩
  clear hPost
  have HO : Aside0 (∀ b, (bareE r gate l != 0) = b → bareO r gate l = if b then none else idleP r.ahead (l.map (tcOf r)) (loL r.ahead.length r.frm) (hiL r.ahead.length r.til)) := ⟨fun b hb => by unfold bareO; rw [hb]⟩
  generalize hge : bareE r gate l = ge at *
  cases hc : (ge != 0)
  · have e0 : ge = 0 := by simpa using hc
    subst e0
    obtain ⟨V, hg, hin, _, _⟩ := hz rfl
    have HO2 := Aside0.mk (HO.out false rfl)
    have HV := Aside0.mk V
    have hidle := fun W lov hiv (hW : Below w.heap.size w W) h1 h2 => idle_calls l (.agg (rosC r A c T d)) lv lov hiv r (loL r.ahead.length r.frm) (hiL r.ahead.length r.til) W V (hR.out.below hW) (hl.below hW) h1 h2 (bndI_first V) hin
    have hn1 := V.clocks.1
    have hn8 := V.clocks.2
    have vf := V.frm
    have vt := V.til
    have vft := V.frmtil
    clear hz hc hg hin HO hge V
    have hrep1 := fun W : World => repeat_calls ⟨W.heap.size, 0, none⟩ 1 (-67108864) r.ahead.length (W.alloc (.cells #[.int .i64 (-67108864)] 3)) ((blk_cell (alloc_at W (.cells #[.int .i64 (-67108864)] 3)) 0).trans rfl) hn1 hn8
    have hrep2 := fun W : World => repeat_calls ⟨W.heap.size, 0, none⟩ 1 67108864 r.ahead.length (W.alloc (.cells #[.int .i64 67108864] 3)) ((blk_cell (alloc_at W (.cells #[.int .i64 67108864] 3)) 0).trans rfl) hn1 hn8
    obtain ⟨A1, c1, rfl, hc1, hl1⟩ := hl
    clear hl1
    go_enter Tryz.func30, Tryz.ntmps30
    go_wp2_with (first | ((with_reducible refine gate_dst (N := 3) rfl ?_); refine box_event ?hg (N := 3) ?hd (cs := rosC r A c T d) (t := 25) ?hr ?_; (case hd => rfl); (case hg => rfl); (case hr => first | (go_simp; done) | (go_simp; rfl)); intro g hg w3 hbox_ hb_; have BK := Aside0.mk hbox_; have Hg := Aside0.mk hg; have HB := Aside0.mk hb_; obtain ⟨q0, q1, q2, q3, q4⟩ := rosC_cells hbox_; clear hbox_ hb_ hg) | (go_at_call 108; refine (hbare _ (hR.out.below HB.out) (IntsAt.below hL.out HB.out)).mono ?_; rintro e w4 ⟨rfl, hb_⟩; have HB4 := Aside0.mk (below_step HB.out hb_); have BK4 := Aside0.mk (blk_below BK.out hb_); clear q0 q1 q2 q3 q4; obtain ⟨q0, q1, q2, q3, q4⟩ := rosC_cells BK4.out; clear hb_) | (go_at_call 109; (with_reducible refine (hrep1 w4).mono ?_); rintro e w5 ⟨g5, rfl, hg_, hb1_, hb_⟩; have HG5 := Aside0.mk hg_; have HL5 : Aside0 (w4.heap.size ≤ g5) := ⟨Nat.le_trans (Nat.le_succ _) (by rw [alloc_sz] at hb1_; exact hb1_)⟩; have HB5 := Aside0.mk (below_step (below_step HB4.out (below_alloc (Below.refl _ _) _)) hb_); have BK5 := Aside0.mk (blk_below (blk_alloc BK4.out _) hb_); clear hg_ hb1_ hb_) | (go_at_call 109; (with_reducible refine (hrep2 w5).mono ?_); rintro e w6 ⟨g6, rfl, hg_, hb1_, hb_⟩; have HG6 := Aside0.mk hg_; have HL6 : Aside0 (w5.heap.size ≤ g6) := ⟨Nat.le_trans (Nat.le_succ _) (by rw [alloc_sz] at hb1_; exact hb1_)⟩; have HB6 := Aside0.mk (below_step (below_step HB5.out (below_alloc (Below.refl _ _) _)) hb_); have BK6 := Aside0.mk (blk_below (blk_alloc BK5.out _) hb_); have HG5b := Aside0.mk (blk_below (blk_alloc HG5.out _) hb_); have HNE := Aside0.mk (Nat.lt_of_lt_of_le (blk_lt HG5.out) HL6.out); clear hg_ hb1_ hb_))
    clear q0 q1 q2 q3 q4
    have HX : Aside0 (g5 < g6 ∧ g6 < w6.heap.size ∧ w.heap.size ≤ g5 ∧ g < g5) := ⟨by
      have h1 := HNE.out
      have h2 := blk_lt HG6.out
      have h3 := HL5.out
      have h4 := HB4.out.size
      have h5 := blk_lt BK4.out
      exact ⟨h1, h2, by omega, by omega⟩⟩
    have BX7 : Aside0 ((w6.alloc (.cells #[.slice (some ⟨g5, 0, none⟩) r.ahead.length r.ahead.length, .slice (some ⟨g6, 0, none⟩) r.ahead.length r.ahead.length] 103)).heap[w6.heap.size]? = some (.cells #[.slice (some ⟨g5, 0, none⟩) r.ahead.length r.ahead.length, .slice (some ⟨g6, 0, none⟩) r.ahead.length r.ahead.length] 103)) := ⟨alloc_at w6 _⟩
    have HG57 := Aside0.mk (blk_alloc HG5b.out (.cells #[.slice (some ⟨g5, 0, none⟩) r.ahead.length r.ahead.length, .slice (some ⟨g6, 0, none⟩) r.ahead.length r.ahead.length] 103))
    have HG67 := Aside0.mk (blk_alloc HG6.out (.cells #[.slice (some ⟨g5, 0, none⟩) r.ahead.length r.ahead.length, .slice (some ⟨g6, 0, none⟩) r.ahead.length r.ahead.length] 103))
    have BK7 := Aside0.mk (blk_alloc BK6.out (.cells #[.slice (some ⟨g5, 0, none⟩) r.ahead.length r.ahead.length, .slice (some ⟨g6, 0, none⟩) r.ahead.length r.ahead.length] 103))
    have HB7 := Aside0.mk (below_alloc HB6.out (.cells #[.slice (some ⟨g5, 0, none⟩) r.ahead.length r.ahead.length, .slice (some ⟨g6, 0, none⟩) r.ahead.length r.ahead.length] 103))
    generalize w6.alloc (.cells #[.slice (some ⟨g5, 0, none⟩) r.ahead.length r.ahead.length, .slice (some ⟨g6, 0, none⟩) r.ahead.length r.ahead.length] 103) = w7 at *
    generalize w6.heap.size = gx at *
    obtain ⟨q0, q1, q2, q3, q4⟩ := rosC_cells BK7.out
    have p0 : w7.cell? ⟨gx, 0, none⟩ = some (.slice (some ⟨g5, 0, none⟩) r.ahead.length r.ahead.length) := (blk_cell BX7.out 0).trans rfl
    have p1 : w7.cell? ⟨gx, 1, none⟩ = some (.slice (some ⟨g6, 0, none⟩) r.ahead.length r.ahead.length) := (blk_cell BX7.out 1).trans rfl
    have NE : Aside0 ((g5 ≠ gx ∧ g5 ≠ g) ∧ g6 ≠ gx ∧ g6 ≠ g) := ⟨by have h := HX.out; omega⟩
    rw [filL_full] at HG57 HG67
    have f5 : w7.cell? ⟨g5, 0, none⟩ = some (.int .i64 (-67108864)) := (blk_cell HG57.out 0).trans (by unfold nums; rw [List.getElem?_toArray, List.map_replicate, List.getElem?_replicate, if_pos (by omega)])
    have f6 : w7.cell? ⟨g6, 0, none⟩ = some (.int .i64 67108864) := (blk_cell HG67.out 0).trans (by unfold nums; rw [List.getElem?_toArray, List.map_replicate, List.getElem?_replicate, if_pos (by omega)])
    have z5 := blk_frozen HG57.out 0
    have z6 := blk_frozen HG67.out 0
    have NE2 : g5 ≠ g6 := by have h := HX.out; omega
    have i0 : 0 < r.ahead.length := by omega
    have hw1 : IntKind.i64.wrap (r.til - 1) = r.til - 1 := IntWalk.i64_in _ (by omega)
    have f6' : (w7.setCell ⟨g5, 0, none⟩ (.int .i64 r.frm)).cell? ⟨g6, 0, none⟩ = some (.int .i64 67108864) := cfar f6 NE2
    refine wp_region_held_drew (S := (fun w' => w'.cell? ⟨gx, 0, none⟩ = some (.slice (some ⟨g5, 0, none⟩) r.ahead.length r.ahead.length) ∧ w'.cell? ⟨gx, 1, none⟩ = some (.slice (some ⟨g6, 0, none⟩) r.ahead.length r.ahead.length) ∧ w'.cell? ⟨g, 1, none⟩ = some (.int .i64 r.frm) ∧ w'.cell? ⟨g, 2, none⟩ = some (.int .i64 r.til))) (by kernel_rfl) ?_ (fun hH0 => ?_)
    · exact ⟨p0, p1, q1, q2⟩
    refine tk 0 (oi := o30_6_0) (v := ?_) rfl (by kernel_rfl) (fun _ _ _ h => h) (by rfl) ?_ hH0 ?_
    rotate_left
    · (intro w hSw; (try dsimp only at hSw); unfold o30_6_0; go_simp <;> (with_reducible rfl))
    simp only [Act.put, o30_6_0, List.setIfInBounds_toArray, List.set_cons_zero, List.set_cons_succ]
    refine tk 1 (oi := o30_6_1) (v := ?_) rfl (by kernel_rfl) (fun _ _ _ h => h) (by rfl) ?_ hH0 ?_
    rotate_left
    · (intro w hSw; (try dsimp only at hSw); unfold o30_6_1; go_simp <;> (with_reducible rfl))
    simp only [Act.put, o30_6_1, List.setIfInBounds_toArray, List.set_cons_zero, List.set_cons_succ]
    refine tk 2 (oi := o30_6_2) (v := ?_) rfl (by kernel_rfl) (fun _ _ _ h => h) (by rfl) ?_ hH0 ?_
    rotate_left
    · (intro w hSw; (try dsimp only at hSw); unfold o30_6_2; go_simp <;> (with_reducible rfl))
    simp only [Act.put, o30_6_2, List.setIfInBounds_toArray, List.set_cons_zero, List.set_cons_succ]
    refine tk 3 (oi := o30_6_3) (v := ?_) rfl (by kernel_rfl) (fun _ _ _ h => h) (by rfl) ?_ hH0 ?_
    rotate_left
    · (intro w hSw; (try dsimp only at hSw); unfold o30_6_3; go_simp <;> (with_reducible rfl))
    simp only [Act.put, o30_6_3, List.setIfInBounds_toArray, List.set_cons_zero, List.set_cons_succ]
    refine tk 4 (oi := o30_6_4) (v := ?_) rfl (by kernel_rfl) (fun _ _ _ h => h) (by rfl) ?_ hH0 ?_
    rotate_left
    · (intro w hSw; (try dsimp only at hSw); unfold o30_6_4; go_simp <;> (with_reducible rfl))
    simp only [Act.put, o30_6_4, List.setIfInBounds_toArray, List.set_cons_zero, List.set_cons_succ]
    refine tk 5 (oi := o30_6_5) (v := ?_) rfl (by kernel_rfl) (fun _ _ _ h => h) (by rfl) ?_ hH0 ?_
    rotate_left
    · (intro w hSw; (try dsimp only at hSw); unfold o30_6_5; go_simp <;> (with_reducible rfl))
    simp only [Act.put, o30_6_5, List.setIfInBounds_toArray, List.set_cons_zero, List.set_cons_succ]
    refine tk 6 (oi := o30_6_6) (v := ?_) rfl (by kernel_rfl) (fun _ _ _ h => h) (by rfl) ?_ hH0 ?_
    rotate_left
    · (intro w hSw; (try dsimp only at hSw); unfold o30_6_6; go_simp <;> (with_reducible rfl))
    simp only [Act.put, o30_6_6, List.setIfInBounds_toArray, List.set_cons_zero, List.set_cons_succ]
    refine tk 7 (oi := o30_6_7) (v := ?_) rfl (by kernel_rfl) (fun _ _ _ h => h) (by rfl) ?_ hH0 ?_
    rotate_left
    · (intro w hSw; (try dsimp only at hSw); unfold o30_6_7; go_simp <;> (with_reducible rfl))
    simp only [Act.put, o30_6_7, List.setIfInBounds_toArray, List.set_cons_zero, List.set_cons_succ]
    refine tk 8 (oi := o30_6_8) (v := ?_) rfl (by kernel_rfl) (fun _ _ _ h => h) (by rfl) ?_ hH0 ?_
    rotate_left
    · (intro w hSw; (try dsimp only at hSw); unfold o30_6_8; go_simp <;> (with_reducible rfl))
    simp only [Act.put, o30_6_8, List.setIfInBounds_toArray, List.set_cons_zero, List.set_cons_succ]
    refine tk 9 (oi := o30_6_9) (v := ?_) rfl (by kernel_rfl) (fun _ _ _ h => h) (by rfl) ?_ hH0 ?_
    rotate_left
    · (intro w hSw; (try dsimp only at hSw); unfold o30_6_9; go_simp <;> (with_reducible rfl))
    simp only [Act.put, o30_6_9, List.setIfInBounds_toArray, List.set_cons_zero, List.set_cons_succ]
    refine wpAnyH_ready (rs := [10]) (by kernel_rfl) (by simp) (AllReadyH.cons (o := o30_6_10) rfl (fun K' hK' => ?_) AllReadyH.nil)
    unfold o30_6_10
    go_simp
    skip
    refine hK'.out _ _ (by first | exact ⟨cfar p0 NE.out.1.1, cfar p1 NE.out.1.1, cfar q1 NE.out.1.2, cfar q2 NE.out.1.2⟩ | exact ⟨cfar (cfar p0 NE.out.1.1) NE.out.2.1, cfar (cfar p1 NE.out.1.1) NE.out.2.1, cfar (cfar q1 NE.out.1.2) NE.out.2.2, cfar (cfar q2 NE.out.1.2) NE.out.2.2⟩) (fun hH1 => ?_)
    clear hK' K'
    try simp only [Act.put, List.setIfInBounds_toArray, List.set_cons_zero, List.set_cons_succ]
    refine tk 11 (oi := o30_6_11) (v := ?_) rfl (by kernel_rfl) (fun _ _ _ h => h) (by rfl) ?_ hH1 ?_
    rotate_left
    · (intro w hSw; (try dsimp only at hSw); unfold o30_6_11; go_simp <;> (with_reducible rfl))
    simp only [Act.put, o30_6_11, List.setIfInBounds_toArray, List.set_cons_zero, List.set_cons_succ]
    refine wpAnyH_ready (rs := [12]) (by kernel_rfl) (by simp) (AllReadyH.cons (o := o30_6_12) rfl (fun K' hK' => ?_) AllReadyH.nil)
    unfold o30_6_12
    go_simp
    skip
    refine hK'.out _ _ (by first | exact ⟨cfar p0 NE.out.1.1, cfar p1 NE.out.1.1, cfar q1 NE.out.1.2, cfar q2 NE.out.1.2⟩ | exact ⟨cfar (cfar p0 NE.out.1.1) NE.out.2.1, cfar (cfar p1 NE.out.1.1) NE.out.2.1, cfar (cfar q1 NE.out.1.2) NE.out.2.2, cfar (cfar q2 NE.out.1.2) NE.out.2.2⟩) (fun hH2 => ?_)
    clear hK' K'
    try simp only [Act.put, List.setIfInBounds_toArray, List.set_cons_zero, List.set_cons_succ]
    refine wpAnyH_done (by kernel_rfl) ?_ _
    have HB8 : Aside0 (Below w.heap.size w (((w7.setCell ⟨g5, 0, none⟩ (.int .i64 r.frm)).setCell ⟨g6, 0, none⟩ (.int .i64 (r.til - 1))).drew)) := ⟨below_drew ((HB7.out.setCell HX.out.2.2.1 _).setCell (Nat.le_trans HX.out.2.2.1 (Nat.le_of_lt HX.out.1)) _)⟩
    have HG58 : Aside0 ((((w7.setCell ⟨g5, 0, none⟩ (.int .i64 r.frm)).setCell ⟨g6, 0, none⟩ (.int .i64 (r.til - 1))).drew).heap[g5]? = some (.cells (nums .i64 (loL r.ahead.length r.frm)).toArray 3 (0, 0))) := ⟨by rw [← loL_nums]; exact blk_far (p := ⟨g6, 0, none⟩) (blk_set HG57.out 0 _) NE2 _⟩
    have HG68 : Aside0 ((((w7.setCell ⟨g5, 0, none⟩ (.int .i64 r.frm)).setCell ⟨g6, 0, none⟩ (.int .i64 (r.til - 1))).drew).heap[g6]? = some (.cells (nums .i64 (hiL r.ahead.length r.til)).toArray 3 (0, 0))) := ⟨by rw [← hiL_nums]; exact blk_set (blk_far (p := ⟨g5, 0, none⟩) HG67.out (Ne.symm NE2) _) 0 _⟩
    have BK8 : Aside0 ((((w7.setCell ⟨g5, 0, none⟩ (.int .i64 r.frm)).setCell ⟨g6, 0, none⟩ (.int .i64 (r.til - 1))).drew).heap[g]? = some (.cells (rosC r A c T d) 25 (0, 0))) := ⟨blk_far (p := ⟨g6, 0, none⟩) (blk_far (p := ⟨g5, 0, none⟩) BK7.out (Ne.symm NE.out.1.2) _) (Ne.symm NE.out.2.2) _⟩
    have BX8 : Aside0 ((((w7.setCell ⟨g5, 0, none⟩ (.int .i64 r.frm)).setCell ⟨g6, 0, none⟩ (.int .i64 (r.til - 1))).drew).heap[gx]? = some (.cells #[.slice (some ⟨g5, 0, none⟩) r.ahead.length r.ahead.length, .slice (some ⟨g6, 0, none⟩) r.ahead.length r.ahead.length] 103 (0, 0))) := ⟨blk_far (p := ⟨g6, 0, none⟩) (blk_far (p := ⟨g5, 0, none⟩) BX7.out (Ne.symm NE.out.1.1) _) (Ne.symm NE.out.2.1) _⟩
    clear q0 q1 q2 q3 q4 p0 p1 f5 f6 f6' z5 z6 NE2
    generalize ((w7.setCell ⟨g5, 0, none⟩ (.int .i64 r.frm)).setCell ⟨g6, 0, none⟩ (.int .i64 (r.til - 1))).drew = w8 at *
    have HO5 := Aside0.mk (intsAt_of_own (own_of_blk (n := r.ahead.length) HG58.out HX.out.2.2.1 (by simp [loL]) (by omega)))
    have HO6 := Aside0.mk (intsAt_of_own (own_of_blk (n := r.ahead.length) HG68.out (Nat.le_trans HX.out.2.2.1 (Nat.le_of_lt HX.out.1)) (by simp [hiL]) (by omega)))
    have hid := hidle w8 _ _ HB8.out HO5.out HO6.out
    obtain ⟨q0, q1, q2, q3, q4⟩ := rosC_cells BK8.out
    have y0 : w8.cell? ⟨gx, 0, none⟩ = some (.slice (some ⟨g5, 0, none⟩) r.ahead.length r.ahead.length) := (blk_cell BX8.out 0).trans rfl
    have y1 : w8.cell? ⟨gx, 1, none⟩ = some (.slice (some ⟨g6, 0, none⟩) r.ahead.length r.ahead.length) := (blk_cell BX8.out 1).trans rfl
    have HQ' : Aside0 (∀ ov w', w'.ownsRow w.heap.size 3 1 ov ((idleP r.ahead (l.map (tcOf r)) (loL r.ahead.length r.frm) (hiL r.ahead.length r.til)).getD []).length (nums .i64 ((idleP r.ahead (l.map (tcOf r)) (loL r.ahead.length r.frm) (hiL r.ahead.length r.til)).getD [])) → Below w.heap.size w w' → Post (.returned (.tuple #[ov, .bool (idleP r.ahead (l.map (tcOf r)) (loL r.ahead.length r.frm) (hiL r.ahead.length r.til)).isSome, .int .i64 0])) w') := ⟨fun ov w' a b => HQ.out _ ov w' (HO2.out.trans (if_neg (by simp))) a b⟩
    clear HQ HO2 hidle
    generalize idleP r.ahead (l.map (tcOf r)) (loL r.ahead.length r.frm) (hiL r.ahead.length r.til) = o at *
    go_wp2_with (go_at_call 110; refine hid.mono ?_; rintro e w9 hp_; obtain ⟨ov, rfl, ho_, hb_⟩ := hp_; have HO9 := Aside0.mk (own_weaken ho_ HB8.out.size); have HB9 := Aside0.mk (below_step HB8.out hb_); clear ho_ hb_)
    refine bodyPost_ret (v := .tuple #[_, _, _]) (by simp [results, Tryz.results30, go_sem]; exact ⟨rfl, rfl, rfl⟩) rfl ?_
    exact HQ'.out _ _ HO9.out HB9.out
  · have HQ' : Aside0 (∀ w', Below w.heap.size w w' → Post (.returned (.tuple #[.slice none 0 0, .bool false, .int .i64 ge])) w') := ⟨fun w' b => HQ.out none (.slice none 0 0) w' (HO.out true hc) (own_nil _ _ _ _) b⟩
    clear hz HO hge
    go_enter Tryz.func30, Tryz.ntmps30
    go_wp2_with (first | ((with_reducible refine gate_dst (N := 3) rfl ?_); refine box_event ?hg (N := 3) ?hd (cs := rosC r A c T d) (t := 25) ?hr ?_; (case hd => rfl); (case hg => rfl); (case hr => first | (go_simp; done) | (go_simp; rfl)); intro g hg w3 hbox_ hb_; have BK := Aside0.mk hbox_; have Hg := Aside0.mk hg; have HB := Aside0.mk hb_; obtain ⟨q0, q1, q2, q3, q4⟩ := rosC_cells hbox_; clear hbox_ hb_ hg) | (go_at_call 108; refine (hbare _ (hR.out.below HB.out) (IntsAt.below hL.out HB.out)).mono ?_; rintro e w4 ⟨rfl, hb_⟩; have HB4 := Aside0.mk (below_step HB.out hb_); have BK4 := Aside0.mk (blk_below BK.out hb_); clear q0 q1 q2 q3 q4; obtain ⟨q0, q1, q2, q3, q4⟩ := rosC_cells BK4.out; clear hb_))
    refine bodyPost_ret (v := .tuple #[_, _, _]) (by simp [results, Tryz.results30, go_sem]; exact ⟨rfl, rfl, rfl⟩) rfl ?_
    exact HQ'.out _ HB4.out
end Go.Proofs.YtflolfbkpjgjaaaGreatDoor
end
section
namespace Go.Proofs
open Go.Shelf
def Tryz.lays156_ren : Go.Shelf.Ren := ⟨fun | 156 => 136 | 165 => 165 | 166 => 166 | 169 => 167 | 240 => 177 | 241 => 178 | 276 => 192 | 277 => 193 | n => n, fun | 31 => 121 | 9 => 9 | 3 => 3 | 4 => 4 | 0 => 0 | 20 => 20 | 72 => 151 | 76 => 129 | 70 => 148 | 37 => 149 | 75 => 128 | 127 => 162 | 164 => 177 | 5 => 5 | 80 => 152 | n => n, fun | n => n⟩
theorem Tryz.lays156 : Go.Proofs.Lays.n156 Tryz.prog Tryz.lays156_ren := {
  mixed := by kernel_rfl
  f156 := Tryz.func136.trans (congrArg some (by kernel_rfl))
  f165 := Tryz.func165.trans (congrArg some (by kernel_rfl))
  f166 := Tryz.func166.trans (congrArg some (by kernel_rfl))
  f169 := Tryz.func167.trans (congrArg some (by kernel_rfl))
  f240 := Tryz.func177.trans (congrArg some (by kernel_rfl))
  f241 := Tryz.func178.trans (congrArg some (by kernel_rfl))
  f276 := Tryz.func192.trans (congrArg some (by kernel_rfl))
  f277 := Tryz.func193.trans (congrArg some (by kernel_rfl))
  t0 := Tryz.underlying0
  a0 := Tryz.isAgg0
  z0 := Tryz.sizeOf0
  v0 := Tryz.zeroValue0
  t3 := Tryz.underlying3
  a3 := Tryz.isAgg3
  z3 := Tryz.sizeOf3
  v3 := Tryz.zeroValue3
  t4 := Tryz.underlying4
  a4 := Tryz.isAgg4
  z4 := Tryz.sizeOf4
  v4 := Tryz.zeroValue4
  t9 := Tryz.underlying9
  a9 := Tryz.isAgg9
  z9 := Tryz.sizeOf9
  v9 := Tryz.zeroValue9
  t20 := Tryz.underlying20
  a20 := Tryz.isAgg20
  z20 := Tryz.sizeOf20
  v20 := Tryz.zeroValue20
  t31 := Tryz.underlying121
  a31 := Tryz.isAgg121
  z31 := Tryz.sizeOf121
  v31 := Tryz.zeroValue121
  t37 := Tryz.underlying149
  a37 := Tryz.isAgg149
  z37 := Tryz.sizeOf149
  v37 := Tryz.zeroValue149
  t70 := Tryz.underlying148
  a70 := Tryz.isAgg148
  z70 := Tryz.sizeOf148
  v70 := Tryz.zeroValue148
  t72 := Tryz.underlying151
  a72 := Tryz.isAgg151
  z72 := Tryz.sizeOf151
  v72 := Tryz.zeroValue151
  t75 := Tryz.underlying128
  a75 := Tryz.isAgg128
  z75 := Tryz.sizeOf128
  v75 := Tryz.zeroValue128
  t76 := Tryz.underlying129
  a76 := Tryz.isAgg129
  z76 := Tryz.sizeOf129
  v76 := Tryz.zeroValue129
  t127 := Tryz.underlying162
  a127 := Tryz.isAgg162
  z127 := Tryz.sizeOf162
  v127 := Tryz.zeroValue162
  t164 := Tryz.underlying177
  a164 := Tryz.isAgg177
  z164 := Tryz.sizeOf177
  v164 := Tryz.zeroValue177 }
theorem Tryz.Builder_Extra_156 : Builder.Extra Tryz.prog Tryz.lays156_ren := {
  sizeBuilder := by kernel_rfl
  liesBuilder := by kernel_rfl
  t5 := Tryz.underlying5
  a5 := Tryz.isAgg5
  z5 := Tryz.sizeOf5
  v5 := Tryz.zeroValue5
  infoByte := by kernel_rfl
  cellsByte := by kernel_rfl
  sizeByte := by kernel_rfl
  neB5 := by decide }
open Go.RowKit in
theorem Tryz.strings_Join (bk o c : Nat) (xs : List ByteArray) (sep : ByteArray) (w : World) (hcells : ∀ (j : Nat) x, xs[j]? = some x → w.cell? ⟨bk, o + j, none⟩ = some (.string x)) (hbk : bk < w.heap.size) (hN : xs.length ≤ 140737488355328) (hcap : xs.length ≤ c) (hlen : (Lib.join (xs.map (·.data.toList)) sep.data.toList).length ≤ 140737488355328) :
    Calls Tryz.prog 136 #[.slice (some ⟨bk, o, none⟩) xs.length c, .string sep] w fun e w' => e = .returned (.string ⟨(Lib.join (xs.map (·.data.toList)) sep.data.toList).toArray⟩) ∧ Below w.heap.size w w' := Any.strings_Join Tryz.lays156 Tryz.Builder_Extra_156 bk o c xs sep w hcells hbk hN hcap hlen
def Tryz.laysM171_ren : Go.Shelf.Ren := ⟨fun | 171 => 135 | 243 => 164 | 246 => 176 | 283 => 188 | 284 => 189 | 285 => 190 | 286 => 191 | 129 => 202 | 317 => 201 | 318 => 203 | 319 => 204 | 320 => 205 | 337 => 213 | 338 => 214 | n => n, fun | 3 => 3 | 9 => 9 | 2 => 2 | 4 => 4 | 171 => 172 | 0 => 0 | 53 => 158 | 37 => 149 | 5 => 5 | 173 => 175 | 212 => 191 | 51 => 155 | 20 => 20 | 213 => 192 | 46 => 141 | 232 => 205 | 233 => 206 | n => n, fun | 17 => 2 | 18 => 6 | 19 => 7 | n => n⟩
theorem Tryz.laysM171 : Go.Proofs.LaysM.n171 Tryz.prog Tryz.laysM171_ren := {
  mixed := by kernel_rfl
  f129 := Tryz.func202.trans (congrArg some (by kernel_rfl))
  f171 := Tryz.func135.trans (congrArg some (by kernel_rfl))
  f243 := Tryz.func164.trans (congrArg some (by kernel_rfl))
  f246 := Tryz.func176.trans (congrArg some (by kernel_rfl))
  f283 := Tryz.func188.trans (congrArg some (by kernel_rfl))
  f284 := Tryz.func189.trans (congrArg some (by kernel_rfl))
  f285 := Tryz.func190.trans (congrArg some (by kernel_rfl))
  f286 := Tryz.func191.trans (congrArg some (by kernel_rfl))
  f317 := Tryz.func201.trans (congrArg some (by kernel_rfl))
  f318 := Tryz.func203.trans (congrArg some (by kernel_rfl))
  f319 := Tryz.func204.trans (congrArg some (by kernel_rfl))
  f320 := Tryz.func205.trans (congrArg some (by kernel_rfl))
  f337 := Tryz.func213.trans (congrArg some (by kernel_rfl))
  f338 := Tryz.func214.trans (congrArg some (by kernel_rfl))
  t0 := Tryz.underlying0
  a0 := Tryz.isAgg0
  z0 := Tryz.sizeOf0
  v0 := Tryz.zeroValue0
  t2 := Tryz.underlying2
  a2 := Tryz.isAgg2
  z2 := Tryz.sizeOf2
  v2 := Tryz.zeroValue2
  t3 := Tryz.underlying3
  a3 := Tryz.isAgg3
  z3 := Tryz.sizeOf3
  v3 := Tryz.zeroValue3
  t4 := Tryz.underlying4
  a4 := Tryz.isAgg4
  z4 := Tryz.sizeOf4
  v4 := Tryz.zeroValue4
  t5 := Tryz.underlying5
  a5 := Tryz.isAgg5
  z5 := Tryz.sizeOf5
  v5 := Tryz.zeroValue5
  t9 := Tryz.underlying9
  a9 := Tryz.isAgg9
  z9 := Tryz.sizeOf9
  v9 := Tryz.zeroValue9
  t20 := Tryz.underlying20
  a20 := Tryz.isAgg20
  z20 := Tryz.sizeOf20
  v20 := Tryz.zeroValue20
  t37 := Tryz.underlying149
  a37 := Tryz.isAgg149
  z37 := Tryz.sizeOf149
  v37 := Tryz.zeroValue149
  t46 := Tryz.underlying141
  a46 := Tryz.isAgg141
  z46 := Tryz.sizeOf141
  v46 := Tryz.zeroValue141
  t51 := Tryz.underlying155
  a51 := Tryz.isAgg155
  z51 := Tryz.sizeOf155
  v51 := Tryz.zeroValue155
  t53 := Tryz.underlying158
  a53 := Tryz.isAgg158
  z53 := Tryz.sizeOf158
  v53 := Tryz.zeroValue158
  t171 := Tryz.underlying172
  a171 := Tryz.isAgg172
  z171 := Tryz.sizeOf172
  v171 := Tryz.zeroValue172
  t173 := Tryz.underlying175
  a173 := Tryz.isAgg175
  z173 := Tryz.sizeOf175
  v173 := Tryz.zeroValue175
  t212 := Tryz.underlying191
  a212 := Tryz.isAgg191
  z212 := Tryz.sizeOf191
  v212 := Tryz.zeroValue191
  t213 := Tryz.underlying192
  a213 := Tryz.isAgg192
  z213 := Tryz.sizeOf192
  t232 := Tryz.underlying205
  a232 := Tryz.isAgg205
  z232 := Tryz.sizeOf205
  v232 := Tryz.zeroValue205
  t233 := Tryz.underlying206
  a233 := Tryz.isAgg206
  z233 := Tryz.sizeOf206
  v233 := Tryz.zeroValue206
  g17 := by kernel_rfl
  g18 := by kernel_rfl
  g19 := by kernel_rfl
  i0 := by kernel_rfl
  i2 := by kernel_rfl
  i3 := by kernel_rfl
  i4 := by kernel_rfl
  i5 := by kernel_rfl
  i9 := by kernel_rfl
  i20 := by kernel_rfl
  i37 := by kernel_rfl
  i46 := by kernel_rfl
  i51 := by kernel_rfl
  i53 := by kernel_rfl
  i171 := by kernel_rfl
  i173 := by kernel_rfl
  i212 := by kernel_rfl
  i232 := by kernel_rfl
  i233 := by kernel_rfl
  m17 := by kernel_rfl
  m18 := by kernel_rfl
  m19 := by kernel_rfl }
open Go.RowKit Go.Sort Go.Lib in
theorem Tryz.strconv_Itoa (n : Int) (h0 : -9223372036854775808 ≤ n) (h1 : n ≤ 9223372036854775807) (w : World) (htab : Lib.TabIs Tryz.prog w "internal/strconv.uint64pow10" .u64 Lib.pow10Tab) :
    Calls Tryz.prog 135 #[.int .i64 n] w fun e w' => e = .returned (.string ⟨(Lib.itoa n).toArray⟩) ∧ ∃ k os, w' = grow (w.drewN k) os := Any.strconv_Itoa Tryz.laysM171 n h0 h1 w htab
end Go.Proofs
end
section
namespace Go.Proofs.YtflolfbkpjgjaaaGreatDoor
open Go.RowKit Go.Proofs.YtflolfbkpjgjaaaGreatDoorW.PrintWords
open Go.Proofs.YtflolfbkpjgjaaaGreatDoorW.PrintMore
def numL (t : Trn) : List Int := [t.gate, t.clock, t.frm, t.clock2, t.til, t.cost]
def strN (t : Trn) (k : Nat) : List ByteArray := ((numL t).take k).map fun n => ⟨(Lib.itoa n).toArray⟩
theorem strN_len (t : Trn) (k : Nat) : (strN t k).length = min k 6 := by simp [strN, numL]
theorem strN_succ (t : Trn) (k : Nat) (h : k < 6) : strN t (k + 1) = strN t k ++ [⟨(Lib.itoa ((numL t).getD k 0)).toArray⟩] := by
  unfold strN
  rw [List.take_succ_eq_append_getElem (by simpa [numL] using h), List.map_append]
  rw [List.getD_eq_getElem?_getD, List.getElem?_eq_getElem (by simpa [numL] using h)]
  rfl
def txt (t : Trn) : List UInt8 := Lib.join ((strN t 6).map (·.data.toList)) [32]
def printE (t : Trn) : Int := if isTurnB t then 0 else 1
def printS (t : Trn) : List UInt8 := if isTurnB t then txt t else []
def TabP (w : World) : Prop := Lib.TabIs Tryz.prog w "internal/strconv.uint64pow10" .u64 Lib.pow10Tab
theorem TabP.below {w w1 : World} (h : TabP w) (hb : Below w.heap.size w w1) : TabP w1 := Joins.tab_stays (g := 2) (by kernel_rfl) h hb (Nat.le_refl _)
theorem itoa_calls (n : Int) (w : World) (h0 : -9223372036854775808 ≤ n) (h1 : n ≤ 9223372036854775807) (ht : TabP w) :
    Calls Tryz.prog 135 #[.int .i64 n] w fun e w' => e = .returned (.string ⟨(Lib.itoa n).toArray⟩) ∧ Below w.heap.size w w' :=
  (Tryz.strconv_Itoa n h0 h1 w ht).mono fun e w' ⟨he, k, os, hw⟩ => ⟨he, by rw [hw]; exact Lib.below_grow _ w (Nat.le_refl _) k os⟩
theorem info9 : (Tryz.prog.info? 9).map (fun i => (i.zero, i.size, i.bytes)) = some (some (.string ⟨#[]⟩), 1, 16) := by kernel_rfl
theorem txt_len (t : Trn) (h : isTurnB t = true) : (txt t).length ≤ 200 := by
  obtain ⟨a, b, c, d, e, f⟩ := (isTurnB_iff t).1 h
  have l1 := Lib.itoa_length_le t.gate (by omega) (by omega)
  have l2 := Lib.itoa_length_le t.clock (by omega) (by omega)
  have l3 := Lib.itoa_length_le t.frm (by omega) (by omega)
  have l4 := Lib.itoa_length_le t.clock2 (by omega) (by omega)
  have l5 := Lib.itoa_length_le t.til (by omega) (by omega)
  have l6 := Lib.itoa_length_le t.cost (by omega) (by omega)
  unfold txt strN numL
  simp only [List.take_succ_cons, List.take_zero, List.map_cons, List.map_nil]
  rw [Lib.join_length]
  simp only [Lib.lens, List.length_cons, List.length_nil, List.map_cons, List.map_nil, List.sum_cons, List.sum_nil]
  omega
set_option maxHeartbeats 4000000 in
set_option maxRecDepth 100000 in
theorem print_calls (t : Trn) (w : World) (hT : TabP w) :
    Calls Tryz.prog 72 #[.agg (trnC t)] w fun e w' => e = .returned (.tuple #[.string ⟨(printS t).toArray⟩, .int .i64 (printE t)]) ∧ Below w.heap.size w w' := by
  have hist := fun w => isTurn_calls t w
  have HI := Aside0.mk (isTurnB_iff t).1
  have HTL := Aside0.mk (txt_len t)
  have HT := Aside0.mk hT
  unfold printS printE
  generalize isTurnB t = ib at *
  cases ib
  · go_enter Tryz.func72, Tryz.ntmps72
    go_wp2_with (first | ((with_reducible refine gate_dst (N := 1) rfl ?_); refine box_event ?hg (N := 1) ?hd (cs := #[.int .i64 t.gate, .int .i64 t.clock, .int .i64 t.frm, .int .i64 t.clock2, .int .i64 t.til, .int .i64 t.cost]) (t := 45) ?hr ?_; (case hd => rfl); (case hg => rfl); (case hr => first | (go_simp; done) | (go_simp; rfl)); intro g hg w3 hbox_ hb_; have BK := Aside0.mk hbox_; have Hg := Aside0.mk hg; have HB := Aside0.mk hb_; obtain ⟨q0, q1, q2, q3, q4, q5⟩ := trnC_cells hbox_; clear hbox_ hb_ hg) | (go_at_call 127; refine (hist _).mono ?_; rintro e w4 ⟨rfl, hb_⟩; have HB4 := Aside0.mk (below_step HB.out hb_); clear q0 q1 q2 q3 q4 q5; obtain ⟨q0, q1, q2, q3, q4, q5⟩ := trnC_cells (t := t) (blk_below BK.out hb_); clear hb_))
    go_ret2
    exact ⟨rfl, HB4.out⟩
  · have HI2 := Aside0.mk (HI.out rfl)
    have HTL2 := Aside0.mk (HTL.out rfl)
    clear HI HTL
    go_enter Tryz.func72, Tryz.ntmps72
    go_wp2_with (first | ((with_reducible refine gate_dst (N := 1) rfl ?_); refine box_event ?hg (N := 1) ?hd (cs := #[.int .i64 t.gate, .int .i64 t.clock, .int .i64 t.frm, .int .i64 t.clock2, .int .i64 t.til, .int .i64 t.cost]) (t := 45) ?hr ?_; (case hd => rfl); (case hg => rfl); (case hr => first | (go_simp; done) | (go_simp; rfl)); intro g hg w3 hbox_ hb_; have BK := Aside0.mk hbox_; have Hg := Aside0.mk hg; have HB := Aside0.mk hb_; obtain ⟨q0, q1, q2, q3, q4, q5⟩ := trnC_cells hbox_; clear hbox_ hb_ hg) | (go_at_call 127; refine (hist _).mono ?_; rintro e w4 ⟨rfl, hb_⟩; have HB4 := Aside0.mk (below_step HB.out hb_); clear q0 q1 q2 q3 q4 q5; obtain ⟨q0, q1, q2, q3, q4, q5⟩ := trnC_cells (t := t) (blk_below BK.out hb_); clear hb_))
    clear q0 q1 q2 q3 q4 q5
    have HL : Aside0 (CI (w4.alloc (.cells #[.int .i64 t.gate, .int .i64 t.clock, .int .i64 t.frm, .int .i64 t.clock2, .int .i64 t.til, .int .i64 t.cost] 3)) (some ⟨w4.heap.size, 0, none⟩) 6 (numL t)) := ⟨ci_alloc w4 (numL t) 3 (by simp [numL])⟩
    have HB5 : Aside0 (Below w4.heap.size w4 (w4.alloc (.cells #[.int .i64 t.gate, .int .i64 t.clock, .int .i64 t.frm, .int .i64 t.clock2, .int .i64 t.til, .int .i64 t.cost] 3))) := ⟨below_alloc (Below.refl _ _) _⟩
    generalize w4.alloc (.cells #[.int .i64 t.gate, .int .i64 t.clock, .int .i64 t.frm, .int .i64 t.clock2, .int .i64 t.til, .int .i64 t.cost] 3) = w5 at *
    have HB5w := Aside0.mk (below_step HB4.out HB5.out)
    generalize w4.heap.size = b6 at *
    go_loopw [4, 24] (fun u i wr => ∃ k : Nat, k ≤ 6 ∧ i = .int .i64 k ∧ Aside0 (wr.ownsRow w5.heap.size 9 1 u (strN t k).length (encs Value.string (strN t k))) ∧ Aside0 (Below w5.heap.size w5 wr)) (fun _ i _ => 6 - (intOf i).toNat)
    case atStart => exact ⟨0, Nat.zero_le _, rfl, ⟨own_nil _ _ _ _⟩, ⟨Below.refl _ _⟩⟩
    case round =>
      obtain ⟨k, hk, rfl, HO, HW⟩ := hrel
      by_cases hlt : k < 6
      · obtain ⟨ad, hA, g0⟩ := CI_at (Kd.C_below HL.out HW.out) k (by omega) (by omega)
        cases hA
        rw [show ((k : Int)).toNat = k from rfl] at g0
        rw [add_plain] at g0
        have hbn : -9223372036854775808 ≤ (numL t).getD k 0 ∧ (numL t).getD k 0 ≤ 9223372036854775807 := by
          obtain ⟨a, b, c, d, e, f⟩ := HI2.out
          have h6 : k = 0 ∨ k = 1 ∨ k = 2 ∨ k = 3 ∨ k = 4 ∨ k = 5 := by omega
          rcases h6 with rfl | rfl | rfl | rfl | rfl | rfl
          · show -9223372036854775808 ≤ t.gate ∧ t.gate ≤ 9223372036854775807; omega
          · show -9223372036854775808 ≤ t.clock ∧ t.clock ≤ 9223372036854775807; omega
          · show -9223372036854775808 ≤ t.frm ∧ t.frm ≤ 9223372036854775807; omega
          · show -9223372036854775808 ≤ t.clock2 ∧ t.clock2 ≤ 9223372036854775807; omega
          · show -9223372036854775808 ≤ t.til ∧ t.til ≤ 9223372036854775807; omega
          · show -9223372036854775808 ≤ t.cost ∧ t.cost ≤ 9223372036854775807; omega
        have hito := fun W (hW : Below w.heap.size w W) => itoa_calls ((numL t).getD k 0) W hbn.1 hbn.2 (HT.out.below hW)
        have HS := Aside0.mk (strN_succ t k hlt)
        generalize (numL t).getD k 0 = n at *
        clear hbn
        generalize hs : (⟨(Lib.itoa n).toArray⟩ : ByteArray) = s at *
        go_wp2_with (first | (go_at_call 135; refine (hito _ (below_step HB5w.out HW.out)).mono ?_; rintro e w6 ⟨rfl, hb_⟩; have HO6 := Aside0.mk (pw_own_below HO.out hb_); have HW6 := Aside0.mk (below_step HW.out hb_); clear hb_) | (at_builtin; refine print_append_of Value.string w5.heap.size rfl (.tmp 28) (.tmp 31) 121 9 (.string ⟨#[]⟩) 16 rfl Tryz.underlying121 info9 rfl (by omega) u4 (strN t k) s rfl rfl rfl HO6.out HW6.out HW6.out.size (by rw [strN_len]; omega) ?_; intro v1 w8 hown hbel hgr hat; have HO8 := Aside0.mk hown; have HW8 := Aside0.mk hbel; clear hown hbel hgr hat))
        go_roundw
        case rel => exact ⟨k + 1, by omega, by go_num, ⟨by rw [HS.out]; exact HO8.out⟩, HW8⟩
        case measure => simp [intOf]; omega
      · have e : k = 6 := by omega
        rw [e] at HO
        have hl6 : (strN t 6).length = 6 := strN_len t 6
        obtain ⟨gj, cj, rfl, hg1, hg2⟩ := own_form HO.out (by rw [hl6]; omega)
        have hjoin := Tryz.strings_Join gj 0 cj (strN t 6) ⟨#[32]⟩ wr (fun j x hj => by
          have h := HO.out.cells (g := gj) rfl j (.string x) (by simp [encs, hj])
          rw [add_plain] at h
          rw [Nat.zero_add]
          exact h) hg2 (by rw [hl6]; omega) (own_le HO.out) (by
          have h := HTL2.out
          unfold txt at h
          show (Lib.join ((strN t 6).map (·.data.toList)) [32]).length ≤ _
          omega)
        have hfit : (Lib.join ((strN t 6).map (·.data.toList)) (⟨#[32]⟩ : ByteArray).data.toList) = txt t := rfl
        rw [hfit] at hjoin
        clear hfit
        clear HO hl6
        generalize strN t 6 = st at *
        go_wp2_with (go_at_call 136; (with_reducible refine hjoin.mono ?_); rintro e w9 ⟨rfl, hb_⟩; have HW9 := Aside0.mk (below_step HW.out hb_); clear hb_)
        go_ret2
        exact ⟨rfl, below_step HB5w.out HW9.out⟩
end Go.Proofs.YtflolfbkpjgjaaaGreatDoor
end
section
namespace Go.Proofs.YtflolfbkpjgjaaaGreatDoor
open Go.RowKit Go.Proofs.YtflolfbkpjgjaaaGreatDoorW.PrintWords
open Go.Proofs.YtflolfbkpjgjaaaGreatDoorW.PrintLast Go.Proofs.YtflolfbkpjgjaaaGreatDoorW.PrintMore
attribute [local go_sem] max2_int min2_int max_two min_two max_three min_three max_four min_four
def law_example.f (a0 : Int) : Option (Int × Int × Int × (List (List Int)) × (List (Trn))) := (some (([(⟨0, 1, 95, 0, 150, 4⟩ : Trn), (⟨0, 0, 145, 1, 170, 3⟩ : Trn), (⟨0, 1, 160, 1, 205, 2⟩ : Trn), (⟨0, 0, 100, 0, 200, 11⟩ : Trn)] : List (Trn)) : List (Trn))).bind fun y248 => (if 0 ≤ a0 then (if a0 ≤ (y248.length : Int) then (some (1, 100, 200, (([(([0, 5] : List Int)), (([3, 0] : List Int))] : List (List Int))), (y248.take (a0 : Int).toNat))) else (none)) else (none))
set_option maxHeartbeats 8000000 in
set_option maxRecDepth 100000 in
theorem law_example.calls (a0 : Int) (r1 : Int) (r2 : Int) (r3 : Int) (r4 : List (List Int)) (r5 : List (Trn)) (w : World) (h : law_example.f a0 = some (r1, r2, r3, r4, r5)) :
    Calls Tryz.prog 76 #[.int .i64 a0] w fun e w' => ∃ v3_ v4_ : Value, e = .returned (.agg #[.int .i64 r1, .int .i64 r2, .int .i64 r3, v3_, v4_]) ∧ Kd.N (Kd.slice 3 (Kd.int .i64)) 26 w' w.heap.size (fun k_ => (w.heap.size ≤ k_)) v3_ r4 ∧ Kd.V kTrn 45 w' w.heap.size (fun k_ => (w.heap.size ≤ k_) ∧ some k_ ≠ (v3_ : Value).ownBlock) v4_ r5 ∧ Below w.heap.size w w' := by
  have hu25 := Tryz.underlying25
  have hu45 := Tryz.underlying45
  have HB := Aside0.mk (Below.refl w.heap.size w)
  have H : ((some (([(⟨0, 1, 95, 0, 150, 4⟩ : Trn), (⟨0, 0, 145, 1, 170, 3⟩ : Trn), (⟨0, 1, 160, 1, 205, 2⟩ : Trn), (⟨0, 0, 100, 0, 200, 11⟩ : Trn)] : List (Trn)) : List (Trn))).bind fun y248 => (if 0 ≤ a0 then (if a0 ≤ (y248.length : Int) then (some (1, 100, 200, (([(([0, 5] : List Int)), (([3, 0] : List Int))] : List (List Int))), (y248.take (a0 : Int).toNat))) else (none)) else (none))) = some (r1, r2, r3, r4, r5) := h
  clear h
  obtain ⟨y248, hy248⟩ : ∃ y_ : List (Trn), y_ = (([(⟨0, 1, 95, 0, 150, 4⟩ : Trn), (⟨0, 0, 145, 1, 170, 3⟩ : Trn), (⟨0, 1, 160, 1, 205, 2⟩ : Trn), (⟨0, 0, 100, 0, 200, 11⟩ : Trn)] : List (Trn))) := ⟨_, rfl⟩
  replace H : (if 0 ≤ a0 then (if a0 ≤ (y248.length : Int) then (some (1, 100, 200, (([(([0, 5] : List Int)), (([3, 0] : List Int))] : List (List Int))), (y248.take (a0 : Int).toNat))) else (none)) else (none)) = some (r1, r2, r3, r4, r5) := by first | (rw [hy248]; with_reducible exact H) | (have H2_ := (Option.bind_some _ _).symm.trans H; rw [hy248]; with_reducible exact H2_) | (have H2_ := (Option.bind_some _ _).symm.trans H; with_reducible exact H2_) | with_reducible exact H | (rw [hy248]; exact H) | exact H
  have Ny248 := Aside0.mk hy248
  clear hy248
  obtain ⟨y251, hy251⟩ : ∃ y_ : List Int, y_ = (([0, 5] : List Int)) := ⟨_, rfl⟩
  replace H : (if 0 ≤ a0 then (if a0 ≤ (y248.length : Int) then (some (1, 100, 200, (([y251, (([3, 0] : List Int))] : List (List Int))), (y248.take (a0 : Int).toNat))) else (none)) else (none)) = some (r1, r2, r3, r4, r5) := by first | (rw [hy251]; with_reducible exact H) | (have H2_ := (Option.bind_some _ _).symm.trans H; rw [hy251]; with_reducible exact H2_) | (have H2_ := (Option.bind_some _ _).symm.trans H; with_reducible exact H2_) | with_reducible exact H | (rw [hy251]; exact H) | exact H
  have Ny251 := Aside0.mk hy251
  clear hy251
  obtain ⟨y254, hy254⟩ : ∃ y_ : List Int, y_ = (([3, 0] : List Int)) := ⟨_, rfl⟩
  replace H : (if 0 ≤ a0 then (if a0 ≤ (y248.length : Int) then (some (1, 100, 200, (([y251, y254] : List (List Int))), (y248.take (a0 : Int).toNat))) else (none)) else (none)) = some (r1, r2, r3, r4, r5) := by first | (rw [hy254]; with_reducible exact H) | (have H2_ := (Option.bind_some _ _).symm.trans H; rw [hy254]; with_reducible exact H2_) | (have H2_ := (Option.bind_some _ _).symm.trans H; with_reducible exact H2_) | with_reducible exact H | (rw [hy254]; exact H) | exact H
  have Ny254 := Aside0.mk hy254
  clear hy254
  obtain ⟨y257, hy257⟩ : ∃ y_ : List (List Int), y_ = (([y251, y254] : List (List Int))) := ⟨_, rfl⟩
  replace H : (if 0 ≤ a0 then (if a0 ≤ (y248.length : Int) then (some (1, 100, 200, y257, (y248.take (a0 : Int).toNat))) else (none)) else (none)) = some (r1, r2, r3, r4, r5) := by first | (rw [hy257]; with_reducible exact H) | (have H2_ := (Option.bind_some _ _).symm.trans H; rw [hy257]; with_reducible exact H2_) | (have H2_ := (Option.bind_some _ _).symm.trans H; with_reducible exact H2_) | with_reducible exact H | (rw [hy257]; exact H) | exact H
  have Ny257 := Aside0.mk hy257
  clear hy257
  by_cases c2 : 0 ≤ a0
  · rw [if_pos c2] at H
    have c2b0 := eq_true c2
    have c2b1 : decide (0 ≤ a0) = true := decide_eq_true c2
    clear c2
    by_cases c3 : a0 ≤ (y248.length : Int)
    · rw [if_pos c3] at H
      have c3b0 := eq_true c3
      have c3b1 : decide (a0 ≤ (y248.length : Int)) = true := decide_eq_true c3
      clear c3
      obtain ⟨y260, hy260⟩ : ∃ y_ : List (Trn), y_ = (y248.take (a0 : Int).toNat) := ⟨_, rfl⟩
      replace H : (some (1, 100, 200, y257, y260)) = some (r1, r2, r3, r4, r5) := by first | (rw [hy260]; with_reducible exact H) | (have H2_ := (Option.bind_some _ _).symm.trans H; rw [hy260]; with_reducible exact H2_) | (have H2_ := (Option.bind_some _ _).symm.trans H; with_reducible exact H2_) | with_reducible exact H | (rw [hy260]; exact H) | exact H
      have Ny260 := Aside0.mk hy260
      clear hy260
      simp only [Option.some.injEq, Prod.mk.injEq] at H
      obtain ⟨rfl, rfl, rfl, rfl, rfl⟩ := H
      go_enter Tryz.func76, Tryz.ntmps76
      go_wp2_with (first | ((with_reducible refine gate_dst (N := 2) rfl ?_); refine box_event ?hg (N := 2) ?hd (cs := #[.int .i64 0, .int .i64 0, .int .i64 0, .slice none 0 0, .slice none 0 0]) (t := 25) ?hr ?_; (case hd => rfl); (case hg => rfl); (case hr => first | (go_simp; done) | (go_simp; rfl)); intro gb247 hg w4 hbox hb; have n0_ := Aside0.mk (below_step (by repeat (first | (with_reducible first | exact HB.out | apply below_alloc | apply pw_below_drewN | apply below_drew1) | exact HB.out)) hb); have n1_ := Aside0.mk (hbox); have n2_ := Aside0.mk ((by rw [hg]; exact (below_size (by repeat (first | (with_reducible first | exact HB.out | apply below_alloc | apply pw_below_drewN | apply below_drew1) | exact HB.out))) : w.heap.size ≤ gb247)); have n3_ := Aside0.mk ((by rw [hg]; exact (below_size (by repeat (first | (with_reducible first | exact HB.out | apply below_alloc | apply pw_below_drewN | apply below_drew1) | exact HB.out))) : w.heap.size ≤ gb247)); clear HB; have HB := n0_; have BK247 := n1_; have GW247 := n2_; have GE247 := n3_; clear n0_ n1_ n2_ n3_; clear hb hbox hg) | ((with_reducible refine gate_dst (N := 8) rfl ?_); refine Kd.R_lit kTrn _ 45 ?hg (N := 8) ?hd (xs := ([(⟨0, 1, 95, 0, 150, 4⟩ : Trn), (⟨0, 0, 145, 1, 170, 3⟩ : Trn), (⟨0, 1, 160, 1, 205, 2⟩ : Trn), (⟨0, 0, 100, 0, 200, 11⟩ : Trn)] : List (Trn))) (inner := [.int .i64 0, .int .i64 1, .int .i64 95, .int .i64 0, .int .i64 150, .int .i64 4, .int .i64 0, .int .i64 0, .int .i64 145, .int .i64 1, .int .i64 170, .int .i64 3, .int .i64 0, .int .i64 1, .int .i64 160, .int .i64 1, .int .i64 205, .int .i64 2, .int .i64 0, .int .i64 0, .int .i64 100, .int .i64 0, .int .i64 200, .int .i64 11]) (ok := fun _ => True) (okp := fun _ => True) ?hr ?hp (fun _ hk => hk) trivial (Below.refl _ _) (Nat.le_refl _) (by simp) ?_; (case hd => rfl); (case hg => rfl); (case hr => first | (go_simp; done) | (go_simp; rfl)); (case hp => exact (Reps.c6 (show Kd.M kTrn _ _ _ (⟨0, 1, 95, 0, 150, 4⟩ : Trn) [.int .i64 0, .int .i64 1, .int .i64 95, .int .i64 0, .int .i64 150, .int .i64 4] from (kTrn_mkM _ _ _ (⟨0, 1, 95, 0, 150, 4⟩ : Trn) )) (Reps.c6 (show Kd.M kTrn _ _ _ (⟨0, 0, 145, 1, 170, 3⟩ : Trn) [.int .i64 0, .int .i64 0, .int .i64 145, .int .i64 1, .int .i64 170, .int .i64 3] from (kTrn_mkM _ _ _ (⟨0, 0, 145, 1, 170, 3⟩ : Trn) )) (Reps.c6 (show Kd.M kTrn _ _ _ (⟨0, 1, 160, 1, 205, 2⟩ : Trn) [.int .i64 0, .int .i64 1, .int .i64 160, .int .i64 1, .int .i64 205, .int .i64 2] from (kTrn_mkM _ _ _ (⟨0, 1, 160, 1, 205, 2⟩ : Trn) )) (Reps.c6 (show Kd.M kTrn _ _ _ (⟨0, 0, 100, 0, 200, 11⟩ : Trn) [.int .i64 0, .int .i64 0, .int .i64 100, .int .i64 0, .int .i64 200, .int .i64 11] from (kTrn_mkM _ _ _ (⟨0, 0, 100, 0, 200, 11⟩ : Trn) )) (Reps.none _ _)))))); intro v249 w5 ho6 hb hg_ hnew_; clear hg_ hnew_; (first | rw [← Ny248.out] at ho6 | (simp only [Int.reduceToNat] at ho6; rw [← Ny248.out] at ho6)); have n0_ := Aside0.mk (Kd.R_lower (Kd.R_newM (M := fun k_ => (w.heap.size ≤ k_)) ho6 (below_size (by repeat (first | (with_reducible first | exact HB.out | apply below_alloc | apply pw_below_drewN | apply below_drew1 | refine below_set ?_ GE247.out) | exact HB.out))) (fun k_ h_ => h_)) (below_size (by repeat (first | (with_reducible first | exact HB.out | apply below_alloc | apply pw_below_drewN | apply below_drew1 | refine below_set ?_ GE247.out) | exact HB.out)))); have n1_ := Aside0.mk (blk_below (g := gb247) (o := .cells #[.int .i64 0, .int .i64 0, .int .i64 0, .slice none 0 0, .slice none 0 0] 25 (0, 0)) (by (with_reducible repeat (first | refine blk_drewN ?_ _ | refine blk_drew ?_ | refine blk_alloc ?_ _)); exact BK247.out) hb); have n2_ := Aside0.mk (below_step (by repeat (first | (with_reducible first | exact HB.out | apply below_alloc | apply pw_below_drewN | apply below_drew1 | refine below_set ?_ GE247.out) | exact HB.out)) hb); clear BK247; clear HB; have HO250 := n0_; have BK247 := n1_; have HB := n2_; clear n0_ n1_ n2_; clear hb ho6) | ((with_reducible refine gate_dst (N := 9) rfl ?_); refine Kd.R_lit (Kd.int .i64) _ 3 ?hg (N := 9) ?hd (xs := ([0, 5] : List Int)) (inner := [.int .i64 0, .int .i64 5]) (ok := fun _ => True) (okp := fun _ => True) ?hr ?hp (fun _ hk => hk) trivial (Below.refl _ _) (Nat.le_refl _) (by simp) ?_; (case hd => rfl); (case hg => rfl); (case hr => first | (go_simp; done) | (go_simp; rfl)); (case hp => exact (Reps.one (show Kd.M (Kd.int .i64) _ _ _ 0 [.int .i64 0] from rfl) (Reps.one (show Kd.M (Kd.int .i64) _ _ _ 5 [.int .i64 5] from rfl) (Reps.none _ _)))); intro v252 w7 ho8 hb hg_ hnew_; clear hg_ hnew_; (first | rw [← Ny251.out] at ho8 | (simp only [Int.reduceToNat] at ho8; rw [← Ny251.out] at ho8)); have n0_ := Aside0.mk (Kd.R_below (by (with_reducible repeat (first | apply Kd.R_alloc | apply Kd.R_drewN | apply Kd.R_drew)); exact HO250.out) hb); have n1_ := Aside0.mk (Kd.R_lower (Kd.R_newM (M := fun k_ => (w.heap.size ≤ k_)) ho8 (below_size (by repeat (first | (with_reducible first | exact HB.out | apply below_alloc | apply pw_below_drewN | apply below_drew1 | refine below_set ?_ GE247.out) | exact HB.out))) (fun k_ h_ => h_)) (below_size (by repeat (first | (with_reducible first | exact HB.out | apply below_alloc | apply pw_below_drewN | apply below_drew1 | refine below_set ?_ GE247.out) | exact HB.out)))); have n2_ := Aside0.mk (blk_below (g := gb247) (o := .cells #[.int .i64 0, .int .i64 0, .int .i64 0, .slice none 0 0, .slice none 0 0] 25 (0, 0)) (by (with_reducible repeat (first | refine blk_drewN ?_ _ | refine blk_drew ?_ | refine blk_alloc ?_ _)); exact BK247.out) hb); have n3_ := Aside0.mk (below_step (by repeat (first | (with_reducible first | exact HB.out | apply below_alloc | apply pw_below_drewN | apply below_drew1 | refine below_set ?_ GE247.out) | exact HB.out)) hb); clear HO250; clear BK247; clear HB; have HO250 := n0_; have HO253 := n1_; have BK247 := n2_; have HB := n3_; clear n0_ n1_ n2_ n3_; clear hb ho8) | ((with_reducible refine gate_dst (N := 10) rfl ?_); refine Kd.R_lit (Kd.int .i64) _ 3 ?hg (N := 10) ?hd (xs := ([3, 0] : List Int)) (inner := [.int .i64 3, .int .i64 0]) (ok := fun _ => True) (okp := fun _ => True) ?hr ?hp (fun _ hk => hk) trivial (Below.refl _ _) (Nat.le_refl _) (by simp) ?_; (case hd => rfl); (case hg => rfl); (case hr => first | (go_simp; done) | (go_simp; rfl)); (case hp => exact (Reps.one (show Kd.M (Kd.int .i64) _ _ _ 3 [.int .i64 3] from rfl) (Reps.one (show Kd.M (Kd.int .i64) _ _ _ 0 [.int .i64 0] from rfl) (Reps.none _ _)))); intro v255 w9 ho10 hb hg_ hnew_; clear hg_ hnew_; (first | rw [← Ny254.out] at ho10 | (simp only [Int.reduceToNat] at ho10; rw [← Ny254.out] at ho10)); have n0_ := Aside0.mk (Kd.R_below (by (with_reducible repeat (first | apply Kd.R_alloc | apply Kd.R_drewN | apply Kd.R_drew)); exact HO250.out) hb); have n1_ := Aside0.mk (Kd.R_elder' (by (with_reducible repeat (first | apply Kd.R_alloc | apply Kd.R_drewN | apply Kd.R_drew)); exact HO253.out) (Kd.R_base ho10) hb); have n2_ := Aside0.mk (Kd.R_lower (Kd.R_new' (Kd.R_newM (M := fun k_ => (w.heap.size ≤ k_)) ho10 (below_size (by repeat (first | (with_reducible first | exact HB.out | apply below_alloc | apply pw_below_drewN | apply below_drew1 | refine below_set ?_ GE247.out) | exact HB.out))) (fun k_ h_ => h_)) (Kd.R_lt (by (with_reducible repeat (first | apply Kd.R_alloc | apply Kd.R_drewN | apply Kd.R_drew)); exact HO253.out))) (below_size (by repeat (first | (with_reducible first | exact HB.out | apply below_alloc | apply pw_below_drewN | apply below_drew1 | refine below_set ?_ GE247.out) | exact HB.out)))); have n3_ := Aside0.mk (blk_below (g := gb247) (o := .cells #[.int .i64 0, .int .i64 0, .int .i64 0, .slice none 0 0, .slice none 0 0] 25 (0, 0)) (by (with_reducible repeat (first | refine blk_drewN ?_ _ | refine blk_drew ?_ | refine blk_alloc ?_ _)); exact BK247.out) hb); have n4_ := Aside0.mk (below_step (by repeat (first | (with_reducible first | exact HB.out | apply below_alloc | apply pw_below_drewN | apply below_drew1 | refine below_set ?_ GE247.out) | exact HB.out)) hb); clear HO250; clear HO253; clear BK247; clear HB; have HO250 := n0_; have HO253 := n1_; have HO256 := n2_; have BK247 := n3_; have HB := n4_; clear n0_ n1_ n2_ n3_ n4_; clear hb ho10; obtain ⟨Ao11, co11, eo11⟩ := Kd.R_slice HO253.out; subst eo11; obtain ⟨Ao12, co12, eo12⟩ := Kd.R_slice HO256.out; subst eo12) | ((with_reducible refine gate_dst (N := 11) rfl ?_); refine Kd.N_lit (Kd.slice 3 (Kd.int .i64)) _ 26 ?hg (N' := 11) ?hd (xs := ([y251, y254] : List (List Int))) (inner := [.slice Ao11 y251.length co11, .slice Ao12 y254.length co12]) (ok := (fun k_ => (w.heap.size ≤ k_) ∧ some k_ ≠ (v249 : Value).ownBlock ∧ k_ ≠ gb247)) (okp := (fun k_ => (w.heap.size ≤ k_) ∧ some k_ ≠ (v249 : Value).ownBlock ∧ k_ ≠ gb247)) ?hr ?hp (fun _ hk => hk) ((show ∀ k_, w9.heap.size ≤ k_ → (fun k_ => (w.heap.size ≤ k_) ∧ some k_ ≠ (v249 : Value).ownBlock ∧ k_ ≠ gb247) k_ from fun k_ hk => ⟨(Nat.le_trans (below_size (by repeat (first | (with_reducible first | exact HB.out | apply below_alloc | apply pw_below_drewN | apply below_drew1 | refine below_set ?_ GE247.out) | exact HB.out))) hk), Kd.fresh' (Kd.R_lt (by (with_reducible repeat (first | apply Kd.R_alloc | apply Kd.R_drewN | apply Kd.R_drew)); exact HO250.out)) k_ hk, Kd.freshB (g := gb247) (o := .cells #[.int .i64 0, .int .i64 0, .int .i64 0, .slice none 0 0, .slice none 0 0] 25 (0, 0)) (by (with_reducible repeat (first | refine blk_drewN ?_ _ | refine blk_drew ?_ | refine blk_alloc ?_ _)); exact BK247.out) k_ hk⟩) _ (Nat.le_refl _)) (Below.refl _ _) (Nat.le_refl _) (by simp) ?_; (case hd => rfl); (case hg => rfl); (case hr => first | (go_simp; done) | (go_simp; rfl)); (case hp => exact (Reps.one (show Kd.FK (Kd.slice 3 (Kd.int .i64)) _ _ y251 [.slice Ao11 y251.length co11] from (Kd.FK_slice_mk (Kd.R_reads' (Kd.R_mono (ok' := (fun k_ => (w.heap.size ≤ k_) ∧ some k_ ≠ (v249 : Value).ownBlock ∧ k_ ≠ gb247)) (Kd.R_types (Kd.R_apart' (HO253.out) (Kd.R_typed HO250.out) (by decide)) BK247.out (by decide)) (fun k_ hk => ⟨hk.1.1.1.1, ⟨hk.1.2, hk.2⟩⟩))).2.1 (Kd.R_F (Kd.R_mono (ok' := (fun k_ => (w.heap.size ≤ k_) ∧ some k_ ≠ (v249 : Value).ownBlock ∧ k_ ≠ gb247)) (Kd.R_types (Kd.R_apart' (HO253.out) (Kd.R_typed HO250.out) (by decide)) BK247.out (by decide)) (fun k_ hk => ⟨hk.1.1.1.1, ⟨hk.1.2, hk.2⟩⟩))))) (Reps.one (show Kd.FK (Kd.slice 3 (Kd.int .i64)) _ _ y254 [.slice Ao12 y254.length co12] from (Kd.FK_slice_mk (Kd.R_reads' (Kd.R_mono (ok' := (fun k_ => (w.heap.size ≤ k_) ∧ some k_ ≠ (v249 : Value).ownBlock ∧ k_ ≠ gb247)) (Kd.R_types (Kd.R_apart' (HO256.out) (Kd.R_typed HO250.out) (by decide)) BK247.out (by decide)) (fun k_ hk => ⟨hk.1.1.1.1, ⟨hk.1.2, hk.2⟩⟩))).2.1 (Kd.R_F (Kd.R_mono (ok' := (fun k_ => (w.heap.size ≤ k_) ∧ some k_ ≠ (v249 : Value).ownBlock ∧ k_ ≠ gb247)) (Kd.R_types (Kd.R_apart' (HO256.out) (Kd.R_typed HO250.out) (by decide)) BK247.out (by decide)) (fun k_ hk => ⟨hk.1.1.1.1, ⟨hk.1.2, hk.2⟩⟩))))) (Reps.none _ _)))); intro v258 w13 ho14 hb hg_ hnew_; clear hg_ hnew_; (first | rw [← Ny257.out] at ho14 | (simp only [Int.reduceToNat] at ho14; rw [← Ny257.out] at ho14)); have n0_ := Aside0.mk (Kd.R_below (by (with_reducible repeat (first | apply Kd.R_alloc | apply Kd.R_drewN | apply Kd.R_drew)); exact HO250.out) hb); have n1_ := Aside0.mk (Kd.N_lower ho14 (below_size (by repeat (first | (with_reducible first | exact HB.out | apply below_alloc | apply pw_below_drewN | apply below_drew1 | refine below_set ?_ GE247.out) | exact HB.out)))); have n2_ := Aside0.mk (blk_below (g := gb247) (o := .cells #[.int .i64 0, .int .i64 0, .int .i64 0, .slice none 0 0, .slice none 0 0] 25 (0, 0)) (by (with_reducible repeat (first | refine blk_drewN ?_ _ | refine blk_drew ?_ | refine blk_alloc ?_ _)); exact BK247.out) hb); have n3_ := Aside0.mk (below_step (by repeat (first | (with_reducible first | exact HB.out | apply below_alloc | apply pw_below_drewN | apply below_drew1 | refine below_set ?_ GE247.out) | exact HB.out)) hb); clear HO250; clear BK247; clear HB; clear HO253; clear HO256; have HO250 := n0_; have HO259 := n1_; have BK247 := n2_; have HB := n3_; clear n0_ n1_ n2_ n3_; clear hb ho14; obtain ⟨Ao16, co16, eo16⟩ := Kd.R_slice HO250.out; subst eo16; have q15 : (a0 : Int) ≤ ((y248.length : Int) : Int) := of_decide_eq_true (by first | (with_reducible assumption) | assumption); obtain ⟨i015, hi015, _, hsz15, _⟩ := info_parts info45; have hroom15 : y248.length ≤ co16 := (Kd.R_reads' HO250.out).2.1; have hC15 : Kd.F kTrn _ _ Ao16 y248.length y248 := (Kd.V_at (base := w.heap.size) (Kd.R_V (Kd.R_types (Kd.R_apart' (HO250.out) (Kd.N_typed HO259.out) (by decide)) BK247.out (by decide)))).2.2; have hcut15 := cut_to (P := Tryz.prog) 23 45 .i64 Tryz.underlying23 hi015 Ao16 y248.length co16 a0 (of_decide_eq_true (by first | (with_reducible assumption) | assumption)) q15 hroom15; have hr15 := Kd.F_take (m := (a0 : Int).toNat) hC15 (by omega); have hy15 : y260.length = (a0 : Int).toNat := (by rw [Ny260.out, List.length_take]; omega); rw [← Ny260.out] at hr15; rw [← hy15] at hcut15; have HO264 := Aside0.mk (show Kd.V kTrn 45 _ w.heap.size _ (.slice Ao16 y260.length co16) y260 from Kd.V_mk (by omega) hr15); have HC264 := Aside0.mk (show y260.length ≤ co16 from by omega); clear hr15 hC15 hroom15 hi015 hsz15; have KY15 := Aside0.mk hy15; clear hy15; replace q15 := eq_true q15; obtain ⟨Ao17, co17, eo17⟩ := Kd.N_slice HO259.out; subst eo17; have hcz18_0 : w13.cell? ⟨gb247, 0, none⟩ = some (.int .i64 0) := (blk_cell BK247.out 0).trans rfl; have hcz18_1 : w13.cell? ⟨gb247, 1, none⟩ = some (.int .i64 0) := (blk_cell BK247.out 1).trans rfl; have hcz18_2 : w13.cell? ⟨gb247, 2, none⟩ = some (.int .i64 0) := (blk_cell BK247.out 2).trans rfl; have hcz18_3 : w13.cell? ⟨gb247, 3, none⟩ = some (.slice none 0 0) := (blk_cell BK247.out 3).trans rfl; have hcz18_4 : w13.cell? ⟨gb247, 4, none⟩ = some (.slice none 0 0) := (blk_cell BK247.out 4).trans rfl; have hfz18_0 := blk_frozen BK247.out 0; have hfz18_1 := blk_frozen BK247.out 1; have hfz18_2 := blk_frozen BK247.out 2; have hfz18_3 := blk_frozen BK247.out 3; have hfz18_4 := blk_frozen BK247.out 4))
      refine bodyPost_ret (results_cell_row rfl _ _ gb247 25 #[.int .i64 1, .int .i64 100, .int .i64 200, .slice Ao17 y257.length co17, .slice Ao16 y260.length co16] (0, 0) _ rfl (by (with_reducible repeat (first | refine blk_drewN ?_ _ | refine blk_drew ?_ | refine blk_alloc ?_ _)); refine blk_put (cs := #[.int .i64 1, .int .i64 100, .int .i64 200, .slice Ao17 y257.length co17, .slice none 0 0]) ?_ 4 _ rfl; (with_reducible repeat (first | refine blk_drewN ?_ _ | refine blk_drew ?_ | refine blk_alloc ?_ _)); refine blk_put (cs := #[.int .i64 1, .int .i64 100, .int .i64 200, .slice none 0 0, .slice none 0 0]) ?_ 3 _ rfl; (with_reducible repeat (first | refine blk_drewN ?_ _ | refine blk_drew ?_ | refine blk_alloc ?_ _)); refine blk_put (cs := #[.int .i64 1, .int .i64 100, .int .i64 0, .slice none 0 0, .slice none 0 0]) ?_ 2 _ rfl; (with_reducible repeat (first | refine blk_drewN ?_ _ | refine blk_drew ?_ | refine blk_alloc ?_ _)); refine blk_put (cs := #[.int .i64 1, .int .i64 0, .int .i64 0, .slice none 0 0, .slice none 0 0]) ?_ 1 _ rfl; (with_reducible repeat (first | refine blk_drewN ?_ _ | refine blk_drew ?_ | refine blk_alloc ?_ _)); refine blk_put (cs := #[.int .i64 0, .int .i64 0, .int .i64 0, .slice none 0 0, .slice none 0 0]) ?_ 0 _ rfl; (with_reducible repeat (first | refine blk_drewN ?_ _ | refine blk_drew ?_ | refine blk_alloc ?_ _)); exact BK247.out) Tryz.underlying25 rfl (by kernel_rfl)) rfl ?_
      exact ⟨_, _, by first | rfl | (simp [errW_none, errW_some] <;> rfl) | (simp [*, errW_none, errW_some] <;> rfl), by (with_reducible repeat (first | apply Kd.N_alloc | apply Kd.N_drewN | apply Kd.N_drew)); exact Kd.N_mono (Kd.N_far (p := ⟨gb247, 4, none⟩) (Kd.N_far (p := ⟨gb247, 3, none⟩) (Kd.N_far (p := ⟨gb247, 2, none⟩) (Kd.N_far (p := ⟨gb247, 1, none⟩) (Kd.N_far (p := ⟨gb247, 0, none⟩) (Kd.N_mono HO259.out (fun k_ hk => (⟨hk, hk.2.2⟩ : _ ∧ k_ ≠ gb247))) (fun _ hk => hk.2) (.int .i64 1)) (fun _ hk => hk.2) (.int .i64 100)) (fun _ hk => hk.2) (.int .i64 200)) (fun _ hk => hk.2) (.slice Ao17 y257.length co17)) (fun _ hk => hk.2) (.slice Ao16 y260.length co16)) (fun _ hk => hk.1.1), by (with_reducible repeat (first | apply Kd.V_alloc | apply Kd.V_drewN | apply Kd.V_drew)); exact Kd.V_mono (Kd.V_far (p := ⟨gb247, 4, none⟩) (Kd.V_far (p := ⟨gb247, 3, none⟩) (Kd.V_far (p := ⟨gb247, 2, none⟩) (Kd.V_far (p := ⟨gb247, 1, none⟩) (Kd.V_far (p := ⟨gb247, 0, none⟩) (Kd.V_mono HO264.out (fun k_ hk => (⟨hk, hk.2⟩ : _ ∧ k_ ≠ gb247))) (fun _ hk => hk.2) (.int .i64 1)) (fun _ hk => hk.2) (.int .i64 100)) (fun _ hk => hk.2) (.int .i64 200)) (fun _ hk => hk.2) (.slice Ao17 y257.length co17)) (fun _ hk => hk.2) (.slice Ao16 y260.length co16)) (fun _ hk => ⟨hk.1.1.1.1, hk.1.1.2⟩), by repeat (first | (with_reducible first | exact HB.out | apply below_alloc | apply pw_below_drewN | apply below_drew1 | refine below_set ?_ GE247.out) | exact HB.out)⟩
    · rw [if_neg c3] at H
      exact absurd H (by simp)
  · rw [if_neg c2] at H
    exact absurd H (by simp)
def law_few.l0 : Nat → List (List Int) → Int → Int → Int → Int → Int → List (List Int) → List (Trn) → Option (Bool)
  | 0, _, _, _, _, _, _, _, _ => none
  | k + 1, x7, x8, x9, x276000, x276001, x276002, x276003, x276004 => if x9 < x8 then (if 0 ≤ x9 then (if x9 < (x7.length : Int) then (if ((rd_L1 x7 x9).length : Int) > 100 then (some false) else (law_few.l0 k x7 x8 (wrap64 (x9 + 1)) x276000 x276001 x276002 x276003 x276004)) else (none)) else (none)) else (if (x276003.length : Int) ≤ 100 then (some (decide ((x276004.length : Int) ≤ 100))) else (some false))
def law_few.f (k : Nat) (a0_0 : Int) (a0_1 : Int) (a0_2 : Int) (l0_3 : List (List Int)) (l0_4 : List (Trn)) (l1 : List (List Int)) : Option (Bool) := law_few.l0 k l1 (l1.length : Int) 0 a0_0 a0_1 a0_2 l0_3 l0_4
theorem law_few.mono_l : ∀ k, (∀ y0 y1 y2 y3 y4 y5 y6 y7, LeO (law_few.l0 k y0 y1 y2 y3 y4 y5 y6 y7) (law_few.l0 (k + 1) y0 y1 y2 y3 y4 y5 y6 y7))
  | 0 => fun _ _ _ _ _ _ _ _ r h => by simp [law_few.l0] at h
  | k + 1 => by
    have ih0 := law_few.mono_l k
    · intro y0 y1 y2 y3 y4 y5 y6 y7
      unfold law_few.l0
      repeat' first
      | (with_reducible exact ih0 _ _ _ _ _ _ _ _)
      | (with_reducible exact LeO.refl _)
      | (with_reducible exact LeO.none _)
      | (with_reducible refine LeO.ite ?_ ?_)
      | (with_reducible refine LeO.bind ?_ (fun _ => ?_))
      | exact ih0 _ _ _ _ _ _ _ _
      | exact LeO.none _
      | refine LeO.ite ?_ ?_
      | refine LeO.bind ?_ (fun _ => ?_)
theorem law_few.mono : ∀ a0 a1 a2 a3 a4 a5 k, LeO (law_few.f k a0 a1 a2 a3 a4 a5) (law_few.f (k + 1) a0 a1 a2 a3 a4 a5) := by
  intro a0 a1 a2 a3 a4 a5 k
  have ih0 := law_few.mono_l k
  unfold law_few.f
  repeat' first
      | (with_reducible exact ih0 _ _ _ _ _ _ _ _)
      | (with_reducible exact LeO.refl _)
      | (with_reducible exact LeO.none _)
      | (with_reducible refine LeO.ite ?_ ?_)
      | (with_reducible refine LeO.bind ?_ (fun _ => ?_))
      | exact ih0 _ _ _ _ _ _ _ _
      | exact LeO.none _
      | refine LeO.ite ?_ ?_
      | refine LeO.bind ?_ (fun _ => ?_)
set_option maxHeartbeats 8000000 in
set_option maxRecDepth 100000 in
theorem law_few.calls (k : Nat) (a0_0 : Int) (a0_1 : Int) (a0_2 : Int) (A0_3 : Option Addr) (c0_3 : Nat) (l0_3 : List (List Int)) (A0_4 : Option Addr) (c0_4 : Nat) (l0_4 : List (Trn)) (A1 : Option Addr) (c1 : Nat) (l1 : List (List Int)) (r : Bool) (w : World) (hr0_3 : Kd.C (Kd.slice 3 (Kd.int .i64)) w A0_3 l0_3.length l0_3) (hc0_3 : l0_3.length ≤ c0_3) (hr0_4 : Kd.C kTrn w A0_4 l0_4.length l0_4) (hc0_4 : l0_4.length ≤ c0_4) (hr1 : Kd.C (Kd.slice 3 (Kd.int .i64)) w A1 l1.length l1) (hc1 : l1.length ≤ c1) (h : law_few.f k a0_0 a0_1 a0_2 l0_3 l0_4 l1 = some r) :
    Calls Tryz.prog 18 #[.agg #[.int .i64 a0_0, .int .i64 a0_1, .int .i64 a0_2, .slice A0_3 l0_3.length c0_3, .slice A0_4 l0_4.length c0_4], .slice A1 l1.length c1] w fun e w' => e = .returned (.bool r) ∧ Below w.heap.size w w' := by
  have hu25 := Tryz.underlying25
  have HR0_3 := Aside0.mk hr0_3
  have HC0_3 := Aside0.mk hc0_3
  clear hr0_3 hc0_3
  have HR0_4 := Aside0.mk hr0_4
  have HC0_4 := Aside0.mk hc0_4
  clear hr0_4 hc0_4
  have HR1 := Aside0.mk hr1
  have HC1 := Aside0.mk hc1
  clear hr1 hc1
  have HB := Aside0.mk (Below.refl w.heap.size w)
  have H : (law_few.l0 k l1 (l1.length : Int) 0 a0_0 a0_1 a0_2 l0_3 l0_4) = some r := h
  clear h
  have H' := Aside0.mk H
  clear H
  go_enter Tryz.func18, Tryz.ntmps18
  go_wp2_with (first | ((with_reducible refine gate_dst (N := 2) rfl ?_); (try (refine gate_guard (by rfl) ?_; dsimp only)); refine box_event ?hg (N := 2) ?hd (cs := #[.int .i64 a0_0, .int .i64 a0_1, .int .i64 a0_2, .slice A0_3 l0_3.length c0_3, .slice A0_4 l0_4.length c0_4]) (t := 25) ?hr ?_; (case hd => rfl); (case hg => rfl); (case hr => first | (go_simp; done) | (go_simp; rfl)); intro gb275 hg w3 hbox hb; have n0_ := Aside0.mk (below_step (by repeat (first | (with_reducible first | exact HB.out | apply below_alloc | apply pw_below_drewN | apply below_drew1) | exact HB.out)) hb); have n1_ := Aside0.mk (hbox); have n2_ := Aside0.mk ((by rw [hg]; exact (below_size (by repeat (first | (with_reducible first | exact HB.out | apply below_alloc | apply pw_below_drewN | apply below_drew1) | exact HB.out))) : w.heap.size ≤ gb275)); have n3_ := Aside0.mk ((by rw [hg]; exact (below_size (by repeat (first | (with_reducible first | exact HB.out | apply below_alloc | apply pw_below_drewN | apply below_drew1) | exact HB.out))) : w.heap.size ≤ gb275)); clear HB; have HB := n0_; have BK275 := n1_; have GW275 := n2_; have GE275 := n3_; clear n0_ n1_ n2_ n3_; clear hb hbox hg))
  go_loopg [9] k (fun kq v9 w' => ∃ (x9_1 : Int), v9 = .int .i64 x9_1 ∧ Aside0 (law_few.l0 kq l1 (l1.length : Int) x9_1 a0_0 a0_1 a0_2 l0_3 l0_4 = some r) ∧ Aside0 (kq ≤ k) ∧ Aside0 (w'.heap[gb275]? = some (.cells #[.int .i64 a0_0, .int .i64 a0_1, .int .i64 a0_2, (.slice A0_3 l0_3.length c0_3), (.slice A0_4 l0_4.length c0_4)] 25 (0, 0))) ∧ Aside0 (Below w.heap.size w w'))
  case atStart => exact ⟨(0), (by first | rfl | (simp; done) | (simp [*]; done)), H', ⟨Nat.le_refl _⟩, ⟨by (with_reducible repeat (first | refine blk_drewN ?_ _ | refine blk_drew ?_ | refine blk_alloc ?_ _)); exact BK275.out⟩, ⟨by repeat (first | (with_reducible first | exact HB.out | apply below_alloc | apply pw_below_drewN | apply below_drew1 | refine below_set ?_ GE275.out) | exact HB.out)⟩⟩
  case round =>
    clear H'
    try clear c1
    try clear p2
    obtain ⟨x9_1, rfl, HA, HK1, BK275, HB⟩ := hrel
    cases gk with
    | zero => exact absurd HA.out (by simp [law_few.l0])
    | succ k1 =>
      have H := HA.out
      clear HA
      simp only [law_few.l0] at H
      by_cases c4 : x9_1 < (l1.length : Int)
      · rw [if_pos c4] at H
        have c4b0 : decide (x9_1 < (l1.length : Int)) = true := decide_eq_true c4
        clear c4
        by_cases c5 : 0 ≤ x9_1
        · rw [if_pos c5] at H
          have c5b0 : decide (0 ≤ x9_1) = true := decide_eq_true c5
          clear c5
          by_cases c6 : x9_1 < (l1.length : Int)
          · rw [if_pos c6] at H
            have c6b0 : decide (x9_1 < (l1.length : Int)) = true := decide_eq_true c6
            clear c6
            by_cases c7 : ((rd_L1 l1 x9_1).length : Int) > 100
            · rw [if_pos c7] at H
              have c7b0 : decide (100 < ((rd_L1 l1 x9_1).length : Int)) = true := decide_eq_true c7
              have c7b1 : decide (100 < (rd_L1 l1 x9_1).length) = true := decide_eq_true (by omega)
              clear c7
              obtain rfl := Option.some.inj H
              have p276 : 0 ≤ (x9_1 : Int) := of_decide_eq_true (by first | (with_reducible assumption) | assumption)
              have q276 : x9_1 < (l1.length : Int) := of_decide_eq_true (by first | (with_reducible assumption) | assumption)
              obtain ⟨ad276, A276_0, c276_0, e276, hx276_0, hl276_0, hi276_0⟩ := at_L1 HR1.out x9_1 p276 q276
              cases e276
              replace hx276_0 := (HB.out.cell (World.block_lt_of_cell? w _ hx276_0)).trans hx276_0
              have HR276_0 := Aside0.mk hi276_0
              have HC276_0 := Aside0.mk hl276_0
              clear hi276_0 hl276_0
              replace p276 := eq_true p276
              replace q276 := eq_true q276
              go_wp2
              go_ret
              exact ⟨by first | rfl | (simp [errW_none, errW_some] <;> rfl) | (simp [*, errW_none, errW_some] <;> rfl), by repeat (first | (with_reducible first | exact HB.out | apply below_alloc | apply pw_below_drewN | apply below_drew1 | refine below_set ?_ GE275.out) | exact HB.out)⟩
            · rw [if_neg c7] at H
              have c7b0 : decide (100 < ((rd_L1 l1 x9_1).length : Int)) = false := decide_eq_false c7
              have c7b1 : decide (100 < (rd_L1 l1 x9_1).length) = false := decide_eq_false (by omega)
              clear c7
              have H' := Aside0.mk H
              clear H
              have p276 : 0 ≤ (x9_1 : Int) := of_decide_eq_true (by first | (with_reducible assumption) | assumption)
              have q276 : x9_1 < (l1.length : Int) := of_decide_eq_true (by first | (with_reducible assumption) | assumption)
              obtain ⟨ad276, A276_0, c276_0, e276, hx276_0, hl276_0, hi276_0⟩ := at_L1 HR1.out x9_1 p276 q276
              cases e276
              replace hx276_0 := (HB.out.cell (World.block_lt_of_cell? w _ hx276_0)).trans hx276_0
              have HR276_0 := Aside0.mk hi276_0
              have HC276_0 := Aside0.mk hl276_0
              clear hi276_0 hl276_0
              replace p276 := eq_true p276
              replace q276 := eq_true q276
              go_wp2
              go_roundg k1
              case measure => have := HK1.out; omega
              case rel => exact ⟨(wrap64 (x9_1 + 1)), (by first | rfl | (simp; done) | (simp [*]; done)), H', ⟨by have := HK1.out; omega⟩, ⟨by (with_reducible repeat (first | refine blk_drewN ?_ _ | refine blk_drew ?_ | refine blk_alloc ?_ _)); exact BK275.out⟩, ⟨by repeat (first | (with_reducible first | exact HB.out | apply below_alloc | apply pw_below_drewN | apply below_drew1 | refine below_set ?_ GE275.out) | exact HB.out)⟩⟩
          · rw [if_neg c6] at H
            exact absurd H (by simp)
        · rw [if_neg c5] at H
          exact absurd H (by simp)
      · rw [if_neg c4] at H
        have c4b0 : decide (x9_1 < (l1.length : Int)) = false := decide_eq_false c4
        clear c4
        by_cases c8 : (l0_3.length : Int) ≤ 100
        · rw [if_pos c8] at H
          have c8b0 : decide ((l0_3.length : Int) ≤ 100) = true := decide_eq_true c8
          have c8b1 : decide (l0_3.length ≤ 100) = true := decide_eq_true (by omega)
          clear c8
          obtain rfl := Option.some.inj H
          have hcz9_0 : wr.cell? ⟨gb275, 0, none⟩ = some (.int .i64 a0_0) := (blk_cell BK275.out 0).trans rfl
          have hcz9_1 : wr.cell? ⟨gb275, 1, none⟩ = some (.int .i64 a0_1) := (blk_cell BK275.out 1).trans rfl
          have hcz9_2 : wr.cell? ⟨gb275, 2, none⟩ = some (.int .i64 a0_2) := (blk_cell BK275.out 2).trans rfl
          have hcz9_3 : wr.cell? ⟨gb275, 3, none⟩ = some (.slice A0_3 l0_3.length c0_3) := (blk_cell BK275.out 3).trans rfl
          have hcz9_4 : wr.cell? ⟨gb275, 4, none⟩ = some (.slice A0_4 l0_4.length c0_4) := (blk_cell BK275.out 4).trans rfl
          have hfz9_0 := blk_frozen BK275.out 0
          have hfz9_1 := blk_frozen BK275.out 1
          have hfz9_2 := blk_frozen BK275.out 2
          have hfz9_3 := blk_frozen BK275.out 3
          have hfz9_4 := blk_frozen BK275.out 4
          go_wp2
          go_ret
          exact ⟨by first | rfl | (simp [errW_none, errW_some] <;> rfl) | (simp [*, errW_none, errW_some] <;> rfl), by repeat (first | (with_reducible first | exact HB.out | apply below_alloc | apply pw_below_drewN | apply below_drew1 | refine below_set ?_ GE275.out) | exact HB.out)⟩
        · rw [if_neg c8] at H
          have c8b0 : decide ((l0_3.length : Int) ≤ 100) = false := decide_eq_false c8
          have c8b1 : decide (l0_3.length ≤ 100) = false := decide_eq_false (by omega)
          clear c8
          obtain rfl := Option.some.inj H
          have hcz10_0 : wr.cell? ⟨gb275, 0, none⟩ = some (.int .i64 a0_0) := (blk_cell BK275.out 0).trans rfl
          have hcz10_1 : wr.cell? ⟨gb275, 1, none⟩ = some (.int .i64 a0_1) := (blk_cell BK275.out 1).trans rfl
          have hcz10_2 : wr.cell? ⟨gb275, 2, none⟩ = some (.int .i64 a0_2) := (blk_cell BK275.out 2).trans rfl
          have hcz10_3 : wr.cell? ⟨gb275, 3, none⟩ = some (.slice A0_3 l0_3.length c0_3) := (blk_cell BK275.out 3).trans rfl
          have hcz10_4 : wr.cell? ⟨gb275, 4, none⟩ = some (.slice A0_4 l0_4.length c0_4) := (blk_cell BK275.out 4).trans rfl
          have hfz10_0 := blk_frozen BK275.out 0
          have hfz10_1 := blk_frozen BK275.out 1
          have hfz10_2 := blk_frozen BK275.out 2
          have hfz10_3 := blk_frozen BK275.out 3
          have hfz10_4 := blk_frozen BK275.out 4
          go_wp2
          go_ret
          exact ⟨by first | rfl | (simp [errW_none, errW_some] <;> rfl) | (simp [*, errW_none, errW_some] <;> rfl), by repeat (first | (with_reducible first | exact HB.out | apply below_alloc | apply pw_below_drewN | apply below_drew1 | refine below_set ?_ GE275.out) | exact HB.out)⟩
end Go.Proofs.YtflolfbkpjgjaaaGreatDoor
end
section
namespace Go.Proofs.YtflolfbkpjgjaaaGreatDoor
open Go.RowKit Go.Proofs.YtflolfbkpjgjaaaGreatDoorW.PrintWords
open Go.Proofs.YtflolfbkpjgjaaaGreatDoorW.PrintMore
def o107_1_0 : Oper := { dst := some 6, op := Op.load 25 (Operand.tmp 1), type := 25, pos := "plan.go:280", after := #[], guard := none }
def o107_1_1 : Oper := { dst := some 7, op := Op.move (Operand.tmp 0), type := 3, pos := "plan.go:280", after := #[], guard := none }
def o107_1_2 : Oper := { dst := some 8, op := Op.load 3 (Operand.tmp 2), type := 3, pos := "plan.go:280", after := #[], guard := none }
def o107_1_3 : Oper := { dst := some 9, op := Op.call { callee := Callee.value (Operand.func 99), args := #[Operand.tmp 6, Operand.tmp 7, Operand.tmp 8], argTypes := #[25, 3, 3] }, type := 4, pos := "plan.go:280", after := #[{ on := 0, ground := Ground.data }, { on := 1, ground := Ground.data }, { on := 2, ground := Ground.data }], guard := none }
def o107_1_4 : Oper := { dst := some 10, op := Op.move (Operand.tmp 9), type := 4, pos := "plan.go:280", after := #[{ on := 3, ground := Ground.data }, { on := 3, ground := Ground.chain }], guard := none }
def o107_1_5 : Oper := { dst := some 11, op := Op.load 26 (Operand.tmp 3), type := 26, pos := "plan.go:280", after := #[{ on := 4, ground := Ground.guard }], guard := some (4, true) }
def o107_1_6 : Oper := { dst := some 12, op := Op.load 3 (Operand.tmp 2), type := 3, pos := "plan.go:280", after := #[{ on := 4, ground := Ground.guard }], guard := some (4, true) }
def o107_1_7 : Oper := { dst := some 13, op := Op.indexAddr 26 (Operand.tmp 11) (Operand.tmp 12), type := 0, pos := "plan.go:280", after := #[{ on := 5, ground := Ground.data }, { on := 6, ground := Ground.data }, { on := 4, ground := Ground.guard }], guard := some (4, true) }
def o107_1_8 : Oper := { dst := some 14, op := Op.load 3 (Operand.tmp 13), type := 3, pos := "plan.go:280", after := #[{ on := 7, ground := Ground.data }, { on := 4, ground := Ground.guard }], guard := some (4, true) }
def o107_1_9 : Oper := { dst := some 15, op := Op.load 26 (Operand.tmp 3), type := 26, pos := "plan.go:280", after := #[{ on := 4, ground := Ground.guard }], guard := some (4, true) }
def o107_1_10 : Oper := { dst := some 16, op := Op.move (Operand.tmp 0), type := 3, pos := "plan.go:280", after := #[{ on := 4, ground := Ground.guard }], guard := some (4, true) }
def o107_1_11 : Oper := { dst := some 17, op := Op.indexAddr 26 (Operand.tmp 15) (Operand.tmp 16), type := 0, pos := "plan.go:280", after := #[{ on := 9, ground := Ground.data }, { on := 10, ground := Ground.data }, { on := 4, ground := Ground.guard }], guard := some (4, true) }
def o107_1_12 : Oper := { dst := some 18, op := Op.load 3 (Operand.tmp 17), type := 3, pos := "plan.go:280", after := #[{ on := 11, ground := Ground.data }, { on := 4, ground := Ground.guard }], guard := some (4, true) }
def o107_1_13 : Oper := { dst := some 19, op := Op.fieldAddr 25 (Operand.tmp 1) 4, type := 0, pos := "plan.go:280", after := #[{ on := 4, ground := Ground.guard }], guard := some (4, true) }
def o107_1_14 : Oper := { dst := some 20, op := Op.load 23 (Operand.tmp 19), type := 23, pos := "plan.go:280", after := #[{ on := 13, ground := Ground.data }, { on := 4, ground := Ground.guard }], guard := some (4, true) }
def o107_1_15 : Oper := { dst := some 21, op := Op.load 3 (Operand.tmp 2), type := 3, pos := "plan.go:280", after := #[{ on := 4, ground := Ground.guard }], guard := some (4, true) }
def o107_1_16 : Oper := { dst := some 22, op := Op.indexAddr 23 (Operand.tmp 20) (Operand.tmp 21), type := 0, pos := "plan.go:280", after := #[{ on := 14, ground := Ground.data }, { on := 15, ground := Ground.data }, { on := 4, ground := Ground.guard }], guard := some (4, true) }
def o107_1_17 : Oper := { dst := some 23, op := Op.fieldAddr 45 (Operand.tmp 22) 5, type := 0, pos := "plan.go:280", after := #[{ on := 16, ground := Ground.data }, { on := 4, ground := Ground.guard }], guard := some (4, true) }
def o107_1_18 : Oper := { dst := some 24, op := Op.load 3 (Operand.tmp 23), type := 3, pos := "plan.go:280", after := #[{ on := 17, ground := Ground.data }, { on := 4, ground := Ground.guard }], guard := some (4, true) }
def o107_1_19 : Oper := { dst := some 25, op := Op.binOp BinOp.add 3 (Operand.tmp 18) (Operand.tmp 24) 3, type := 3, pos := "plan.go:280", after := #[{ on := 12, ground := Ground.data }, { on := 18, ground := Ground.data }, { on := 4, ground := Ground.guard }], guard := some (4, true) }
def o107_1_20 : Oper := { dst := some 26, op := Op.binOp BinOp.gtr 3 (Operand.tmp 14) (Operand.tmp 25) 3, type := 4, pos := "plan.go:280", after := #[{ on := 8, ground := Ground.data }, { on := 19, ground := Ground.data }, { on := 4, ground := Ground.guard }], guard := some (4, true) }
def o107_1_21 : Oper := { dst := some 27, op := Op.pick (Operand.tmp 10) (Operand.tmp 26) (Operand.const (Value.bool false)), type := 4, pos := "plan.go:280", after := #[{ on := 4, ground := Ground.data }, { on := 20, ground := Ground.data }], guard := none }
def o107_1_22 : Oper := { dst := some 5, op := Op.assign (Operand.tmp 27), type := 4, pos := "plan.go:280", after := #[{ on := 21, ground := Ground.data }, { on := 4, ground := Ground.chain }, { on := 0, ground := Ground.phase }, { on := 1, ground := Ground.phase }, { on := 2, ground := Ground.phase }, { on := 3, ground := Ground.phase }, { on := 4, ground := Ground.phase }, { on := 5, ground := Ground.phase }, { on := 6, ground := Ground.phase }, { on := 7, ground := Ground.phase }, { on := 8, ground := Ground.phase }, { on := 9, ground := Ground.phase }, { on := 10, ground := Ground.phase }, { on := 11, ground := Ground.phase }, { on := 12, ground := Ground.phase }, { on := 13, ground := Ground.phase }, { on := 14, ground := Ground.phase }, { on := 15, ground := Ground.phase }, { on := 16, ground := Ground.phase }, { on := 17, ground := Ground.phase }, { on := 18, ground := Ground.phase }, { on := 19, ground := Ground.phase }, { on := 20, ground := Ground.phase }, { on := 21, ground := Ground.phase }], guard := none }
def outP (n : Int) : Bool := !inB n 0 1048576
set_option maxHeartbeats 2000000 in
set_option maxRecDepth 100000 in
theorem price1_calls (n : Int) (w : World) : Calls Tryz.prog 104 #[.int .i64 n] w fun e w' => e = .returned (.bool (outP n)) ∧ w = w' := by
  unfold outP
  go_enter Tryz.func104, Tryz.ntmps104
  go_wp2_with (go_at_call 103; refine (within_in _ _ _ _).mono ?_; rintro e w' ⟨rfl, rfl⟩)
  go_ret
  exact ⟨rfl, rfl⟩
theorem price1_pred (D : Int → Prop) (w : World) : PredIn 104 #[] outP D w :=
  fun W x _ hW => (price1_calls x W).mono fun e w' ⟨he, hw⟩ => ⟨he, hw ▸ Below.refl _ _⟩
theorem enter104 : CanEnter 104 := Go.Proofs.enters_of Tryz.func104 (by kernel_rfl) rfl
structure PrOk (r : Ros) (p : List Int) : Prop where
  len : p.length = r.turns.length
  bnd : ∀ x ∈ p, 0 ≤ x ∧ x ≤ 1048576
theorem PrOk.at_ {r : Ros} {p : List Int} (h : PrOk r p) {i : Int} (i0 : 0 ≤ i) (i1 : i < r.turns.length) : 0 ≤ sh p i ∧ sh p i ≤ 1048576 := by
  unfold sh
  rw [List.getD_eq_getElem?_getD, List.getElem?_eq_getElem (by rw [h.len]; omega)]
  exact h.bnd _ (List.getElem_mem _)
def chB (r : Ros) (p : List Int) (i k : Int) : Bool := folB r k i && decide (sh p k + (tn r i).cost < sh p i)
set_option maxHeartbeats 4000000 in
set_option maxRecDepth 100000 in
theorem ch_calls (k i : Int) (br bi bp : Nat) (r : Ros) (lv : Value) (p : List Int) (w : World) (V : Valid r) (hb : BoxAt w br r) (hbi : w.heap[bi]? = some (.cells #[.int .i64 i] 3 (0, 0))) (hbp : w.heap[bp]? = some (.cells #[lv] 26 (0, 0))) (hl : IntsAt w lv p) (hp : PrOk r p) (k0 : 0 ≤ k) (k1 : k < r.turns.length) (i0 : 0 ≤ i) (i1 : i < r.turns.length) :
    Calls Tryz.prog 107 #[.int .i64 k, .pointer (some ⟨br, 0, none⟩), .pointer (some ⟨bi, 0, none⟩), .pointer (some ⟨bp, 0, none⟩)] w fun e w' => e = .returned (.bool (chB r p i k)) ∧ Below w.heap.size w w' := by
  obtain ⟨A, c, T, d, h1, h2⟩ := hb.ex
  have hR := Aside0.mk h2
  obtain ⟨q0, q1, q2, q3, q4⟩ := rosC_cells h1
  have HBR := Aside0.mk h1
  have HBI := Aside0.mk hbi
  have HBP := Aside0.mk hbp
  obtain ⟨A', c', T', d', e, h21, h22, h23, h24⟩ := h2
  cases e
  obtain ⟨ad, hAd, g0, g1, g2, g3, g4, g5⟩ := CT_at h24 i i0 i1
  cases hAd
  have vt := V.turn i i0 i1
  have HT : Aside0 (r.turns.getD i.toNat Trn.z = tn r i) := ⟨rfl⟩
  rw [HT.out] at g5
  have hfol := fun w (h : RosAt w (.agg (rosC r A c (some ad) d)) r) => follows_calls (.agg (rosC r A c (some ad) d)) r k i w h V k0 k1 i0 i1
  obtain ⟨A1, c1, rfl, hc1, hl1⟩ := hl
  rw [hp.len] at hl1 hc1 HBP
  obtain ⟨ap, hAp, x1⟩ := CI_at hl1 i i0 i1
  cases hAp
  obtain ⟨ap', hAp', x2⟩ := CI_at hl1 k k0 k1
  cases hAp'
  change w.cell? _ = some (.int .i64 (sh p i)) at x1
  change w.cell? _ = some (.int .i64 (sh p k)) at x2
  have q5 : w.cell? ⟨bi, 0, none⟩ = some (.int .i64 i) := (blk_cell hbi 0).trans rfl
  have q6 : w.cell? ⟨bp, 0, none⟩ = some (.slice (some ap) r.turns.length c1) := (blk_cell HBP.out 0).trans rfl
  have b1 := hp.at_ k0 k1
  have vc := vt.2.2.2.2.2
  clear h1 h23 h24 hb hl1 vt hbi hbp hp HT g0 g1 g2 g3 g4 V
  have hw1 : IntKind.i64.wrap (sh p k + (tn r i).cost) = sh p k + (tn r i).cost := IntWalk.i64_in _ (by omega)
  unfold chB
  generalize folB r k i = m1 at *
  generalize sh p i = pi at *
  generalize sh p k = pk at *
  generalize tn r i = t at *
  go_enter Tryz.func107, Tryz.ntmps107
  go_wp2
  refine wp_region_held_drew (S := (fun w' => (w'.cell? ⟨br, 0, none⟩ = some (.int .i64 r.gates) ∧ w'.cell? ⟨br, 1, none⟩ = some (.int .i64 r.frm) ∧ w'.cell? ⟨br, 2, none⟩ = some (.int .i64 r.til) ∧ w'.cell? ⟨br, 3, none⟩ = some (.slice A r.ahead.length c) ∧ w'.cell? ⟨br, 4, none⟩ = some (.slice (some ad) r.turns.length d)) ∧ w'.cell? ⟨bi, 0, none⟩ = some (.int .i64 i) ∧ w'.cell? ⟨bp, 0, none⟩ = some (.slice (some ap) r.turns.length c1) ∧ w'.cell? (ap.add i.toNat) = some (.int .i64 pi) ∧ w'.cell? (ap.add k.toNat) = some (.int .i64 pk) ∧ w'.cell? ⟨(ad.add (i.toNat * 6)).block, (ad.add (i.toNat * 6)).off + 5, none⟩ = some (.int .i64 t.cost))) (by kernel_rfl) ?_ (fun hH0 => ?_)
  · go_keep
  refine tk 0 (oi := o107_1_0) (v := ?_) rfl (by kernel_rfl) (fun _ _ _ h => h) (by rfl) ?_ hH0 ?_
  rotate_left
  · (intro w hSw; (try dsimp only at hSw); unfold o107_1_0; go_simp <;> (with_reducible rfl))
  simp only [Act.put, o107_1_0, List.setIfInBounds_toArray, List.set_cons_zero, List.set_cons_succ]
  refine tk 1 (oi := o107_1_1) (v := ?_) rfl (by kernel_rfl) (fun _ _ _ h => h) (by rfl) ?_ hH0 ?_
  rotate_left
  · (intro w hSw; (try dsimp only at hSw); unfold o107_1_1; go_simp <;> (with_reducible rfl))
  simp only [Act.put, o107_1_1, List.setIfInBounds_toArray, List.set_cons_zero, List.set_cons_succ]
  refine tk 2 (oi := o107_1_2) (v := ?_) rfl (by kernel_rfl) (fun _ _ _ h => h) (by rfl) ?_ hH0 ?_
  rotate_left
  · (intro w hSw; (try dsimp only at hSw); unfold o107_1_2; go_simp <;> (with_reducible rfl))
  simp only [Act.put, o107_1_2, List.setIfInBounds_toArray, List.set_cons_zero, List.set_cons_succ]
  refine wpAnyH_ready (rs := [3]) (by kernel_rfl) (by simp) (AllReadyH.cons (o := o107_1_3) rfl (fun K' hK' => ?_) AllReadyH.nil)
  unfold o107_1_3
  go_simp
  go_at_call 99; refine (hfol _ (hR.out.below (below_drew (Below.refl _ _)))).mono ?_; rintro e w5 ⟨rfl, hb_⟩; have HB5 := Aside0.mk (below_step (below_drew (Below.refl _ w)) hb_); obtain ⟨s0, s1, s2, s3, s4⟩ := rosC_cells (blk_below (w := w.drew) HBR.out hb_); have s5 : w5.cell? ⟨bi, 0, none⟩ = some (.int .i64 i) := (blk_cell (blk_below (w := w.drew) HBI.out hb_) 0).trans rfl; have s6 : w5.cell? ⟨bp, 0, none⟩ = some (.slice (some ap) r.turns.length c1) := (blk_cell (blk_below (w := w.drew) HBP.out hb_) 0).trans rfl; have s7 := pw_cell_below (w := w.drew) hb_ x1; have s8 := pw_cell_below (w := w.drew) hb_ x2; have s9 := pw_cell_below (w := w.drew) hb_ g5; clear hb_
  refine hK'.out _ _ (by go_keep) (fun hH1 => ?_)
  clear hK' K'
  try simp only [Act.put, List.setIfInBounds_toArray, List.set_cons_zero, List.set_cons_succ]
  refine tk 4 (oi := o107_1_4) (v := ?_) rfl (by kernel_rfl) (fun _ _ _ h => h) (by rfl) ?_ hH1 ?_
  rotate_left
  · (intro w hSw; (try dsimp only at hSw); unfold o107_1_4; go_simp <;> (with_reducible rfl))
  simp only [Act.put, o107_1_4, List.setIfInBounds_toArray, List.set_cons_zero, List.set_cons_succ]
  cases m1
  · refine tu 5 (oi := o107_1_5) rfl (by kernel_rfl) (fun _ _ _ h => h) (by rfl) hH1 ?_
    simp only [Act.put, o107_1_5, List.setIfInBounds_toArray, List.set_cons_zero, List.set_cons_succ]
    refine tu 6 (oi := o107_1_6) rfl (by kernel_rfl) (fun _ _ _ h => h) (by rfl) hH1 ?_
    simp only [Act.put, o107_1_6, List.setIfInBounds_toArray, List.set_cons_zero, List.set_cons_succ]
    refine tu 7 (oi := o107_1_7) rfl (by kernel_rfl) (fun _ _ _ h => h) (by rfl) hH1 ?_
    simp only [Act.put, o107_1_7, List.setIfInBounds_toArray, List.set_cons_zero, List.set_cons_succ]
    refine tu 8 (oi := o107_1_8) rfl (by kernel_rfl) (fun _ _ _ h => h) (by rfl) hH1 ?_
    simp only [Act.put, o107_1_8, List.setIfInBounds_toArray, List.set_cons_zero, List.set_cons_succ]
    refine tu 9 (oi := o107_1_9) rfl (by kernel_rfl) (fun _ _ _ h => h) (by rfl) hH1 ?_
    simp only [Act.put, o107_1_9, List.setIfInBounds_toArray, List.set_cons_zero, List.set_cons_succ]
    refine tu 10 (oi := o107_1_10) rfl (by kernel_rfl) (fun _ _ _ h => h) (by rfl) hH1 ?_
    simp only [Act.put, o107_1_10, List.setIfInBounds_toArray, List.set_cons_zero, List.set_cons_succ]
    refine tu 11 (oi := o107_1_11) rfl (by kernel_rfl) (fun _ _ _ h => h) (by rfl) hH1 ?_
    simp only [Act.put, o107_1_11, List.setIfInBounds_toArray, List.set_cons_zero, List.set_cons_succ]
    refine tu 12 (oi := o107_1_12) rfl (by kernel_rfl) (fun _ _ _ h => h) (by rfl) hH1 ?_
    simp only [Act.put, o107_1_12, List.setIfInBounds_toArray, List.set_cons_zero, List.set_cons_succ]
    refine tu 13 (oi := o107_1_13) rfl (by kernel_rfl) (fun _ _ _ h => h) (by rfl) hH1 ?_
    simp only [Act.put, o107_1_13, List.setIfInBounds_toArray, List.set_cons_zero, List.set_cons_succ]
    refine tu 14 (oi := o107_1_14) rfl (by kernel_rfl) (fun _ _ _ h => h) (by rfl) hH1 ?_
    simp only [Act.put, o107_1_14, List.setIfInBounds_toArray, List.set_cons_zero, List.set_cons_succ]
    refine tu 15 (oi := o107_1_15) rfl (by kernel_rfl) (fun _ _ _ h => h) (by rfl) hH1 ?_
    simp only [Act.put, o107_1_15, List.setIfInBounds_toArray, List.set_cons_zero, List.set_cons_succ]
    refine tu 16 (oi := o107_1_16) rfl (by kernel_rfl) (fun _ _ _ h => h) (by rfl) hH1 ?_
    simp only [Act.put, o107_1_16, List.setIfInBounds_toArray, List.set_cons_zero, List.set_cons_succ]
    refine tu 17 (oi := o107_1_17) rfl (by kernel_rfl) (fun _ _ _ h => h) (by rfl) hH1 ?_
    simp only [Act.put, o107_1_17, List.setIfInBounds_toArray, List.set_cons_zero, List.set_cons_succ]
    refine tu 18 (oi := o107_1_18) rfl (by kernel_rfl) (fun _ _ _ h => h) (by rfl) hH1 ?_
    simp only [Act.put, o107_1_18, List.setIfInBounds_toArray, List.set_cons_zero, List.set_cons_succ]
    refine tu 19 (oi := o107_1_19) rfl (by kernel_rfl) (fun _ _ _ h => h) (by rfl) hH1 ?_
    simp only [Act.put, o107_1_19, List.setIfInBounds_toArray, List.set_cons_zero, List.set_cons_succ]
    refine tu 20 (oi := o107_1_20) rfl (by kernel_rfl) (fun _ _ _ h => h) (by rfl) hH1 ?_
    simp only [Act.put, o107_1_20, List.setIfInBounds_toArray, List.set_cons_zero, List.set_cons_succ]
    refine tk 21 (oi := o107_1_21) (v := ?_) rfl (by kernel_rfl) (fun _ _ _ h => h) (by rfl) ?_ hH1 ?_
    rotate_left
    · (intro w hSw; (try dsimp only at hSw); unfold o107_1_21; go_simp <;> (with_reducible rfl))
    simp only [Act.put, o107_1_21, List.setIfInBounds_toArray, List.set_cons_zero, List.set_cons_succ]
    refine tk 22 (oi := o107_1_22) (v := ?_) rfl (by kernel_rfl) (fun _ _ _ h => h) (by rfl) ?_ hH1 ?_
    rotate_left
    · (intro w hSw; (try dsimp only at hSw); unfold o107_1_22; go_simp <;> (with_reducible rfl))
    simp only [Act.put, o107_1_22, List.setIfInBounds_toArray, List.set_cons_zero, List.set_cons_succ]
    refine wpAnyH_done (by kernel_rfl) ?_ _
    go_wp2
    go_ret
    exact ⟨rfl, HB5.out⟩
  · refine tk 5 (oi := o107_1_5) (v := ?_) rfl (by kernel_rfl) (fun _ _ _ h => h) (by rfl) ?_ hH1 ?_
    rotate_left
    · (intro w hSw; (try dsimp only at hSw); unfold o107_1_5; go_simp <;> (with_reducible rfl))
    simp only [Act.put, o107_1_5, List.setIfInBounds_toArray, List.set_cons_zero, List.set_cons_succ]
    refine tk 6 (oi := o107_1_6) (v := ?_) rfl (by kernel_rfl) (fun _ _ _ h => h) (by rfl) ?_ hH1 ?_
    rotate_left
    · (intro w hSw; (try dsimp only at hSw); unfold o107_1_6; go_simp <;> (with_reducible rfl))
    simp only [Act.put, o107_1_6, List.setIfInBounds_toArray, List.set_cons_zero, List.set_cons_succ]
    refine tk 7 (oi := o107_1_7) (v := ?_) rfl (by kernel_rfl) (fun _ _ _ h => h) (by rfl) ?_ hH1 ?_
    rotate_left
    · (intro w hSw; (try dsimp only at hSw); unfold o107_1_7; go_simp <;> (with_reducible rfl))
    simp only [Act.put, o107_1_7, List.setIfInBounds_toArray, List.set_cons_zero, List.set_cons_succ]
    refine tk 8 (oi := o107_1_8) (v := ?_) rfl (by kernel_rfl) (fun _ _ _ h => h) (by rfl) ?_ hH1 ?_
    rotate_left
    · (intro w hSw; (try dsimp only at hSw); unfold o107_1_8; go_simp <;> (with_reducible rfl))
    simp only [Act.put, o107_1_8, List.setIfInBounds_toArray, List.set_cons_zero, List.set_cons_succ]
    refine tk 9 (oi := o107_1_9) (v := ?_) rfl (by kernel_rfl) (fun _ _ _ h => h) (by rfl) ?_ hH1 ?_
    rotate_left
    · (intro w hSw; (try dsimp only at hSw); unfold o107_1_9; go_simp <;> (with_reducible rfl))
    simp only [Act.put, o107_1_9, List.setIfInBounds_toArray, List.set_cons_zero, List.set_cons_succ]
    refine tk 10 (oi := o107_1_10) (v := ?_) rfl (by kernel_rfl) (fun _ _ _ h => h) (by rfl) ?_ hH1 ?_
    rotate_left
    · (intro w hSw; (try dsimp only at hSw); unfold o107_1_10; go_simp <;> (with_reducible rfl))
    simp only [Act.put, o107_1_10, List.setIfInBounds_toArray, List.set_cons_zero, List.set_cons_succ]
    refine tk 11 (oi := o107_1_11) (v := ?_) rfl (by kernel_rfl) (fun _ _ _ h => h) (by rfl) ?_ hH1 ?_
    rotate_left
    · (intro w hSw; (try dsimp only at hSw); unfold o107_1_11; go_simp <;> (with_reducible rfl))
    simp only [Act.put, o107_1_11, List.setIfInBounds_toArray, List.set_cons_zero, List.set_cons_succ]
    refine tk 12 (oi := o107_1_12) (v := ?_) rfl (by kernel_rfl) (fun _ _ _ h => h) (by rfl) ?_ hH1 ?_
    rotate_left
    · (intro w hSw; (try dsimp only at hSw); unfold o107_1_12; go_simp <;> (with_reducible rfl))
    simp only [Act.put, o107_1_12, List.setIfInBounds_toArray, List.set_cons_zero, List.set_cons_succ]
    refine tk 13 (oi := o107_1_13) (v := ?_) rfl (by kernel_rfl) (fun _ _ _ h => h) (by rfl) ?_ hH1 ?_
    rotate_left
    · (intro w hSw; (try dsimp only at hSw); unfold o107_1_13; go_simp <;> (with_reducible rfl))
    simp only [Act.put, o107_1_13, List.setIfInBounds_toArray, List.set_cons_zero, List.set_cons_succ]
    refine tk 14 (oi := o107_1_14) (v := ?_) rfl (by kernel_rfl) (fun _ _ _ h => h) (by rfl) ?_ hH1 ?_
    rotate_left
    · (intro w hSw; (try dsimp only at hSw); unfold o107_1_14; go_simp <;> (with_reducible rfl))
    simp only [Act.put, o107_1_14, List.setIfInBounds_toArray, List.set_cons_zero, List.set_cons_succ]
    refine tk 15 (oi := o107_1_15) (v := ?_) rfl (by kernel_rfl) (fun _ _ _ h => h) (by rfl) ?_ hH1 ?_
    rotate_left
    · (intro w hSw; (try dsimp only at hSw); unfold o107_1_15; go_simp <;> (with_reducible rfl))
    simp only [Act.put, o107_1_15, List.setIfInBounds_toArray, List.set_cons_zero, List.set_cons_succ]
    refine tk 16 (oi := o107_1_16) (v := ?_) rfl (by kernel_rfl) (fun _ _ _ h => h) (by rfl) ?_ hH1 ?_
    rotate_left
    · (intro w hSw; (try dsimp only at hSw); unfold o107_1_16; go_simp <;> (with_reducible rfl))
    simp only [Act.put, o107_1_16, List.setIfInBounds_toArray, List.set_cons_zero, List.set_cons_succ]
    refine tk 17 (oi := o107_1_17) (v := ?_) rfl (by kernel_rfl) (fun _ _ _ h => h) (by rfl) ?_ hH1 ?_
    rotate_left
    · (intro w hSw; (try dsimp only at hSw); unfold o107_1_17; go_simp <;> (with_reducible rfl))
    simp only [Act.put, o107_1_17, List.setIfInBounds_toArray, List.set_cons_zero, List.set_cons_succ]
    refine tk 18 (oi := o107_1_18) (v := ?_) rfl (by kernel_rfl) (fun _ _ _ h => h) (by rfl) ?_ hH1 ?_
    rotate_left
    · (intro w hSw; (try dsimp only at hSw); unfold o107_1_18; go_simp <;> (with_reducible rfl))
    simp only [Act.put, o107_1_18, List.setIfInBounds_toArray, List.set_cons_zero, List.set_cons_succ]
    refine tk 19 (oi := o107_1_19) (v := ?_) rfl (by kernel_rfl) (fun _ _ _ h => h) (by rfl) ?_ hH1 ?_
    rotate_left
    · (intro w hSw; (try dsimp only at hSw); unfold o107_1_19; go_simp <;> (with_reducible rfl))
    simp only [Act.put, o107_1_19, List.setIfInBounds_toArray, List.set_cons_zero, List.set_cons_succ]
    refine tk 20 (oi := o107_1_20) (v := ?_) rfl (by kernel_rfl) (fun _ _ _ h => h) (by rfl) ?_ hH1 ?_
    rotate_left
    · (intro w hSw; (try dsimp only at hSw); unfold o107_1_20; go_simp <;> (with_reducible rfl))
    simp only [Act.put, o107_1_20, List.setIfInBounds_toArray, List.set_cons_zero, List.set_cons_succ]
    refine tk 21 (oi := o107_1_21) (v := ?_) rfl (by kernel_rfl) (fun _ _ _ h => h) (by rfl) ?_ hH1 ?_
    rotate_left
    · (intro w hSw; (try dsimp only at hSw); unfold o107_1_21; go_simp <;> (with_reducible rfl))
    simp only [Act.put, o107_1_21, List.setIfInBounds_toArray, List.set_cons_zero, List.set_cons_succ]
    refine tk 22 (oi := o107_1_22) (v := ?_) rfl (by kernel_rfl) (fun _ _ _ h => h) (by rfl) ?_ hH1 ?_
    rotate_left
    · (intro w hSw; (try dsimp only at hSw); unfold o107_1_22; go_simp <;> (with_reducible rfl))
    simp only [Act.put, o107_1_22, List.setIfInBounds_toArray, List.set_cons_zero, List.set_cons_succ]
    refine wpAnyH_done (by kernel_rfl) ?_ _
    go_wp2
    go_ret
    exact ⟨rfl, HB5.out⟩
theorem enter107 : CanEnter 107 := Go.Proofs.enters_of Tryz.func107 (by kernel_rfl) rfl
theorem ch_pred {i : Int} {br bi bp : Nat} {r : Ros} {lv : Value} {p : List Int} {w : World} (V : Valid r) (hb : BoxAt w br r) (hbi : w.heap[bi]? = some (.cells #[.int .i64 i] 3 (0, 0))) (hbp : w.heap[bp]? = some (.cells #[lv] 26 (0, 0))) (hl : IntsAt w lv p) (hp : PrOk r p) (i0 : 0 ≤ i) (i1 : i < r.turns.length) :
    PredIn 107 #[.pointer (some ⟨br, 0, none⟩), .pointer (some ⟨bi, 0, none⟩), .pointer (some ⟨bp, 0, none⟩)] (chB r p i) (fun x => 0 ≤ x ∧ x < r.turns.length) w :=
  fun W x hx hW => ch_calls x i br bi bp r lv p W V (hb.below hW) (blk_below hbi hW) (blk_below hbp hW) (hl.below hW) hp hx.1 hx.2 i0 i1
end Go.Proofs.YtflolfbkpjgjaaaGreatDoor
end
section
namespace Go.Proofs.YtflolfbkpjgjaaaGreatDoor
open Go.RowKit Go.Proofs.YtflolfbkpjgjaaaGreatDoorW.PrintWords
open Go.Proofs.YtflolfbkpjgjaaaGreatDoorW.PrintMore
def o105_1_0 : Oper := { dst := some 7, op := Op.load 25 (Operand.tmp 1), type := 25, pos := "plan.go:278", after := #[], guard := none }
def o105_1_1 : Oper := { dst := some 8, op := Op.load 3 (Operand.tmp 5), type := 3, pos := "plan.go:278", after := #[], guard := none }
def o105_1_2 : Oper := { dst := some 9, op := Op.call { callee := Callee.value (Operand.func 96), args := #[Operand.tmp 7, Operand.tmp 8], argTypes := #[25, 3] }, type := 98, pos := "plan.go:278", after := #[{ on := 0, ground := Ground.data }, { on := 1, ground := Ground.data }], guard := none }
def o105_1_3 : Oper := { dst := some 10, op := Op.call { callee := Callee.value (Operand.func 97), args := #[Operand.tmp 9], argTypes := #[98] }, type := 4, pos := "plan.go:278", after := #[{ on := 2, ground := Ground.data }, { on := 2, ground := Ground.chain }], guard := none }
def o105_1_4 : Oper := { dst := some 11, op := Op.move (Operand.tmp 10), type := 4, pos := "plan.go:278", after := #[{ on := 3, ground := Ground.data }, { on := 3, ground := Ground.chain }], guard := none }
def o105_1_5 : Oper := { dst := some 12, op := Op.load 26 (Operand.tmp 2), type := 26, pos := "plan.go:278", after := #[{ on := 4, ground := Ground.guard }], guard := some (4, true) }
def o105_1_6 : Oper := { dst := some 13, op := Op.load 3 (Operand.tmp 5), type := 3, pos := "plan.go:278", after := #[{ on := 4, ground := Ground.guard }], guard := some (4, true) }
def o105_1_7 : Oper := { dst := some 14, op := Op.indexAddr 26 (Operand.tmp 12) (Operand.tmp 13), type := 0, pos := "plan.go:278", after := #[{ on := 5, ground := Ground.data }, { on := 6, ground := Ground.data }, { on := 4, ground := Ground.guard }], guard := some (4, true) }
def o105_1_8 : Oper := { dst := some 15, op := Op.load 3 (Operand.tmp 14), type := 3, pos := "plan.go:278", after := #[{ on := 7, ground := Ground.data }, { on := 4, ground := Ground.guard }], guard := some (4, true) }
def o105_1_9 : Oper := { dst := some 16, op := Op.fieldAddr 25 (Operand.tmp 1) 4, type := 0, pos := "plan.go:278", after := #[{ on := 4, ground := Ground.guard }], guard := some (4, true) }
def o105_1_10 : Oper := { dst := some 17, op := Op.load 23 (Operand.tmp 16), type := 23, pos := "plan.go:278", after := #[{ on := 9, ground := Ground.data }, { on := 4, ground := Ground.guard }], guard := some (4, true) }
def o105_1_11 : Oper := { dst := some 18, op := Op.load 3 (Operand.tmp 5), type := 3, pos := "plan.go:278", after := #[{ on := 4, ground := Ground.guard }], guard := some (4, true) }
def o105_1_12 : Oper := { dst := some 19, op := Op.indexAddr 23 (Operand.tmp 17) (Operand.tmp 18), type := 0, pos := "plan.go:278", after := #[{ on := 10, ground := Ground.data }, { on := 11, ground := Ground.data }, { on := 4, ground := Ground.guard }], guard := some (4, true) }
def o105_1_13 : Oper := { dst := some 20, op := Op.fieldAddr 45 (Operand.tmp 19) 5, type := 0, pos := "plan.go:278", after := #[{ on := 12, ground := Ground.data }, { on := 4, ground := Ground.guard }], guard := some (4, true) }
def o105_1_14 : Oper := { dst := some 21, op := Op.load 3 (Operand.tmp 20), type := 3, pos := "plan.go:278", after := #[{ on := 13, ground := Ground.data }, { on := 4, ground := Ground.guard }], guard := some (4, true) }
def o105_1_15 : Oper := { dst := some 22, op := Op.binOp BinOp.gtr 3 (Operand.tmp 15) (Operand.tmp 21) 3, type := 4, pos := "plan.go:278", after := #[{ on := 8, ground := Ground.data }, { on := 14, ground := Ground.data }, { on := 4, ground := Ground.guard }], guard := some (4, true) }
def o105_1_16 : Oper := { dst := some 23, op := Op.pick (Operand.tmp 11) (Operand.tmp 22) (Operand.const (Value.bool false)), type := 4, pos := "plan.go:278", after := #[{ on := 4, ground := Ground.data }, { on := 15, ground := Ground.data }], guard := none }
def o105_1_17 : Oper := { dst := some 24, op := Op.move (Operand.tmp 23), type := 4, pos := "plan.go:278", after := #[{ on := 16, ground := Ground.data }, { on := 4, ground := Ground.chain }], guard := none }
def o105_1_18 : Oper := { dst := some 25, op := Op.load 25 (Operand.tmp 1), type := 25, pos := "plan.go:278", after := #[{ on := 17, ground := Ground.guard }], guard := some (17, false) }
def o105_1_19 : Oper := { dst := some 26, op := Op.load 3 (Operand.tmp 5), type := 3, pos := "plan.go:278", after := #[{ on := 17, ground := Ground.guard }], guard := some (17, false) }
def o105_1_20 : Oper := { dst := some 27, op := Op.call { callee := Callee.value (Operand.func 106), args := #[Operand.tmp 25, Operand.tmp 26], argTypes := #[25, 3] }, type := 98, pos := "plan.go:279", after := #[{ on := 18, ground := Ground.data }, { on := 19, ground := Ground.data }, { on := 17, ground := Ground.chain }, { on := 17, ground := Ground.guard }], guard := some (17, false) }
def o105_1_21 : Oper := { dst := some 28, op := Op.call { callee := Callee.value (Operand.func 97), args := #[Operand.tmp 27], argTypes := #[98] }, type := 4, pos := "plan.go:279", after := #[{ on := 20, ground := Ground.data }, { on := 20, ground := Ground.chain }, { on := 17, ground := Ground.guard }], guard := some (17, false) }
def o105_1_22 : Oper := { dst := some 29, op := Op.move (Operand.tmp 28), type := 4, pos := "plan.go:278", after := #[{ on := 21, ground := Ground.data }, { on := 21, ground := Ground.chain }, { on := 17, ground := Ground.guard }], guard := some (17, false) }
def o105_1_23 : Oper := { dst := some 30, op := Op.load 26 (Operand.tmp 2), type := 26, pos := "plan.go:278", after := #[{ on := 22, ground := Ground.guard }], guard := some (22, true) }
def o105_1_24 : Oper := { dst := some 31, op := Op.load 3 (Operand.tmp 5), type := 3, pos := "plan.go:278", after := #[{ on := 22, ground := Ground.guard }], guard := some (22, true) }
def o105_1_25 : Oper := { dst := some 32, op := Op.indexAddr 26 (Operand.tmp 30) (Operand.tmp 31), type := 0, pos := "plan.go:278", after := #[{ on := 23, ground := Ground.data }, { on := 24, ground := Ground.data }, { on := 22, ground := Ground.guard }], guard := some (22, true) }
def o105_1_26 : Oper := { dst := some 33, op := Op.load 3 (Operand.tmp 32), type := 3, pos := "plan.go:278", after := #[{ on := 25, ground := Ground.data }, { on := 22, ground := Ground.guard }], guard := some (22, true) }
def o105_1_27 : Oper := { dst := some 34, op := Op.load 3 (Operand.tmp 3), type := 3, pos := "plan.go:278", after := #[{ on := 22, ground := Ground.guard }], guard := some (22, true) }
def o105_1_28 : Oper := { dst := some 35, op := Op.binOp BinOp.lss 3 (Operand.tmp 33) (Operand.tmp 34) 3, type := 4, pos := "plan.go:278", after := #[{ on := 26, ground := Ground.data }, { on := 27, ground := Ground.data }, { on := 22, ground := Ground.guard }], guard := some (22, true) }
def o105_1_29 : Oper := { dst := some 36, op := Op.pick (Operand.tmp 29) (Operand.tmp 35) (Operand.const (Value.bool false)), type := 4, pos := "plan.go:278", after := #[{ on := 22, ground := Ground.data }, { on := 28, ground := Ground.data }, { on := 17, ground := Ground.guard }], guard := some (17, false) }
def o105_1_30 : Oper := { dst := some 37, op := Op.pick (Operand.tmp 24) (Operand.const (Value.bool true)) (Operand.tmp 36), type := 4, pos := "plan.go:278", after := #[{ on := 17, ground := Ground.data }, { on := 29, ground := Ground.data }], guard := none }
def o105_1_31 : Oper := { dst := some 38, op := Op.move (Operand.tmp 37), type := 4, pos := "plan.go:278", after := #[{ on := 30, ground := Ground.data }, { on := 22, ground := Ground.chain }], guard := none }
def o105_1_32 : Oper := { dst := some 39, op := Op.load 25 (Operand.tmp 1), type := 25, pos := "plan.go:278", after := #[{ on := 31, ground := Ground.guard }], guard := some (31, false) }
def o105_1_33 : Oper := { dst := some 40, op := Op.load 3 (Operand.tmp 4), type := 3, pos := "plan.go:278", after := #[{ on := 31, ground := Ground.guard }], guard := some (31, false) }
def o105_1_34 : Oper := { dst := some 41, op := Op.makeFunc (Fn.func 107) #[] #[Operand.tmp 1, Operand.tmp 5, Operand.tmp 2], type := 55, pos := "plan.go:278", after := #[{ on := 31, ground := Ground.guard }], guard := some (31, false) }
def o105_1_35 : Oper := { dst := some 42, op := Op.call { callee := Callee.value (Operand.func 94), args := #[Operand.tmp 39, Operand.tmp 40, Operand.tmp 41], argTypes := #[25, 3, 55] }, type := 26, pos := "plan.go:280", after := #[{ on := 32, ground := Ground.data }, { on := 33, ground := Ground.data }, { on := 34, ground := Ground.data }, { on := 31, ground := Ground.chain }, { on := 31, ground := Ground.guard }], guard := some (31, false) }
def o105_1_36 : Oper := { dst := some 43, op := Op.call { callee := Callee.builtin Builtin.len, args := #[Operand.tmp 42], argTypes := #[26] }, type := 3, pos := "plan.go:278", after := #[{ on := 35, ground := Ground.data }, { on := 31, ground := Ground.guard }], guard := some (31, false) }
def o105_1_37 : Oper := { dst := some 44, op := Op.binOp BinOp.gtr 3 (Operand.tmp 43) (Operand.const (Value.int IntKind.i64 0)) 3, type := 4, pos := "plan.go:278", after := #[{ on := 36, ground := Ground.data }, { on := 31, ground := Ground.guard }], guard := some (31, false) }
def o105_1_38 : Oper := { dst := some 45, op := Op.pick (Operand.tmp 38) (Operand.const (Value.bool true)) (Operand.tmp 44), type := 4, pos := "plan.go:278", after := #[{ on := 31, ground := Ground.data }, { on := 37, ground := Ground.data }], guard := none }
def o105_1_39 : Oper := { dst := some 6, op := Op.assign (Operand.tmp 45), type := 4, pos := "plan.go:278", after := #[{ on := 38, ground := Ground.data }, { on := 35, ground := Ground.chain }, { on := 0, ground := Ground.phase }, { on := 1, ground := Ground.phase }, { on := 2, ground := Ground.phase }, { on := 3, ground := Ground.phase }, { on := 4, ground := Ground.phase }, { on := 5, ground := Ground.phase }, { on := 6, ground := Ground.phase }, { on := 7, ground := Ground.phase }, { on := 8, ground := Ground.phase }, { on := 9, ground := Ground.phase }, { on := 10, ground := Ground.phase }, { on := 11, ground := Ground.phase }, { on := 12, ground := Ground.phase }, { on := 13, ground := Ground.phase }, { on := 14, ground := Ground.phase }, { on := 15, ground := Ground.phase }, { on := 16, ground := Ground.phase }, { on := 17, ground := Ground.phase }, { on := 18, ground := Ground.phase }, { on := 19, ground := Ground.phase }, { on := 20, ground := Ground.phase }, { on := 21, ground := Ground.phase }, { on := 22, ground := Ground.phase }, { on := 23, ground := Ground.phase }, { on := 24, ground := Ground.phase }, { on := 25, ground := Ground.phase }, { on := 26, ground := Ground.phase }, { on := 27, ground := Ground.phase }, { on := 28, ground := Ground.phase }, { on := 29, ground := Ground.phase }, { on := 30, ground := Ground.phase }, { on := 31, ground := Ground.phase }, { on := 32, ground := Ground.phase }, { on := 33, ground := Ground.phase }, { on := 34, ground := Ground.phase }, { on := 35, ground := Ground.phase }, { on := 36, ground := Ground.phase }, { on := 37, ground := Ground.phase }, { on := 38, ground := Ground.phase }], guard := none }
def wrongB (r : Ros) (gate cost : Int) (p : List Int) (i : Int) : Bool := ((begB r i && decide ((tn r i).cost < sh p i)) || (endB r i && decide (sh p i < cost))) || decide ((0 : Int) < ((ownL r gate (chB r p i)).length : Int))
set_option maxHeartbeats 8000000 in
set_option maxRecDepth 100000 in
theorem wrong_calls (i cost gate : Int) (br bp bc bg : Nat) (r : Ros) (lv : Value) (p : List Int) (w : World) (V : Valid r) (hb : BoxAt w br r) (hbp : w.heap[bp]? = some (.cells #[lv] 26 (0, 0))) (hbc : w.heap[bc]? = some (.cells #[.int .i64 cost] 3 (0, 0))) (hbg : w.heap[bg]? = some (.cells #[.int .i64 gate] 3 (0, 0))) (hl : IntsAt w lv p) (hp : PrOk r p) (i0 : 0 ≤ i) (i1 : i < r.turns.length) :
    Calls Tryz.prog 105 #[.int .i64 i, .pointer (some ⟨br, 0, none⟩), .pointer (some ⟨bp, 0, none⟩), .pointer (some ⟨bc, 0, none⟩), .pointer (some ⟨bg, 0, none⟩)] w fun e w' => e = .returned (.bool (wrongB r gate cost p i)) ∧ Below w.heap.size w w' := by
  obtain ⟨A, c, T, d, h1, h2⟩ := hb.ex
  have hR := Aside0.mk h2
  have HBR := Aside0.mk h1
  have HBP := Aside0.mk hbp
  have HBC := Aside0.mk hbc
  have HBG := Aside0.mk hbg
  obtain ⟨A', c', T', d', e, h21, h22, h23, h24⟩ := h2
  cases e
  obtain ⟨ad, hAd, g0, g1, g2, g3, g4, g5⟩ := CT_at h24 i i0 i1
  cases hAd
  change w.cell? _ = some (.int .i64 (tn r i).cost) at g5
  have vt := V.turn i i0 i1
  have hbeg := fun w (h : RosAt w (.agg (rosC r A c (some ad) d)) r) => begin_calls (.agg (rosC r A c (some ad) d)) r i w h V i0 i1
  have hend := fun w (h : RosAt w (.agg (rosC r A c (some ad) d)) r) => end_calls (.agg (rosC r A c (some ad) d)) r i w h V i0 i1
  have hnev := fun (w : World) (s : Bool) => never_calls (begLate r i) s w
  change ∀ w s, Calls _ _ _ _ fun e w' => e = .returned (.bool (begB r i)) ∧ _ at hnev
  have hnev2 := fun (w : World) (s : Bool) => never_calls (endLate r i) s w
  change ∀ w s, Calls _ _ _ _ fun e w' => e = .returned (.bool (endB r i)) ∧ _ at hnev2
  have hL := Aside0.mk hl
  have hP := Aside0.mk hp
  have HV := Aside0.mk V
  obtain ⟨A1, c1, rfl, hc1, hl1⟩ := hl
  rw [hp.len] at hl1 hc1 HBP hL
  obtain ⟨ap, hAp, x1⟩ := CI_at hl1 i i0 i1
  cases hAp
  change w.cell? _ = some (.int .i64 (sh p i)) at x1
  have X1 := Aside0.mk x1
  have G5 := Aside0.mk g5
  have hn24 := V.turns
  have hi63 : i ≤ 9223372036854775807 := by omega
  have hol : (ownL r gate (chB r p i)).length ≤ 24 := by have := ownL_len r gate (chB r p i); omega
  have hownw := fun w3 gi (hb3 : Below w.heap.size w w3) (hi3 : w3.heap[gi]? = some (.cells #[.int .i64 i] 3 (0, 0))) W (hW : Below w3.heap.size w3 W) =>
    own_calls (.agg (rosC r A c (some ad) d)) r gate 107 #[.pointer (some ⟨br, 0, none⟩), .pointer (some ⟨gi, 0, none⟩), .pointer (some ⟨bp, 0, none⟩)] (chB r p i) W enter107 (hR.out.below (below_step hb3 hW)) HV.out.turns
      ((ch_pred HV.out (hb.below (below_step hb3 hW)) (blk_below hi3 hW) (blk_below (blk_below HBP.out hb3) hW) (IntsAt.below hL.out (below_step hb3 hW)) hP.out i0 i1).mono (fun x hx => ⟨hx.1, hx.2.1⟩))
  clear h1 h23 h24 hl1 vt hbp hbc hbg hp g0 g1 g2 g3 g4 g5 V x1
  have hmf : ∀ (fn : Fn) (first cap : Array Value) (w : World), (Instr.makeFunc fn first cap).run Tryz.prog w = .ok (.func fn first cap) w := fun _ _ _ _ => rfl
  unfold wrongB
  generalize begB r i = m1 at *
  generalize endB r i = m3 at *
  generalize hm2 : decide ((tn r i).cost < sh p i) = m2 at *
  generalize hm4 : decide (sh p i < cost) = m4 at *
  generalize ownL r gate (chB r p i) = ol at *
  generalize sh p i = pi at *
  generalize (tn r i).cost = tc at *
  go_enter Tryz.func105, Tryz.ntmps105
  go_wp2_with (first | ((with_reducible refine gate_dst (N := 5) rfl ?_); refine box_event ?hg (N := 5) ?hd (cs := #[.int .i64 i]) (t := 3) ?hr ?_; (case hd => rfl); (case hg => rfl); (case hr => first | (go_simp; done) | (go_simp; rfl)); intro gi hgi w3 hbox_ hb_; have BI := Aside0.mk hbox_; have Hgi := Aside0.mk hgi; have HB3 := Aside0.mk hb_; clear hbox_ hb_ hgi))
  have hown := hownw w3 gi HB3.out BI.out
  have hR3 := Aside0.mk (hR.out.below HB3.out)
  have HSW : Aside0 (∀ W, Below w3.heap.size w3 W → (fun w' => (w'.cell? ⟨br, 0, none⟩ = some (.int .i64 r.gates) ∧ w'.cell? ⟨br, 1, none⟩ = some (.int .i64 r.frm) ∧ w'.cell? ⟨br, 2, none⟩ = some (.int .i64 r.til) ∧ w'.cell? ⟨br, 3, none⟩ = some (.slice A r.ahead.length c) ∧ w'.cell? ⟨br, 4, none⟩ = some (.slice (some ad) r.turns.length d)) ∧ w'.cell? ⟨gi, 0, none⟩ = some (.int .i64 i) ∧ w'.cell? ⟨bp, 0, none⟩ = some (.slice (some ap) r.turns.length c1) ∧ w'.cell? ⟨bc, 0, none⟩ = some (.int .i64 cost) ∧ w'.cell? ⟨bg, 0, none⟩ = some (.int .i64 gate) ∧ w'.cell? (ap.add i.toNat) = some (.int .i64 pi) ∧ w'.cell? ⟨(ad.add (i.toNat * 6)).block, (ad.add (i.toNat * 6)).off + 5, none⟩ = some (.int .i64 tc)) W) := ⟨fun W h => by
    have h' := below_step HB3.out h
    exact ⟨rosC_cells (blk_below HBR.out h'), (blk_cell (blk_below BI.out h) 0).trans rfl, (blk_cell (blk_below HBP.out h') 0).trans rfl, (blk_cell (blk_below HBC.out h') 0).trans rfl, (blk_cell (blk_below HBG.out h') 0).trans rfl, pw_cell_below h' X1.out, pw_cell_below h' G5.out⟩⟩
  clear hownw hR
  refine wp_region_held_drew (S := (fun w' => (w'.cell? ⟨br, 0, none⟩ = some (.int .i64 r.gates) ∧ w'.cell? ⟨br, 1, none⟩ = some (.int .i64 r.frm) ∧ w'.cell? ⟨br, 2, none⟩ = some (.int .i64 r.til) ∧ w'.cell? ⟨br, 3, none⟩ = some (.slice A r.ahead.length c) ∧ w'.cell? ⟨br, 4, none⟩ = some (.slice (some ad) r.turns.length d)) ∧ w'.cell? ⟨gi, 0, none⟩ = some (.int .i64 i) ∧ w'.cell? ⟨bp, 0, none⟩ = some (.slice (some ap) r.turns.length c1) ∧ w'.cell? ⟨bc, 0, none⟩ = some (.int .i64 cost) ∧ w'.cell? ⟨bg, 0, none⟩ = some (.int .i64 gate) ∧ w'.cell? (ap.add i.toNat) = some (.int .i64 pi) ∧ w'.cell? ⟨(ad.add (i.toNat * 6)).block, (ad.add (i.toNat * 6)).off + 5, none⟩ = some (.int .i64 tc))) (by kernel_rfl) ?_ (fun hH0 => ?_)
  · exact HSW.out _ (below_drew (Below.refl _ _))
  refine tk 0 (oi := o105_1_0) (v := ?_) rfl (by kernel_rfl) (fun _ _ _ h => h) (by rfl) ?_ hH0 ?_
  rotate_left
  · (intro w hSw; (try dsimp only at hSw); unfold o105_1_0; go_simp <;> (with_reducible rfl))
  simp only [Act.put, o105_1_0, List.setIfInBounds_toArray, List.set_cons_zero, List.set_cons_succ]
  refine tk 1 (oi := o105_1_1) (v := ?_) rfl (by kernel_rfl) (fun _ _ _ h => h) (by rfl) ?_ hH0 ?_
  rotate_left
  · (intro w hSw; (try dsimp only at hSw); unfold o105_1_1; go_simp <;> (with_reducible rfl))
  simp only [Act.put, o105_1_1, List.setIfInBounds_toArray, List.set_cons_zero, List.set_cons_succ]
  refine wpAnyH_ready (rs := [2]) (by kernel_rfl) (by simp) (AllReadyH.cons (o := o105_1_2) rfl (fun K' hK' => ?_) AllReadyH.nil)
  unfold o105_1_2
  go_simp
  go_at_call 96; refine (hbeg _ (hR3.out.below (below_drew (Below.refl _ _)))).mono ?_; rintro e w5 ⟨rfl, hb_⟩; have HB5 := Aside0.mk (below_step (below_drew (Below.refl _ w3)) hb_); have hk_ := HSW.out _ HB5.out; clear hb_
  refine hK'.out _ _ (by exact hk_) (fun hH1 => ?_)
  clear hK' K'
  try simp only [Act.put, List.setIfInBounds_toArray, List.set_cons_zero, List.set_cons_succ]
  refine wpAnyH_ready (rs := [3]) (by kernel_rfl) (by simp) (AllReadyH.cons (o := o105_1_3) rfl (fun K' hK' => ?_) AllReadyH.nil)
  unfold o105_1_3
  go_simp
  go_at_call 97; refine (hnev _ _).mono ?_; rintro e w6 ⟨rfl, hb_⟩; have HB6 := Aside0.mk (below_step HB5.out hb_); have hk_ := HSW.out _ HB6.out; clear hb_
  refine hK'.out _ _ (by exact hk_) (fun hH2 => ?_)
  clear hK' K'
  try simp only [Act.put, List.setIfInBounds_toArray, List.set_cons_zero, List.set_cons_succ]
  refine tk 4 (oi := o105_1_4) (v := ?_) rfl (by kernel_rfl) (fun _ _ _ h => h) (by rfl) ?_ hH2 ?_
  rotate_left
  · (intro w hSw; (try dsimp only at hSw); unfold o105_1_4; go_simp <;> (with_reducible rfl))
  simp only [Act.put, o105_1_4, List.setIfInBounds_toArray, List.set_cons_zero, List.set_cons_succ]
  cases m1
  · refine tu 5 (oi := o105_1_5) rfl (by kernel_rfl) (fun _ _ _ h => h) (by rfl) hH2 ?_
    simp only [Act.put, o105_1_5, List.setIfInBounds_toArray, List.set_cons_zero, List.set_cons_succ]
    refine tu 6 (oi := o105_1_6) rfl (by kernel_rfl) (fun _ _ _ h => h) (by rfl) hH2 ?_
    simp only [Act.put, o105_1_6, List.setIfInBounds_toArray, List.set_cons_zero, List.set_cons_succ]
    refine tu 7 (oi := o105_1_7) rfl (by kernel_rfl) (fun _ _ _ h => h) (by rfl) hH2 ?_
    simp only [Act.put, o105_1_7, List.setIfInBounds_toArray, List.set_cons_zero, List.set_cons_succ]
    refine tu 8 (oi := o105_1_8) rfl (by kernel_rfl) (fun _ _ _ h => h) (by rfl) hH2 ?_
    simp only [Act.put, o105_1_8, List.setIfInBounds_toArray, List.set_cons_zero, List.set_cons_succ]
    refine tu 9 (oi := o105_1_9) rfl (by kernel_rfl) (fun _ _ _ h => h) (by rfl) hH2 ?_
    simp only [Act.put, o105_1_9, List.setIfInBounds_toArray, List.set_cons_zero, List.set_cons_succ]
    refine tu 10 (oi := o105_1_10) rfl (by kernel_rfl) (fun _ _ _ h => h) (by rfl) hH2 ?_
    simp only [Act.put, o105_1_10, List.setIfInBounds_toArray, List.set_cons_zero, List.set_cons_succ]
    refine tu 11 (oi := o105_1_11) rfl (by kernel_rfl) (fun _ _ _ h => h) (by rfl) hH2 ?_
    simp only [Act.put, o105_1_11, List.setIfInBounds_toArray, List.set_cons_zero, List.set_cons_succ]
    refine tu 12 (oi := o105_1_12) rfl (by kernel_rfl) (fun _ _ _ h => h) (by rfl) hH2 ?_
    simp only [Act.put, o105_1_12, List.setIfInBounds_toArray, List.set_cons_zero, List.set_cons_succ]
    refine tu 13 (oi := o105_1_13) rfl (by kernel_rfl) (fun _ _ _ h => h) (by rfl) hH2 ?_
    simp only [Act.put, o105_1_13, List.setIfInBounds_toArray, List.set_cons_zero, List.set_cons_succ]
    refine tu 14 (oi := o105_1_14) rfl (by kernel_rfl) (fun _ _ _ h => h) (by rfl) hH2 ?_
    simp only [Act.put, o105_1_14, List.setIfInBounds_toArray, List.set_cons_zero, List.set_cons_succ]
    refine tu 15 (oi := o105_1_15) rfl (by kernel_rfl) (fun _ _ _ h => h) (by rfl) hH2 ?_
    simp only [Act.put, o105_1_15, List.setIfInBounds_toArray, List.set_cons_zero, List.set_cons_succ]
    refine tk 16 (oi := o105_1_16) (v := ?_) rfl (by kernel_rfl) (fun _ _ _ h => h) (by rfl) ?_ hH2 ?_
    rotate_left
    · (intro w hSw; (try dsimp only at hSw); unfold o105_1_16; go_simp <;> (with_reducible rfl))
    simp only [Act.put, o105_1_16, List.setIfInBounds_toArray, List.set_cons_zero, List.set_cons_succ]
    refine tk 17 (oi := o105_1_17) (v := ?_) rfl (by kernel_rfl) (fun _ _ _ h => h) (by rfl) ?_ hH2 ?_
    rotate_left
    · (intro w hSw; (try dsimp only at hSw); unfold o105_1_17; go_simp <;> (with_reducible rfl))
    simp only [Act.put, o105_1_17, List.setIfInBounds_toArray, List.set_cons_zero, List.set_cons_succ]
    refine tk 18 (oi := o105_1_18) (v := ?_) rfl (by kernel_rfl) (fun _ _ _ h => h) (by rfl) ?_ hH2 ?_
    rotate_left
    · (intro w hSw; (try dsimp only at hSw); unfold o105_1_18; go_simp <;> (with_reducible rfl))
    simp only [Act.put, o105_1_18, List.setIfInBounds_toArray, List.set_cons_zero, List.set_cons_succ]
    refine tk 19 (oi := o105_1_19) (v := ?_) rfl (by kernel_rfl) (fun _ _ _ h => h) (by rfl) ?_ hH2 ?_
    rotate_left
    · (intro w hSw; (try dsimp only at hSw); unfold o105_1_19; go_simp <;> (with_reducible rfl))
    simp only [Act.put, o105_1_19, List.setIfInBounds_toArray, List.set_cons_zero, List.set_cons_succ]
    refine wpAnyH_ready (rs := [20]) (by kernel_rfl) (by simp) (AllReadyH.cons (o := o105_1_20) rfl (fun K' hK' => ?_) AllReadyH.nil)
    unfold o105_1_20
    go_simp
    go_at_call 106; refine (hend _ (hR3.out.below HB6.out)).mono ?_; rintro e w7 ⟨rfl, hb_⟩; have HB7 := Aside0.mk (below_step HB6.out hb_); have hk_ := HSW.out _ HB7.out; clear hb_
    refine hK'.out _ _ (by exact hk_) (fun hH3 => ?_)
    clear hK' K'
    try simp only [Act.put, List.setIfInBounds_toArray, List.set_cons_zero, List.set_cons_succ]
    refine wpAnyH_ready (rs := [21]) (by kernel_rfl) (by simp) (AllReadyH.cons (o := o105_1_21) rfl (fun K' hK' => ?_) AllReadyH.nil)
    unfold o105_1_21
    go_simp
    go_at_call 97; refine (hnev2 _ _).mono ?_; rintro e w8 ⟨rfl, hb_⟩; have HB8 := Aside0.mk (below_step HB7.out hb_); have hk_ := HSW.out _ HB8.out; clear hb_
    refine hK'.out _ _ (by exact hk_) (fun hH4 => ?_)
    clear hK' K'
    try simp only [Act.put, List.setIfInBounds_toArray, List.set_cons_zero, List.set_cons_succ]
    refine tk 22 (oi := o105_1_22) (v := ?_) rfl (by kernel_rfl) (fun _ _ _ h => h) (by rfl) ?_ hH4 ?_
    rotate_left
    · (intro w hSw; (try dsimp only at hSw); unfold o105_1_22; go_simp <;> (with_reducible rfl))
    simp only [Act.put, o105_1_22, List.setIfInBounds_toArray, List.set_cons_zero, List.set_cons_succ]
    cases m3
    · refine tu 23 (oi := o105_1_23) rfl (by kernel_rfl) (fun _ _ _ h => h) (by rfl) hH4 ?_
      simp only [Act.put, o105_1_23, List.setIfInBounds_toArray, List.set_cons_zero, List.set_cons_succ]
      refine tu 24 (oi := o105_1_24) rfl (by kernel_rfl) (fun _ _ _ h => h) (by rfl) hH4 ?_
      simp only [Act.put, o105_1_24, List.setIfInBounds_toArray, List.set_cons_zero, List.set_cons_succ]
      refine tu 25 (oi := o105_1_25) rfl (by kernel_rfl) (fun _ _ _ h => h) (by rfl) hH4 ?_
      simp only [Act.put, o105_1_25, List.setIfInBounds_toArray, List.set_cons_zero, List.set_cons_succ]
      refine tu 26 (oi := o105_1_26) rfl (by kernel_rfl) (fun _ _ _ h => h) (by rfl) hH4 ?_
      simp only [Act.put, o105_1_26, List.setIfInBounds_toArray, List.set_cons_zero, List.set_cons_succ]
      refine tu 27 (oi := o105_1_27) rfl (by kernel_rfl) (fun _ _ _ h => h) (by rfl) hH4 ?_
      simp only [Act.put, o105_1_27, List.setIfInBounds_toArray, List.set_cons_zero, List.set_cons_succ]
      refine tu 28 (oi := o105_1_28) rfl (by kernel_rfl) (fun _ _ _ h => h) (by rfl) hH4 ?_
      simp only [Act.put, o105_1_28, List.setIfInBounds_toArray, List.set_cons_zero, List.set_cons_succ]
      refine tk 29 (oi := o105_1_29) (v := ?_) rfl (by kernel_rfl) (fun _ _ _ h => h) (by rfl) ?_ hH4 ?_
      rotate_left
      · (intro w hSw; (try dsimp only at hSw); unfold o105_1_29; go_simp <;> (with_reducible rfl))
      simp only [Act.put, o105_1_29, List.setIfInBounds_toArray, List.set_cons_zero, List.set_cons_succ]
      refine tk 30 (oi := o105_1_30) (v := ?_) rfl (by kernel_rfl) (fun _ _ _ h => h) (by rfl) ?_ hH4 ?_
      rotate_left
      · (intro w hSw; (try dsimp only at hSw); unfold o105_1_30; go_simp <;> (with_reducible rfl))
      simp only [Act.put, o105_1_30, List.setIfInBounds_toArray, List.set_cons_zero, List.set_cons_succ]
      refine tk 31 (oi := o105_1_31) (v := ?_) rfl (by kernel_rfl) (fun _ _ _ h => h) (by rfl) ?_ hH4 ?_
      rotate_left
      · (intro w hSw; (try dsimp only at hSw); unfold o105_1_31; go_simp <;> (with_reducible rfl))
      simp only [Act.put, o105_1_31, List.setIfInBounds_toArray, List.set_cons_zero, List.set_cons_succ]
      refine tk 32 (oi := o105_1_32) (v := ?_) rfl (by kernel_rfl) (fun _ _ _ h => h) (by rfl) ?_ hH4 ?_
      rotate_left
      · (intro w hSw; (try dsimp only at hSw); unfold o105_1_32; go_simp <;> (with_reducible rfl))
      simp only [Act.put, o105_1_32, List.setIfInBounds_toArray, List.set_cons_zero, List.set_cons_succ]
      refine tk 33 (oi := o105_1_33) (v := ?_) rfl (by kernel_rfl) (fun _ _ _ h => h) (by rfl) ?_ hH4 ?_
      rotate_left
      · (intro w hSw; (try dsimp only at hSw); unfold o105_1_33; go_simp <;> (with_reducible rfl))
      simp only [Act.put, o105_1_33, List.setIfInBounds_toArray, List.set_cons_zero, List.set_cons_succ]
      refine tk 34 (oi := o105_1_34) (v := ?_) rfl (by kernel_rfl) (fun _ _ _ h => h) (by rfl) ?_ hH4 ?_
      rotate_left
      · (intro w hSw; (try dsimp only at hSw); unfold o105_1_34; go_simp <;> (with_reducible rfl))
      simp only [Act.put, o105_1_34, List.setIfInBounds_toArray, List.set_cons_zero, List.set_cons_succ]
      refine wpAnyH_ready (rs := [35]) (by kernel_rfl) (by simp) (AllReadyH.cons (o := o105_1_35) rfl (fun K' hK' => ?_) AllReadyH.nil)
      unfold o105_1_35
      go_simp
      go_at_call 94; refine (hown _ HB8.out).mono ?_; rintro e w9 ⟨lv9, rfl, ho_, hb_⟩; have HB9 := Aside0.mk (below_step HB8.out hb_); have hk_ := HSW.out _ HB9.out; clear hb_; obtain ⟨A9, c9, rfl⟩ := own_slice ho_; clear ho_
      refine hK'.out _ _ (by exact hk_) (fun hH5 => ?_)
      clear hK' K'
      try simp only [Act.put, List.setIfInBounds_toArray, List.set_cons_zero, List.set_cons_succ]
      refine tk 36 (oi := o105_1_36) (v := ?_) rfl (by kernel_rfl) (fun _ _ _ h => h) (by rfl) ?_ hH5 ?_
      rotate_left
      · (intro w hSw; (try dsimp only at hSw); unfold o105_1_36; go_simp <;> (with_reducible rfl))
      simp only [Act.put, o105_1_36, List.setIfInBounds_toArray, List.set_cons_zero, List.set_cons_succ]
      refine tk 37 (oi := o105_1_37) (v := ?_) rfl (by kernel_rfl) (fun _ _ _ h => h) (by rfl) ?_ hH5 ?_
      rotate_left
      · (intro w hSw; (try dsimp only at hSw); unfold o105_1_37; go_simp <;> (with_reducible rfl))
      simp only [Act.put, o105_1_37, List.setIfInBounds_toArray, List.set_cons_zero, List.set_cons_succ]
      refine tk 38 (oi := o105_1_38) (v := ?_) rfl (by kernel_rfl) (fun _ _ _ h => h) (by rfl) ?_ hH5 ?_
      rotate_left
      · (intro w hSw; (try dsimp only at hSw); unfold o105_1_38; go_simp <;> (with_reducible rfl))
      simp only [Act.put, o105_1_38, List.setIfInBounds_toArray, List.set_cons_zero, List.set_cons_succ]
      refine tk 39 (oi := o105_1_39) (v := ?_) rfl (by kernel_rfl) (fun _ _ _ h => h) (by rfl) ?_ hH5 ?_
      rotate_left
      · (intro w hSw; (try dsimp only at hSw); unfold o105_1_39; go_simp <;> (with_reducible rfl))
      simp only [Act.put, o105_1_39, List.setIfInBounds_toArray, List.set_cons_zero, List.set_cons_succ]
      refine wpAnyH_done (by kernel_rfl) ?_ _
      clear HSW
      go_wp2
      go_ret
      exact ⟨rfl, (below_step HB3.out HB9.out)⟩
    · refine tk 23 (oi := o105_1_23) (v := ?_) rfl (by kernel_rfl) (fun _ _ _ h => h) (by rfl) ?_ hH4 ?_
      rotate_left
      · (intro w hSw; (try dsimp only at hSw); unfold o105_1_23; go_simp <;> (with_reducible rfl))
      simp only [Act.put, o105_1_23, List.setIfInBounds_toArray, List.set_cons_zero, List.set_cons_succ]
      refine tk 24 (oi := o105_1_24) (v := ?_) rfl (by kernel_rfl) (fun _ _ _ h => h) (by rfl) ?_ hH4 ?_
      rotate_left
      · (intro w hSw; (try dsimp only at hSw); unfold o105_1_24; go_simp <;> (with_reducible rfl))
      simp only [Act.put, o105_1_24, List.setIfInBounds_toArray, List.set_cons_zero, List.set_cons_succ]
      refine tk 25 (oi := o105_1_25) (v := ?_) rfl (by kernel_rfl) (fun _ _ _ h => h) (by rfl) ?_ hH4 ?_
      rotate_left
      · (intro w hSw; (try dsimp only at hSw); unfold o105_1_25; go_simp <;> (with_reducible rfl))
      simp only [Act.put, o105_1_25, List.setIfInBounds_toArray, List.set_cons_zero, List.set_cons_succ]
      refine tk 26 (oi := o105_1_26) (v := ?_) rfl (by kernel_rfl) (fun _ _ _ h => h) (by rfl) ?_ hH4 ?_
      rotate_left
      · (intro w hSw; (try dsimp only at hSw); unfold o105_1_26; go_simp <;> (with_reducible rfl))
      simp only [Act.put, o105_1_26, List.setIfInBounds_toArray, List.set_cons_zero, List.set_cons_succ]
      refine tk 27 (oi := o105_1_27) (v := ?_) rfl (by kernel_rfl) (fun _ _ _ h => h) (by rfl) ?_ hH4 ?_
      rotate_left
      · (intro w hSw; (try dsimp only at hSw); unfold o105_1_27; go_simp <;> (with_reducible rfl))
      simp only [Act.put, o105_1_27, List.setIfInBounds_toArray, List.set_cons_zero, List.set_cons_succ]
      cases m4
      · refine tk 28 (oi := o105_1_28) (v := ?_) rfl (by kernel_rfl) (fun _ _ _ h => h) (by rfl) ?_ hH4 ?_
        rotate_left
        · (intro w hSw; (try dsimp only at hSw); unfold o105_1_28; go_simp <;> (with_reducible rfl))
        simp only [Act.put, o105_1_28, List.setIfInBounds_toArray, List.set_cons_zero, List.set_cons_succ]
        refine tk 29 (oi := o105_1_29) (v := ?_) rfl (by kernel_rfl) (fun _ _ _ h => h) (by rfl) ?_ hH4 ?_
        rotate_left
        · (intro w hSw; (try dsimp only at hSw); unfold o105_1_29; go_simp <;> (with_reducible rfl))
        simp only [Act.put, o105_1_29, List.setIfInBounds_toArray, List.set_cons_zero, List.set_cons_succ]
        refine tk 30 (oi := o105_1_30) (v := ?_) rfl (by kernel_rfl) (fun _ _ _ h => h) (by rfl) ?_ hH4 ?_
        rotate_left
        · (intro w hSw; (try dsimp only at hSw); unfold o105_1_30; go_simp <;> (with_reducible rfl))
        simp only [Act.put, o105_1_30, List.setIfInBounds_toArray, List.set_cons_zero, List.set_cons_succ]
        refine tk 31 (oi := o105_1_31) (v := ?_) rfl (by kernel_rfl) (fun _ _ _ h => h) (by rfl) ?_ hH4 ?_
        rotate_left
        · (intro w hSw; (try dsimp only at hSw); unfold o105_1_31; go_simp <;> (with_reducible rfl))
        simp only [Act.put, o105_1_31, List.setIfInBounds_toArray, List.set_cons_zero, List.set_cons_succ]
        refine tk 32 (oi := o105_1_32) (v := ?_) rfl (by kernel_rfl) (fun _ _ _ h => h) (by rfl) ?_ hH4 ?_
        rotate_left
        · (intro w hSw; (try dsimp only at hSw); unfold o105_1_32; go_simp <;> (with_reducible rfl))
        simp only [Act.put, o105_1_32, List.setIfInBounds_toArray, List.set_cons_zero, List.set_cons_succ]
        refine tk 33 (oi := o105_1_33) (v := ?_) rfl (by kernel_rfl) (fun _ _ _ h => h) (by rfl) ?_ hH4 ?_
        rotate_left
        · (intro w hSw; (try dsimp only at hSw); unfold o105_1_33; go_simp <;> (with_reducible rfl))
        simp only [Act.put, o105_1_33, List.setIfInBounds_toArray, List.set_cons_zero, List.set_cons_succ]
        refine tk 34 (oi := o105_1_34) (v := ?_) rfl (by kernel_rfl) (fun _ _ _ h => h) (by rfl) ?_ hH4 ?_
        rotate_left
        · (intro w hSw; (try dsimp only at hSw); unfold o105_1_34; go_simp <;> (with_reducible rfl))
        simp only [Act.put, o105_1_34, List.setIfInBounds_toArray, List.set_cons_zero, List.set_cons_succ]
        refine wpAnyH_ready (rs := [35]) (by kernel_rfl) (by simp) (AllReadyH.cons (o := o105_1_35) rfl (fun K' hK' => ?_) AllReadyH.nil)
        unfold o105_1_35
        go_simp
        go_at_call 94; refine (hown _ HB8.out).mono ?_; rintro e w9 ⟨lv9, rfl, ho_, hb_⟩; have HB9 := Aside0.mk (below_step HB8.out hb_); have hk_ := HSW.out _ HB9.out; clear hb_; obtain ⟨A9, c9, rfl⟩ := own_slice ho_; clear ho_
        refine hK'.out _ _ (by exact hk_) (fun hH5 => ?_)
        clear hK' K'
        try simp only [Act.put, List.setIfInBounds_toArray, List.set_cons_zero, List.set_cons_succ]
        refine tk 36 (oi := o105_1_36) (v := ?_) rfl (by kernel_rfl) (fun _ _ _ h => h) (by rfl) ?_ hH5 ?_
        rotate_left
        · (intro w hSw; (try dsimp only at hSw); unfold o105_1_36; go_simp <;> (with_reducible rfl))
        simp only [Act.put, o105_1_36, List.setIfInBounds_toArray, List.set_cons_zero, List.set_cons_succ]
        refine tk 37 (oi := o105_1_37) (v := ?_) rfl (by kernel_rfl) (fun _ _ _ h => h) (by rfl) ?_ hH5 ?_
        rotate_left
        · (intro w hSw; (try dsimp only at hSw); unfold o105_1_37; go_simp <;> (with_reducible rfl))
        simp only [Act.put, o105_1_37, List.setIfInBounds_toArray, List.set_cons_zero, List.set_cons_succ]
        refine tk 38 (oi := o105_1_38) (v := ?_) rfl (by kernel_rfl) (fun _ _ _ h => h) (by rfl) ?_ hH5 ?_
        rotate_left
        · (intro w hSw; (try dsimp only at hSw); unfold o105_1_38; go_simp <;> (with_reducible rfl))
        simp only [Act.put, o105_1_38, List.setIfInBounds_toArray, List.set_cons_zero, List.set_cons_succ]
        refine tk 39 (oi := o105_1_39) (v := ?_) rfl (by kernel_rfl) (fun _ _ _ h => h) (by rfl) ?_ hH5 ?_
        rotate_left
        · (intro w hSw; (try dsimp only at hSw); unfold o105_1_39; go_simp <;> (with_reducible rfl))
        simp only [Act.put, o105_1_39, List.setIfInBounds_toArray, List.set_cons_zero, List.set_cons_succ]
        refine wpAnyH_done (by kernel_rfl) ?_ _
        clear HSW
        go_wp2
        go_ret
        exact ⟨rfl, (below_step HB3.out HB9.out)⟩
      · refine tk 28 (oi := o105_1_28) (v := ?_) rfl (by kernel_rfl) (fun _ _ _ h => h) (by rfl) ?_ hH4 ?_
        rotate_left
        · (intro w hSw; (try dsimp only at hSw); unfold o105_1_28; go_simp <;> (with_reducible rfl))
        simp only [Act.put, o105_1_28, List.setIfInBounds_toArray, List.set_cons_zero, List.set_cons_succ]
        refine tk 29 (oi := o105_1_29) (v := ?_) rfl (by kernel_rfl) (fun _ _ _ h => h) (by rfl) ?_ hH4 ?_
        rotate_left
        · (intro w hSw; (try dsimp only at hSw); unfold o105_1_29; go_simp <;> (with_reducible rfl))
        simp only [Act.put, o105_1_29, List.setIfInBounds_toArray, List.set_cons_zero, List.set_cons_succ]
        refine tk 30 (oi := o105_1_30) (v := ?_) rfl (by kernel_rfl) (fun _ _ _ h => h) (by rfl) ?_ hH4 ?_
        rotate_left
        · (intro w hSw; (try dsimp only at hSw); unfold o105_1_30; go_simp <;> (with_reducible rfl))
        simp only [Act.put, o105_1_30, List.setIfInBounds_toArray, List.set_cons_zero, List.set_cons_succ]
        refine tk 31 (oi := o105_1_31) (v := ?_) rfl (by kernel_rfl) (fun _ _ _ h => h) (by rfl) ?_ hH4 ?_
        rotate_left
        · (intro w hSw; (try dsimp only at hSw); unfold o105_1_31; go_simp <;> (with_reducible rfl))
        simp only [Act.put, o105_1_31, List.setIfInBounds_toArray, List.set_cons_zero, List.set_cons_succ]
        refine tu 32 (oi := o105_1_32) rfl (by kernel_rfl) (fun _ _ _ h => h) (by rfl) hH4 ?_
        simp only [Act.put, o105_1_32, List.setIfInBounds_toArray, List.set_cons_zero, List.set_cons_succ]
        refine tu 33 (oi := o105_1_33) rfl (by kernel_rfl) (fun _ _ _ h => h) (by rfl) hH4 ?_
        simp only [Act.put, o105_1_33, List.setIfInBounds_toArray, List.set_cons_zero, List.set_cons_succ]
        refine tu 34 (oi := o105_1_34) rfl (by kernel_rfl) (fun _ _ _ h => h) (by rfl) hH4 ?_
        simp only [Act.put, o105_1_34, List.setIfInBounds_toArray, List.set_cons_zero, List.set_cons_succ]
        refine tu 35 (oi := o105_1_35) rfl (by kernel_rfl) (fun _ _ _ h => h) (by rfl) hH4 ?_
        simp only [Act.put, o105_1_35, List.setIfInBounds_toArray, List.set_cons_zero, List.set_cons_succ]
        refine tu 36 (oi := o105_1_36) rfl (by kernel_rfl) (fun _ _ _ h => h) (by rfl) hH4 ?_
        simp only [Act.put, o105_1_36, List.setIfInBounds_toArray, List.set_cons_zero, List.set_cons_succ]
        refine tu 37 (oi := o105_1_37) rfl (by kernel_rfl) (fun _ _ _ h => h) (by rfl) hH4 ?_
        simp only [Act.put, o105_1_37, List.setIfInBounds_toArray, List.set_cons_zero, List.set_cons_succ]
        refine tk 38 (oi := o105_1_38) (v := ?_) rfl (by kernel_rfl) (fun _ _ _ h => h) (by rfl) ?_ hH4 ?_
        rotate_left
        · (intro w hSw; (try dsimp only at hSw); unfold o105_1_38; go_simp <;> (with_reducible rfl))
        simp only [Act.put, o105_1_38, List.setIfInBounds_toArray, List.set_cons_zero, List.set_cons_succ]
        refine tk 39 (oi := o105_1_39) (v := ?_) rfl (by kernel_rfl) (fun _ _ _ h => h) (by rfl) ?_ hH4 ?_
        rotate_left
        · (intro w hSw; (try dsimp only at hSw); unfold o105_1_39; go_simp <;> (with_reducible rfl))
        simp only [Act.put, o105_1_39, List.setIfInBounds_toArray, List.set_cons_zero, List.set_cons_succ]
        refine wpAnyH_done (by kernel_rfl) ?_ _
        clear HSW
        go_wp2
        go_ret
        exact ⟨rfl, (below_step HB3.out HB8.out)⟩
  · refine tk 5 (oi := o105_1_5) (v := ?_) rfl (by kernel_rfl) (fun _ _ _ h => h) (by rfl) ?_ hH2 ?_
    rotate_left
    · (intro w hSw; (try dsimp only at hSw); unfold o105_1_5; go_simp <;> (with_reducible rfl))
    simp only [Act.put, o105_1_5, List.setIfInBounds_toArray, List.set_cons_zero, List.set_cons_succ]
    refine tk 6 (oi := o105_1_6) (v := ?_) rfl (by kernel_rfl) (fun _ _ _ h => h) (by rfl) ?_ hH2 ?_
    rotate_left
    · (intro w hSw; (try dsimp only at hSw); unfold o105_1_6; go_simp <;> (with_reducible rfl))
    simp only [Act.put, o105_1_6, List.setIfInBounds_toArray, List.set_cons_zero, List.set_cons_succ]
    refine tk 7 (oi := o105_1_7) (v := ?_) rfl (by kernel_rfl) (fun _ _ _ h => h) (by rfl) ?_ hH2 ?_
    rotate_left
    · (intro w hSw; (try dsimp only at hSw); unfold o105_1_7; go_simp <;> (with_reducible rfl))
    simp only [Act.put, o105_1_7, List.setIfInBounds_toArray, List.set_cons_zero, List.set_cons_succ]
    refine tk 8 (oi := o105_1_8) (v := ?_) rfl (by kernel_rfl) (fun _ _ _ h => h) (by rfl) ?_ hH2 ?_
    rotate_left
    · (intro w hSw; (try dsimp only at hSw); unfold o105_1_8; go_simp <;> (with_reducible rfl))
    simp only [Act.put, o105_1_8, List.setIfInBounds_toArray, List.set_cons_zero, List.set_cons_succ]
    refine tk 9 (oi := o105_1_9) (v := ?_) rfl (by kernel_rfl) (fun _ _ _ h => h) (by rfl) ?_ hH2 ?_
    rotate_left
    · (intro w hSw; (try dsimp only at hSw); unfold o105_1_9; go_simp <;> (with_reducible rfl))
    simp only [Act.put, o105_1_9, List.setIfInBounds_toArray, List.set_cons_zero, List.set_cons_succ]
    refine tk 10 (oi := o105_1_10) (v := ?_) rfl (by kernel_rfl) (fun _ _ _ h => h) (by rfl) ?_ hH2 ?_
    rotate_left
    · (intro w hSw; (try dsimp only at hSw); unfold o105_1_10; go_simp <;> (with_reducible rfl))
    simp only [Act.put, o105_1_10, List.setIfInBounds_toArray, List.set_cons_zero, List.set_cons_succ]
    refine tk 11 (oi := o105_1_11) (v := ?_) rfl (by kernel_rfl) (fun _ _ _ h => h) (by rfl) ?_ hH2 ?_
    rotate_left
    · (intro w hSw; (try dsimp only at hSw); unfold o105_1_11; go_simp <;> (with_reducible rfl))
    simp only [Act.put, o105_1_11, List.setIfInBounds_toArray, List.set_cons_zero, List.set_cons_succ]
    refine tk 12 (oi := o105_1_12) (v := ?_) rfl (by kernel_rfl) (fun _ _ _ h => h) (by rfl) ?_ hH2 ?_
    rotate_left
    · (intro w hSw; (try dsimp only at hSw); unfold o105_1_12; go_simp <;> (with_reducible rfl))
    simp only [Act.put, o105_1_12, List.setIfInBounds_toArray, List.set_cons_zero, List.set_cons_succ]
    refine tk 13 (oi := o105_1_13) (v := ?_) rfl (by kernel_rfl) (fun _ _ _ h => h) (by rfl) ?_ hH2 ?_
    rotate_left
    · (intro w hSw; (try dsimp only at hSw); unfold o105_1_13; go_simp <;> (with_reducible rfl))
    simp only [Act.put, o105_1_13, List.setIfInBounds_toArray, List.set_cons_zero, List.set_cons_succ]
    refine tk 14 (oi := o105_1_14) (v := ?_) rfl (by kernel_rfl) (fun _ _ _ h => h) (by rfl) ?_ hH2 ?_
    rotate_left
    · (intro w hSw; (try dsimp only at hSw); unfold o105_1_14; go_simp <;> (with_reducible rfl))
    simp only [Act.put, o105_1_14, List.setIfInBounds_toArray, List.set_cons_zero, List.set_cons_succ]
    cases m2
    · refine tk 15 (oi := o105_1_15) (v := ?_) rfl (by kernel_rfl) (fun _ _ _ h => h) (by rfl) ?_ hH2 ?_
      rotate_left
      · (intro w hSw; (try dsimp only at hSw); unfold o105_1_15; go_simp <;> (with_reducible rfl))
      simp only [Act.put, o105_1_15, List.setIfInBounds_toArray, List.set_cons_zero, List.set_cons_succ]
      refine tk 16 (oi := o105_1_16) (v := ?_) rfl (by kernel_rfl) (fun _ _ _ h => h) (by rfl) ?_ hH2 ?_
      rotate_left
      · (intro w hSw; (try dsimp only at hSw); unfold o105_1_16; go_simp <;> (with_reducible rfl))
      simp only [Act.put, o105_1_16, List.setIfInBounds_toArray, List.set_cons_zero, List.set_cons_succ]
      refine tk 17 (oi := o105_1_17) (v := ?_) rfl (by kernel_rfl) (fun _ _ _ h => h) (by rfl) ?_ hH2 ?_
      rotate_left
      · (intro w hSw; (try dsimp only at hSw); unfold o105_1_17; go_simp <;> (with_reducible rfl))
      simp only [Act.put, o105_1_17, List.setIfInBounds_toArray, List.set_cons_zero, List.set_cons_succ]
      refine tk 18 (oi := o105_1_18) (v := ?_) rfl (by kernel_rfl) (fun _ _ _ h => h) (by rfl) ?_ hH2 ?_
      rotate_left
      · (intro w hSw; (try dsimp only at hSw); unfold o105_1_18; go_simp <;> (with_reducible rfl))
      simp only [Act.put, o105_1_18, List.setIfInBounds_toArray, List.set_cons_zero, List.set_cons_succ]
      refine tk 19 (oi := o105_1_19) (v := ?_) rfl (by kernel_rfl) (fun _ _ _ h => h) (by rfl) ?_ hH2 ?_
      rotate_left
      · (intro w hSw; (try dsimp only at hSw); unfold o105_1_19; go_simp <;> (with_reducible rfl))
      simp only [Act.put, o105_1_19, List.setIfInBounds_toArray, List.set_cons_zero, List.set_cons_succ]
      refine wpAnyH_ready (rs := [20]) (by kernel_rfl) (by simp) (AllReadyH.cons (o := o105_1_20) rfl (fun K' hK' => ?_) AllReadyH.nil)
      unfold o105_1_20
      go_simp
      go_at_call 106; refine (hend _ (hR3.out.below HB6.out)).mono ?_; rintro e w7 ⟨rfl, hb_⟩; have HB7 := Aside0.mk (below_step HB6.out hb_); have hk_ := HSW.out _ HB7.out; clear hb_
      refine hK'.out _ _ (by exact hk_) (fun hH3 => ?_)
      clear hK' K'
      try simp only [Act.put, List.setIfInBounds_toArray, List.set_cons_zero, List.set_cons_succ]
      refine wpAnyH_ready (rs := [21]) (by kernel_rfl) (by simp) (AllReadyH.cons (o := o105_1_21) rfl (fun K' hK' => ?_) AllReadyH.nil)
      unfold o105_1_21
      go_simp
      go_at_call 97; refine (hnev2 _ _).mono ?_; rintro e w8 ⟨rfl, hb_⟩; have HB8 := Aside0.mk (below_step HB7.out hb_); have hk_ := HSW.out _ HB8.out; clear hb_
      refine hK'.out _ _ (by exact hk_) (fun hH4 => ?_)
      clear hK' K'
      try simp only [Act.put, List.setIfInBounds_toArray, List.set_cons_zero, List.set_cons_succ]
      refine tk 22 (oi := o105_1_22) (v := ?_) rfl (by kernel_rfl) (fun _ _ _ h => h) (by rfl) ?_ hH4 ?_
      rotate_left
      · (intro w hSw; (try dsimp only at hSw); unfold o105_1_22; go_simp <;> (with_reducible rfl))
      simp only [Act.put, o105_1_22, List.setIfInBounds_toArray, List.set_cons_zero, List.set_cons_succ]
      cases m3
      · refine tu 23 (oi := o105_1_23) rfl (by kernel_rfl) (fun _ _ _ h => h) (by rfl) hH4 ?_
        simp only [Act.put, o105_1_23, List.setIfInBounds_toArray, List.set_cons_zero, List.set_cons_succ]
        refine tu 24 (oi := o105_1_24) rfl (by kernel_rfl) (fun _ _ _ h => h) (by rfl) hH4 ?_
        simp only [Act.put, o105_1_24, List.setIfInBounds_toArray, List.set_cons_zero, List.set_cons_succ]
        refine tu 25 (oi := o105_1_25) rfl (by kernel_rfl) (fun _ _ _ h => h) (by rfl) hH4 ?_
        simp only [Act.put, o105_1_25, List.setIfInBounds_toArray, List.set_cons_zero, List.set_cons_succ]
        refine tu 26 (oi := o105_1_26) rfl (by kernel_rfl) (fun _ _ _ h => h) (by rfl) hH4 ?_
        simp only [Act.put, o105_1_26, List.setIfInBounds_toArray, List.set_cons_zero, List.set_cons_succ]
        refine tu 27 (oi := o105_1_27) rfl (by kernel_rfl) (fun _ _ _ h => h) (by rfl) hH4 ?_
        simp only [Act.put, o105_1_27, List.setIfInBounds_toArray, List.set_cons_zero, List.set_cons_succ]
        refine tu 28 (oi := o105_1_28) rfl (by kernel_rfl) (fun _ _ _ h => h) (by rfl) hH4 ?_
        simp only [Act.put, o105_1_28, List.setIfInBounds_toArray, List.set_cons_zero, List.set_cons_succ]
        refine tk 29 (oi := o105_1_29) (v := ?_) rfl (by kernel_rfl) (fun _ _ _ h => h) (by rfl) ?_ hH4 ?_
        rotate_left
        · (intro w hSw; (try dsimp only at hSw); unfold o105_1_29; go_simp <;> (with_reducible rfl))
        simp only [Act.put, o105_1_29, List.setIfInBounds_toArray, List.set_cons_zero, List.set_cons_succ]
        refine tk 30 (oi := o105_1_30) (v := ?_) rfl (by kernel_rfl) (fun _ _ _ h => h) (by rfl) ?_ hH4 ?_
        rotate_left
        · (intro w hSw; (try dsimp only at hSw); unfold o105_1_30; go_simp <;> (with_reducible rfl))
        simp only [Act.put, o105_1_30, List.setIfInBounds_toArray, List.set_cons_zero, List.set_cons_succ]
        refine tk 31 (oi := o105_1_31) (v := ?_) rfl (by kernel_rfl) (fun _ _ _ h => h) (by rfl) ?_ hH4 ?_
        rotate_left
        · (intro w hSw; (try dsimp only at hSw); unfold o105_1_31; go_simp <;> (with_reducible rfl))
        simp only [Act.put, o105_1_31, List.setIfInBounds_toArray, List.set_cons_zero, List.set_cons_succ]
        refine tk 32 (oi := o105_1_32) (v := ?_) rfl (by kernel_rfl) (fun _ _ _ h => h) (by rfl) ?_ hH4 ?_
        rotate_left
        · (intro w hSw; (try dsimp only at hSw); unfold o105_1_32; go_simp <;> (with_reducible rfl))
        simp only [Act.put, o105_1_32, List.setIfInBounds_toArray, List.set_cons_zero, List.set_cons_succ]
        refine tk 33 (oi := o105_1_33) (v := ?_) rfl (by kernel_rfl) (fun _ _ _ h => h) (by rfl) ?_ hH4 ?_
        rotate_left
        · (intro w hSw; (try dsimp only at hSw); unfold o105_1_33; go_simp <;> (with_reducible rfl))
        simp only [Act.put, o105_1_33, List.setIfInBounds_toArray, List.set_cons_zero, List.set_cons_succ]
        refine tk 34 (oi := o105_1_34) (v := ?_) rfl (by kernel_rfl) (fun _ _ _ h => h) (by rfl) ?_ hH4 ?_
        rotate_left
        · (intro w hSw; (try dsimp only at hSw); unfold o105_1_34; go_simp <;> (with_reducible rfl))
        simp only [Act.put, o105_1_34, List.setIfInBounds_toArray, List.set_cons_zero, List.set_cons_succ]
        refine wpAnyH_ready (rs := [35]) (by kernel_rfl) (by simp) (AllReadyH.cons (o := o105_1_35) rfl (fun K' hK' => ?_) AllReadyH.nil)
        unfold o105_1_35
        go_simp
        go_at_call 94; refine (hown _ HB8.out).mono ?_; rintro e w9 ⟨lv9, rfl, ho_, hb_⟩; have HB9 := Aside0.mk (below_step HB8.out hb_); have hk_ := HSW.out _ HB9.out; clear hb_; obtain ⟨A9, c9, rfl⟩ := own_slice ho_; clear ho_
        refine hK'.out _ _ (by exact hk_) (fun hH5 => ?_)
        clear hK' K'
        try simp only [Act.put, List.setIfInBounds_toArray, List.set_cons_zero, List.set_cons_succ]
        refine tk 36 (oi := o105_1_36) (v := ?_) rfl (by kernel_rfl) (fun _ _ _ h => h) (by rfl) ?_ hH5 ?_
        rotate_left
        · (intro w hSw; (try dsimp only at hSw); unfold o105_1_36; go_simp <;> (with_reducible rfl))
        simp only [Act.put, o105_1_36, List.setIfInBounds_toArray, List.set_cons_zero, List.set_cons_succ]
        refine tk 37 (oi := o105_1_37) (v := ?_) rfl (by kernel_rfl) (fun _ _ _ h => h) (by rfl) ?_ hH5 ?_
        rotate_left
        · (intro w hSw; (try dsimp only at hSw); unfold o105_1_37; go_simp <;> (with_reducible rfl))
        simp only [Act.put, o105_1_37, List.setIfInBounds_toArray, List.set_cons_zero, List.set_cons_succ]
        refine tk 38 (oi := o105_1_38) (v := ?_) rfl (by kernel_rfl) (fun _ _ _ h => h) (by rfl) ?_ hH5 ?_
        rotate_left
        · (intro w hSw; (try dsimp only at hSw); unfold o105_1_38; go_simp <;> (with_reducible rfl))
        simp only [Act.put, o105_1_38, List.setIfInBounds_toArray, List.set_cons_zero, List.set_cons_succ]
        refine tk 39 (oi := o105_1_39) (v := ?_) rfl (by kernel_rfl) (fun _ _ _ h => h) (by rfl) ?_ hH5 ?_
        rotate_left
        · (intro w hSw; (try dsimp only at hSw); unfold o105_1_39; go_simp <;> (with_reducible rfl))
        simp only [Act.put, o105_1_39, List.setIfInBounds_toArray, List.set_cons_zero, List.set_cons_succ]
        refine wpAnyH_done (by kernel_rfl) ?_ _
        clear HSW
        go_wp2
        go_ret
        exact ⟨rfl, (below_step HB3.out HB9.out)⟩
      · refine tk 23 (oi := o105_1_23) (v := ?_) rfl (by kernel_rfl) (fun _ _ _ h => h) (by rfl) ?_ hH4 ?_
        rotate_left
        · (intro w hSw; (try dsimp only at hSw); unfold o105_1_23; go_simp <;> (with_reducible rfl))
        simp only [Act.put, o105_1_23, List.setIfInBounds_toArray, List.set_cons_zero, List.set_cons_succ]
        refine tk 24 (oi := o105_1_24) (v := ?_) rfl (by kernel_rfl) (fun _ _ _ h => h) (by rfl) ?_ hH4 ?_
        rotate_left
        · (intro w hSw; (try dsimp only at hSw); unfold o105_1_24; go_simp <;> (with_reducible rfl))
        simp only [Act.put, o105_1_24, List.setIfInBounds_toArray, List.set_cons_zero, List.set_cons_succ]
        refine tk 25 (oi := o105_1_25) (v := ?_) rfl (by kernel_rfl) (fun _ _ _ h => h) (by rfl) ?_ hH4 ?_
        rotate_left
        · (intro w hSw; (try dsimp only at hSw); unfold o105_1_25; go_simp <;> (with_reducible rfl))
        simp only [Act.put, o105_1_25, List.setIfInBounds_toArray, List.set_cons_zero, List.set_cons_succ]
        refine tk 26 (oi := o105_1_26) (v := ?_) rfl (by kernel_rfl) (fun _ _ _ h => h) (by rfl) ?_ hH4 ?_
        rotate_left
        · (intro w hSw; (try dsimp only at hSw); unfold o105_1_26; go_simp <;> (with_reducible rfl))
        simp only [Act.put, o105_1_26, List.setIfInBounds_toArray, List.set_cons_zero, List.set_cons_succ]
        refine tk 27 (oi := o105_1_27) (v := ?_) rfl (by kernel_rfl) (fun _ _ _ h => h) (by rfl) ?_ hH4 ?_
        rotate_left
        · (intro w hSw; (try dsimp only at hSw); unfold o105_1_27; go_simp <;> (with_reducible rfl))
        simp only [Act.put, o105_1_27, List.setIfInBounds_toArray, List.set_cons_zero, List.set_cons_succ]
        cases m4
        · refine tk 28 (oi := o105_1_28) (v := ?_) rfl (by kernel_rfl) (fun _ _ _ h => h) (by rfl) ?_ hH4 ?_
          rotate_left
          · (intro w hSw; (try dsimp only at hSw); unfold o105_1_28; go_simp <;> (with_reducible rfl))
          simp only [Act.put, o105_1_28, List.setIfInBounds_toArray, List.set_cons_zero, List.set_cons_succ]
          refine tk 29 (oi := o105_1_29) (v := ?_) rfl (by kernel_rfl) (fun _ _ _ h => h) (by rfl) ?_ hH4 ?_
          rotate_left
          · (intro w hSw; (try dsimp only at hSw); unfold o105_1_29; go_simp <;> (with_reducible rfl))
          simp only [Act.put, o105_1_29, List.setIfInBounds_toArray, List.set_cons_zero, List.set_cons_succ]
          refine tk 30 (oi := o105_1_30) (v := ?_) rfl (by kernel_rfl) (fun _ _ _ h => h) (by rfl) ?_ hH4 ?_
          rotate_left
          · (intro w hSw; (try dsimp only at hSw); unfold o105_1_30; go_simp <;> (with_reducible rfl))
          simp only [Act.put, o105_1_30, List.setIfInBounds_toArray, List.set_cons_zero, List.set_cons_succ]
          refine tk 31 (oi := o105_1_31) (v := ?_) rfl (by kernel_rfl) (fun _ _ _ h => h) (by rfl) ?_ hH4 ?_
          rotate_left
          · (intro w hSw; (try dsimp only at hSw); unfold o105_1_31; go_simp <;> (with_reducible rfl))
          simp only [Act.put, o105_1_31, List.setIfInBounds_toArray, List.set_cons_zero, List.set_cons_succ]
          refine tk 32 (oi := o105_1_32) (v := ?_) rfl (by kernel_rfl) (fun _ _ _ h => h) (by rfl) ?_ hH4 ?_
          rotate_left
          · (intro w hSw; (try dsimp only at hSw); unfold o105_1_32; go_simp <;> (with_reducible rfl))
          simp only [Act.put, o105_1_32, List.setIfInBounds_toArray, List.set_cons_zero, List.set_cons_succ]
          refine tk 33 (oi := o105_1_33) (v := ?_) rfl (by kernel_rfl) (fun _ _ _ h => h) (by rfl) ?_ hH4 ?_
          rotate_left
          · (intro w hSw; (try dsimp only at hSw); unfold o105_1_33; go_simp <;> (with_reducible rfl))
          simp only [Act.put, o105_1_33, List.setIfInBounds_toArray, List.set_cons_zero, List.set_cons_succ]
          refine tk 34 (oi := o105_1_34) (v := ?_) rfl (by kernel_rfl) (fun _ _ _ h => h) (by rfl) ?_ hH4 ?_
          rotate_left
          · (intro w hSw; (try dsimp only at hSw); unfold o105_1_34; go_simp <;> (with_reducible rfl))
          simp only [Act.put, o105_1_34, List.setIfInBounds_toArray, List.set_cons_zero, List.set_cons_succ]
          refine wpAnyH_ready (rs := [35]) (by kernel_rfl) (by simp) (AllReadyH.cons (o := o105_1_35) rfl (fun K' hK' => ?_) AllReadyH.nil)
          unfold o105_1_35
          go_simp
          go_at_call 94; refine (hown _ HB8.out).mono ?_; rintro e w9 ⟨lv9, rfl, ho_, hb_⟩; have HB9 := Aside0.mk (below_step HB8.out hb_); have hk_ := HSW.out _ HB9.out; clear hb_; obtain ⟨A9, c9, rfl⟩ := own_slice ho_; clear ho_
          refine hK'.out _ _ (by exact hk_) (fun hH5 => ?_)
          clear hK' K'
          try simp only [Act.put, List.setIfInBounds_toArray, List.set_cons_zero, List.set_cons_succ]
          refine tk 36 (oi := o105_1_36) (v := ?_) rfl (by kernel_rfl) (fun _ _ _ h => h) (by rfl) ?_ hH5 ?_
          rotate_left
          · (intro w hSw; (try dsimp only at hSw); unfold o105_1_36; go_simp <;> (with_reducible rfl))
          simp only [Act.put, o105_1_36, List.setIfInBounds_toArray, List.set_cons_zero, List.set_cons_succ]
          refine tk 37 (oi := o105_1_37) (v := ?_) rfl (by kernel_rfl) (fun _ _ _ h => h) (by rfl) ?_ hH5 ?_
          rotate_left
          · (intro w hSw; (try dsimp only at hSw); unfold o105_1_37; go_simp <;> (with_reducible rfl))
          simp only [Act.put, o105_1_37, List.setIfInBounds_toArray, List.set_cons_zero, List.set_cons_succ]
          refine tk 38 (oi := o105_1_38) (v := ?_) rfl (by kernel_rfl) (fun _ _ _ h => h) (by rfl) ?_ hH5 ?_
          rotate_left
          · (intro w hSw; (try dsimp only at hSw); unfold o105_1_38; go_simp <;> (with_reducible rfl))
          simp only [Act.put, o105_1_38, List.setIfInBounds_toArray, List.set_cons_zero, List.set_cons_succ]
          refine tk 39 (oi := o105_1_39) (v := ?_) rfl (by kernel_rfl) (fun _ _ _ h => h) (by rfl) ?_ hH5 ?_
          rotate_left
          · (intro w hSw; (try dsimp only at hSw); unfold o105_1_39; go_simp <;> (with_reducible rfl))
          simp only [Act.put, o105_1_39, List.setIfInBounds_toArray, List.set_cons_zero, List.set_cons_succ]
          refine wpAnyH_done (by kernel_rfl) ?_ _
          clear HSW
          go_wp2
          go_ret
          exact ⟨rfl, (below_step HB3.out HB9.out)⟩
        · refine tk 28 (oi := o105_1_28) (v := ?_) rfl (by kernel_rfl) (fun _ _ _ h => h) (by rfl) ?_ hH4 ?_
          rotate_left
          · (intro w hSw; (try dsimp only at hSw); unfold o105_1_28; go_simp <;> (with_reducible rfl))
          simp only [Act.put, o105_1_28, List.setIfInBounds_toArray, List.set_cons_zero, List.set_cons_succ]
          refine tk 29 (oi := o105_1_29) (v := ?_) rfl (by kernel_rfl) (fun _ _ _ h => h) (by rfl) ?_ hH4 ?_
          rotate_left
          · (intro w hSw; (try dsimp only at hSw); unfold o105_1_29; go_simp <;> (with_reducible rfl))
          simp only [Act.put, o105_1_29, List.setIfInBounds_toArray, List.set_cons_zero, List.set_cons_succ]
          refine tk 30 (oi := o105_1_30) (v := ?_) rfl (by kernel_rfl) (fun _ _ _ h => h) (by rfl) ?_ hH4 ?_
          rotate_left
          · (intro w hSw; (try dsimp only at hSw); unfold o105_1_30; go_simp <;> (with_reducible rfl))
          simp only [Act.put, o105_1_30, List.setIfInBounds_toArray, List.set_cons_zero, List.set_cons_succ]
          refine tk 31 (oi := o105_1_31) (v := ?_) rfl (by kernel_rfl) (fun _ _ _ h => h) (by rfl) ?_ hH4 ?_
          rotate_left
          · (intro w hSw; (try dsimp only at hSw); unfold o105_1_31; go_simp <;> (with_reducible rfl))
          simp only [Act.put, o105_1_31, List.setIfInBounds_toArray, List.set_cons_zero, List.set_cons_succ]
          refine tu 32 (oi := o105_1_32) rfl (by kernel_rfl) (fun _ _ _ h => h) (by rfl) hH4 ?_
          simp only [Act.put, o105_1_32, List.setIfInBounds_toArray, List.set_cons_zero, List.set_cons_succ]
          refine tu 33 (oi := o105_1_33) rfl (by kernel_rfl) (fun _ _ _ h => h) (by rfl) hH4 ?_
          simp only [Act.put, o105_1_33, List.setIfInBounds_toArray, List.set_cons_zero, List.set_cons_succ]
          refine tu 34 (oi := o105_1_34) rfl (by kernel_rfl) (fun _ _ _ h => h) (by rfl) hH4 ?_
          simp only [Act.put, o105_1_34, List.setIfInBounds_toArray, List.set_cons_zero, List.set_cons_succ]
          refine tu 35 (oi := o105_1_35) rfl (by kernel_rfl) (fun _ _ _ h => h) (by rfl) hH4 ?_
          simp only [Act.put, o105_1_35, List.setIfInBounds_toArray, List.set_cons_zero, List.set_cons_succ]
          refine tu 36 (oi := o105_1_36) rfl (by kernel_rfl) (fun _ _ _ h => h) (by rfl) hH4 ?_
          simp only [Act.put, o105_1_36, List.setIfInBounds_toArray, List.set_cons_zero, List.set_cons_succ]
          refine tu 37 (oi := o105_1_37) rfl (by kernel_rfl) (fun _ _ _ h => h) (by rfl) hH4 ?_
          simp only [Act.put, o105_1_37, List.setIfInBounds_toArray, List.set_cons_zero, List.set_cons_succ]
          refine tk 38 (oi := o105_1_38) (v := ?_) rfl (by kernel_rfl) (fun _ _ _ h => h) (by rfl) ?_ hH4 ?_
          rotate_left
          · (intro w hSw; (try dsimp only at hSw); unfold o105_1_38; go_simp <;> (with_reducible rfl))
          simp only [Act.put, o105_1_38, List.setIfInBounds_toArray, List.set_cons_zero, List.set_cons_succ]
          refine tk 39 (oi := o105_1_39) (v := ?_) rfl (by kernel_rfl) (fun _ _ _ h => h) (by rfl) ?_ hH4 ?_
          rotate_left
          · (intro w hSw; (try dsimp only at hSw); unfold o105_1_39; go_simp <;> (with_reducible rfl))
          simp only [Act.put, o105_1_39, List.setIfInBounds_toArray, List.set_cons_zero, List.set_cons_succ]
          refine wpAnyH_done (by kernel_rfl) ?_ _
          clear HSW
          go_wp2
          go_ret
          exact ⟨rfl, (below_step HB3.out HB8.out)⟩
    · refine tk 15 (oi := o105_1_15) (v := ?_) rfl (by kernel_rfl) (fun _ _ _ h => h) (by rfl) ?_ hH2 ?_
      rotate_left
      · (intro w hSw; (try dsimp only at hSw); unfold o105_1_15; go_simp <;> (with_reducible rfl))
      simp only [Act.put, o105_1_15, List.setIfInBounds_toArray, List.set_cons_zero, List.set_cons_succ]
      refine tk 16 (oi := o105_1_16) (v := ?_) rfl (by kernel_rfl) (fun _ _ _ h => h) (by rfl) ?_ hH2 ?_
      rotate_left
      · (intro w hSw; (try dsimp only at hSw); unfold o105_1_16; go_simp <;> (with_reducible rfl))
      simp only [Act.put, o105_1_16, List.setIfInBounds_toArray, List.set_cons_zero, List.set_cons_succ]
      refine tk 17 (oi := o105_1_17) (v := ?_) rfl (by kernel_rfl) (fun _ _ _ h => h) (by rfl) ?_ hH2 ?_
      rotate_left
      · (intro w hSw; (try dsimp only at hSw); unfold o105_1_17; go_simp <;> (with_reducible rfl))
      simp only [Act.put, o105_1_17, List.setIfInBounds_toArray, List.set_cons_zero, List.set_cons_succ]
      refine tu 18 (oi := o105_1_18) rfl (by kernel_rfl) (fun _ _ _ h => h) (by rfl) hH2 ?_
      simp only [Act.put, o105_1_18, List.setIfInBounds_toArray, List.set_cons_zero, List.set_cons_succ]
      refine tu 19 (oi := o105_1_19) rfl (by kernel_rfl) (fun _ _ _ h => h) (by rfl) hH2 ?_
      simp only [Act.put, o105_1_19, List.setIfInBounds_toArray, List.set_cons_zero, List.set_cons_succ]
      refine tu 20 (oi := o105_1_20) rfl (by kernel_rfl) (fun _ _ _ h => h) (by rfl) hH2 ?_
      simp only [Act.put, o105_1_20, List.setIfInBounds_toArray, List.set_cons_zero, List.set_cons_succ]
      refine tu 21 (oi := o105_1_21) rfl (by kernel_rfl) (fun _ _ _ h => h) (by rfl) hH2 ?_
      simp only [Act.put, o105_1_21, List.setIfInBounds_toArray, List.set_cons_zero, List.set_cons_succ]
      refine tu 22 (oi := o105_1_22) rfl (by kernel_rfl) (fun _ _ _ h => h) (by rfl) hH2 ?_
      simp only [Act.put, o105_1_22, List.setIfInBounds_toArray, List.set_cons_zero, List.set_cons_succ]
      refine tu 23 (oi := o105_1_23) rfl (by kernel_rfl) (fun _ _ _ h => h) (by rfl) hH2 ?_
      simp only [Act.put, o105_1_23, List.setIfInBounds_toArray, List.set_cons_zero, List.set_cons_succ]
      refine tu 24 (oi := o105_1_24) rfl (by kernel_rfl) (fun _ _ _ h => h) (by rfl) hH2 ?_
      simp only [Act.put, o105_1_24, List.setIfInBounds_toArray, List.set_cons_zero, List.set_cons_succ]
      refine tu 25 (oi := o105_1_25) rfl (by kernel_rfl) (fun _ _ _ h => h) (by rfl) hH2 ?_
      simp only [Act.put, o105_1_25, List.setIfInBounds_toArray, List.set_cons_zero, List.set_cons_succ]
      refine tu 26 (oi := o105_1_26) rfl (by kernel_rfl) (fun _ _ _ h => h) (by rfl) hH2 ?_
      simp only [Act.put, o105_1_26, List.setIfInBounds_toArray, List.set_cons_zero, List.set_cons_succ]
      refine tu 27 (oi := o105_1_27) rfl (by kernel_rfl) (fun _ _ _ h => h) (by rfl) hH2 ?_
      simp only [Act.put, o105_1_27, List.setIfInBounds_toArray, List.set_cons_zero, List.set_cons_succ]
      refine tu 28 (oi := o105_1_28) rfl (by kernel_rfl) (fun _ _ _ h => h) (by rfl) hH2 ?_
      simp only [Act.put, o105_1_28, List.setIfInBounds_toArray, List.set_cons_zero, List.set_cons_succ]
      refine tu 29 (oi := o105_1_29) rfl (by kernel_rfl) (fun _ _ _ h => h) (by rfl) hH2 ?_
      simp only [Act.put, o105_1_29, List.setIfInBounds_toArray, List.set_cons_zero, List.set_cons_succ]
      refine tk 30 (oi := o105_1_30) (v := ?_) rfl (by kernel_rfl) (fun _ _ _ h => h) (by rfl) ?_ hH2 ?_
      rotate_left
      · (intro w hSw; (try dsimp only at hSw); unfold o105_1_30; go_simp <;> (with_reducible rfl))
      simp only [Act.put, o105_1_30, List.setIfInBounds_toArray, List.set_cons_zero, List.set_cons_succ]
      refine tk 31 (oi := o105_1_31) (v := ?_) rfl (by kernel_rfl) (fun _ _ _ h => h) (by rfl) ?_ hH2 ?_
      rotate_left
      · (intro w hSw; (try dsimp only at hSw); unfold o105_1_31; go_simp <;> (with_reducible rfl))
      simp only [Act.put, o105_1_31, List.setIfInBounds_toArray, List.set_cons_zero, List.set_cons_succ]
      refine tu 32 (oi := o105_1_32) rfl (by kernel_rfl) (fun _ _ _ h => h) (by rfl) hH2 ?_
      simp only [Act.put, o105_1_32, List.setIfInBounds_toArray, List.set_cons_zero, List.set_cons_succ]
      refine tu 33 (oi := o105_1_33) rfl (by kernel_rfl) (fun _ _ _ h => h) (by rfl) hH2 ?_
      simp only [Act.put, o105_1_33, List.setIfInBounds_toArray, List.set_cons_zero, List.set_cons_succ]
      refine tu 34 (oi := o105_1_34) rfl (by kernel_rfl) (fun _ _ _ h => h) (by rfl) hH2 ?_
      simp only [Act.put, o105_1_34, List.setIfInBounds_toArray, List.set_cons_zero, List.set_cons_succ]
      refine tu 35 (oi := o105_1_35) rfl (by kernel_rfl) (fun _ _ _ h => h) (by rfl) hH2 ?_
      simp only [Act.put, o105_1_35, List.setIfInBounds_toArray, List.set_cons_zero, List.set_cons_succ]
      refine tu 36 (oi := o105_1_36) rfl (by kernel_rfl) (fun _ _ _ h => h) (by rfl) hH2 ?_
      simp only [Act.put, o105_1_36, List.setIfInBounds_toArray, List.set_cons_zero, List.set_cons_succ]
      refine tu 37 (oi := o105_1_37) rfl (by kernel_rfl) (fun _ _ _ h => h) (by rfl) hH2 ?_
      simp only [Act.put, o105_1_37, List.setIfInBounds_toArray, List.set_cons_zero, List.set_cons_succ]
      refine tk 38 (oi := o105_1_38) (v := ?_) rfl (by kernel_rfl) (fun _ _ _ h => h) (by rfl) ?_ hH2 ?_
      rotate_left
      · (intro w hSw; (try dsimp only at hSw); unfold o105_1_38; go_simp <;> (with_reducible rfl))
      simp only [Act.put, o105_1_38, List.setIfInBounds_toArray, List.set_cons_zero, List.set_cons_succ]
      refine tk 39 (oi := o105_1_39) (v := ?_) rfl (by kernel_rfl) (fun _ _ _ h => h) (by rfl) ?_ hH2 ?_
      rotate_left
      · (intro w hSw; (try dsimp only at hSw); unfold o105_1_39; go_simp <;> (with_reducible rfl))
      simp only [Act.put, o105_1_39, List.setIfInBounds_toArray, List.set_cons_zero, List.set_cons_succ]
      refine wpAnyH_done (by kernel_rfl) ?_ _
      clear HSW
      go_wp2
      go_ret
      exact ⟨rfl, (below_step HB3.out HB6.out)⟩
theorem enter105 : CanEnter 105 := Go.Proofs.enters_of Tryz.func105 (by kernel_rfl) rfl
theorem wrong_pred {cost gate : Int} {br bp bc bg : Nat} {r : Ros} {lv : Value} {p : List Int} {w : World} (V : Valid r) (hb : BoxAt w br r) (hbp : w.heap[bp]? = some (.cells #[lv] 26 (0, 0))) (hbc : w.heap[bc]? = some (.cells #[.int .i64 cost] 3 (0, 0))) (hbg : w.heap[bg]? = some (.cells #[.int .i64 gate] 3 (0, 0))) (hl : IntsAt w lv p) (hp : PrOk r p) :
    PredIn 105 #[.pointer (some ⟨br, 0, none⟩), .pointer (some ⟨bp, 0, none⟩), .pointer (some ⟨bc, 0, none⟩), .pointer (some ⟨bg, 0, none⟩)] (wrongB r gate cost p) (fun x => 0 ≤ x ∧ x < r.turns.length) w :=
  fun W x hx hW => wrong_calls x cost gate br bp bc bg r lv p W V (hb.below hW) (blk_below hbp hW) (blk_below hbc hW) (blk_below hbg hW) (hl.below hW) hp hx.1 hx.2
end Go.Proofs.YtflolfbkpjgjaaaGreatDoor
end
section
namespace Go.Proofs.YtflolfbkpjgjaaaGreatDoor
open Go.RowKit Go.Proofs.YtflolfbkpjgjaaaGreatDoorW.PrintWords
open Go.Proofs.YtflolfbkpjgjaaaGreatDoorW.PrintMore
def pricesB (r : Ros) (cost : Int) (p : List Int) : Bool := inB cost 0 1048576 && (!((p.length : Int) != (r.turns.length : Int)) && !(p.any outP))
def checkPricesE (r : Ros) (gate cost : Int) (p : List Int) : Int := if gatedE r gate != 0 then gatedE r gate else if pricesB r cost p then if decide ((0 : Int) < ((ownL r gate (wrongB r gate cost p)).length : Int)) then 32 else 0 else 1
theorem prOk_of {r : Ros} {p : List Int} (h1 : ((p.length : Int) != (r.turns.length : Int)) = false) (h2 : p.any outP = false) : PrOk r p where
  len := by rw [bne_eq_false_iff_eq] at h1; omega
  bnd := fun x hx => by
    rw [List.any_eq_false] at h2
    have := h2 x hx
    unfold outP at this
    rw [Bool.not_eq_true, Bool.not_eq_false', inB_iff] at this
    exact this
set_option maxHeartbeats 4000000 in
set_option maxRecDepth 100000 in
theorem checkPrices_calls (v lv : Value) (r : Ros) (gate cost : Int) (p : List Int) (w : World) (hv : RosAt w v r) (hl : IntsAt w lv p) :
    Calls Tryz.prog 28 #[v, .int .i64 gate, .int .i64 cost, lv] w fun e w' => e = .returned (.int .i64 (checkPricesE r gate cost p)) ∧ Below w.heap.size w w' := by
  have hm := rosAt_len hv
  have hR := Aside0.mk hv
  obtain ⟨A, c, T, d, rfl, h1, h2, h3, h4⟩ := hv
  clear h3 h4
  have hL := Aside0.mk hl
  have hgat := fun w (h : RosAt w (.agg (rosC r A c T d)) r) => gated_calls (.agg (rosC r A c T d)) r gate w h
  have hwit := fun w => within_in cost 0 1048576 w
  have hcon := fun w (h : IntsAt w lv p) => containsL_calls lv p 104 #[] outP w enter104 h (price1_pred _ w)
  have hown := fun (V : Valid r) (hp : PrOk r p) w br bp bc bg (h : RosAt w (.agg (rosC r A c T d)) r) (hb : BoxAt w br r) (h1 : w.heap[bp]? = some (.cells #[lv] 26 (0, 0))) (h2 : w.heap[bc]? = some (.cells #[.int .i64 cost] 3 (0, 0))) (h3 : w.heap[bg]? = some (.cells #[.int .i64 gate] 3 (0, 0))) (h4 : IntsAt w lv p) => own_calls (.agg (rosC r A c T d)) r gate 105 #[.pointer (some ⟨br, 0, none⟩), .pointer (some ⟨bp, 0, none⟩), .pointer (some ⟨bc, 0, none⟩), .pointer (some ⟨bg, 0, none⟩)] (wrongB r gate cost p) w enter105 h V.turns ((wrong_pred V hb h1 h2 h3 h4 hp).mono (fun x hx => ⟨hx.1, hx.2.1⟩))
  have hz := fun h => gatedE_zero (r := r) (gate := gate) h
  have hok := prOk_of (r := r) (p := p)
  have hol : (ownL r gate (wrongB r gate cost p)).length ≤ r.turns.length := ownL_len _ _ _
  obtain ⟨A1, c1, rfl, hc1, hl1⟩ := hl
  have hbig := hl1.2.1
  clear hl1
  have hmf : ∀ (fn : Fn) (first cap : Array Value) (w : World), (Instr.makeFunc fn first cap).run Tryz.prog w = .ok (.func fn first cap) w := fun _ _ _ _ => rfl
  unfold checkPricesE pricesB
  generalize hge : gatedE r gate = ge at *
  cases hc : (ge != 0)
  · have e0 : ge = 0 := by simpa using hc
    subst e0
    have V := (hz rfl).1
    have hown2 := hown V
    have hn24 := V.turns
    clear hz hc V hown
    generalize inB cost 0 1048576 = m1 at *
    generalize p.any outP = m2 at *
    generalize ownL r gate (wrongB r gate cost p) = ol at *
    cases m1
    · clear hok hown2
      go_enter Tryz.func28, Tryz.ntmps28
      go_wp2_with (first | ((with_reducible refine gate_dst (N := 4) rfl ?_); refine box_event ?hg (N := 4) ?hd (cs := rosC r A c T d) (t := 25) ?hr ?_; (case hd => rfl); (case hg => rfl); (case hr => first | (go_simp; done) | (go_simp; rfl)); intro gr hgr w1 hbox_ hb_; have BR1 := Aside0.mk hbox_; have Hgr := Aside0.mk hgr; have HB1 := Aside0.mk hb_; clear hbox_ hb_ hgr) | ((with_reducible refine gate_dst (N := 5) rfl ?_); refine box_event ?hg (N := 5) ?hd (cs := #[.int .i64 gate]) (t := 3) ?hr ?_; (case hd => rfl); (case hg => rfl); (case hr => first | (go_simp; done) | (go_simp; rfl)); intro gg hgg w2 hbox_ hb_; have BG2 := Aside0.mk hbox_; have Hgg := Aside0.mk hgg; have HB2 := Aside0.mk (below_step HB1.out hb_); have BR2 := Aside0.mk (blk_below BR1.out hb_); clear hbox_ hb_ hgg) | ((with_reducible refine gate_dst (N := 6) rfl ?_); refine box_event ?hg (N := 6) ?hd (cs := #[.int .i64 cost]) (t := 3) ?hr ?_; (case hd => rfl); (case hg => rfl); (case hr => first | (go_simp; done) | (go_simp; rfl)); intro gc hgc w3 hbox_ hb_; have BC3 := Aside0.mk hbox_; have Hgc := Aside0.mk hgc; have HB3 := Aside0.mk (below_step HB2.out hb_); have BR3 := Aside0.mk (blk_below BR2.out hb_); have BG3 := Aside0.mk (blk_below BG2.out hb_); clear hbox_ hb_ hgc) | ((with_reducible refine gate_dst (N := 7) rfl ?_); refine box_event ?hg (N := 7) ?hd (cs := #[.slice A1 p.length c1]) (t := 26) ?hr ?_; (case hd => rfl); (case hg => rfl); (case hr => first | (go_simp; done) | (go_simp; rfl)); intro gp hgp w4 hbox_ hb_; have BP4 := Aside0.mk hbox_; have Hgp := Aside0.mk hgp; have HB4 := Aside0.mk (below_step HB3.out hb_); have BR4 := Aside0.mk (blk_below BR3.out hb_); have BG4 := Aside0.mk (blk_below BG3.out hb_); have BC4 := Aside0.mk (blk_below BC3.out hb_); obtain ⟨q0, q1, q2, q3, q4⟩ := rosC_cells BR4.out; have q5 : w4.cell? ⟨gg, 0, none⟩ = some (.int .i64 gate) := (blk_cell BG4.out 0).trans rfl; have q6 : w4.cell? ⟨gc, 0, none⟩ = some (.int .i64 cost) := (blk_cell BC4.out 0).trans rfl; have q7 : w4.cell? ⟨gp, 0, none⟩ = some (.slice A1 p.length c1) := (blk_cell hbox_ 0).trans rfl; clear hbox_ hb_ hgp) | (go_at_call 77; refine (hgat _ (hR.out.below HB4.out)).mono ?_; rintro e w5 ⟨rfl, hb_⟩; have HB5 := Aside0.mk (below_step HB4.out hb_); have BR5 := Aside0.mk (blk_below BR4.out hb_); have BG5 := Aside0.mk (blk_below BG4.out hb_); have BC5 := Aside0.mk (blk_below BC4.out hb_); have BP5 := Aside0.mk (blk_below BP4.out hb_); clear q0 q1 q2 q3 q4 q5 q6 q7; obtain ⟨q0, q1, q2, q3, q4⟩ := rosC_cells BR5.out; have q5 : w5.cell? ⟨gg, 0, none⟩ = some (.int .i64 gate) := (blk_cell BG5.out 0).trans rfl; have q6 : w5.cell? ⟨gc, 0, none⟩ = some (.int .i64 cost) := (blk_cell BC5.out 0).trans rfl; have q7 : w5.cell? ⟨gp, 0, none⟩ = some (.slice A1 p.length c1) := (blk_cell BP5.out 0).trans rfl; clear hb_) | (go_at_call 103; refine (hwit _).mono ?_; rintro e w' ⟨rfl, rfl⟩) | (go_at_call 43; refine (hcon _ (IntsAt.below hL.out HB5.out)).mono ?_; rintro e w6 ⟨rfl, hb_⟩; have HB6 := Aside0.mk (below_step HB5.out hb_); have BR6 := Aside0.mk (blk_below BR5.out hb_); have BG6 := Aside0.mk (blk_below BG5.out hb_); have BC6 := Aside0.mk (blk_below BC5.out hb_); have BP6 := Aside0.mk (blk_below BP5.out hb_); clear q0 q1 q2 q3 q4 q5 q6 q7; obtain ⟨q0, q1, q2, q3, q4⟩ := rosC_cells BR6.out; have q5 : w6.cell? ⟨gg, 0, none⟩ = some (.int .i64 gate) := (blk_cell BG6.out 0).trans rfl; have q6 : w6.cell? ⟨gc, 0, none⟩ = some (.int .i64 cost) := (blk_cell BC6.out 0).trans rfl; have q7 : w6.cell? ⟨gp, 0, none⟩ = some (.slice A1 p.length c1) := (blk_cell BP6.out 0).trans rfl; clear hb_) | (go_at_call 94; refine (hown _ _ _ _ _ (hR.out.below HB6.out) ⟨A, c, T, d, BR6.out, hR.out.below HB6.out⟩ BP6.out BC6.out BG6.out (IntsAt.below hL.out HB6.out)).mono ?_; rintro e w8 ⟨lv8, rfl, ho_, hb_⟩; obtain ⟨A8, c8, rfl⟩ := own_slice ho_; have HB8 := Aside0.mk (below_step HB6.out hb_); clear hb_ ho_))
      go_ret
      exact ⟨rfl, HB5.out⟩
    · cases hm2 : ((p.length : Int) != (r.turns.length : Int))
      · rw [hm2] at hok
        cases m2
        · have hown := hown2 (hok rfl rfl)
          clear hok hown2
          by_cases ho : (0 : Int) < (ol.length : Int)
          · rw [decide_eq_true ho]
            go_enter Tryz.func28, Tryz.ntmps28
            go_wp2_with (first | ((with_reducible refine gate_dst (N := 4) rfl ?_); refine box_event ?hg (N := 4) ?hd (cs := rosC r A c T d) (t := 25) ?hr ?_; (case hd => rfl); (case hg => rfl); (case hr => first | (go_simp; done) | (go_simp; rfl)); intro gr hgr w1 hbox_ hb_; have BR1 := Aside0.mk hbox_; have Hgr := Aside0.mk hgr; have HB1 := Aside0.mk hb_; clear hbox_ hb_ hgr) | ((with_reducible refine gate_dst (N := 5) rfl ?_); refine box_event ?hg (N := 5) ?hd (cs := #[.int .i64 gate]) (t := 3) ?hr ?_; (case hd => rfl); (case hg => rfl); (case hr => first | (go_simp; done) | (go_simp; rfl)); intro gg hgg w2 hbox_ hb_; have BG2 := Aside0.mk hbox_; have Hgg := Aside0.mk hgg; have HB2 := Aside0.mk (below_step HB1.out hb_); have BR2 := Aside0.mk (blk_below BR1.out hb_); clear hbox_ hb_ hgg) | ((with_reducible refine gate_dst (N := 6) rfl ?_); refine box_event ?hg (N := 6) ?hd (cs := #[.int .i64 cost]) (t := 3) ?hr ?_; (case hd => rfl); (case hg => rfl); (case hr => first | (go_simp; done) | (go_simp; rfl)); intro gc hgc w3 hbox_ hb_; have BC3 := Aside0.mk hbox_; have Hgc := Aside0.mk hgc; have HB3 := Aside0.mk (below_step HB2.out hb_); have BR3 := Aside0.mk (blk_below BR2.out hb_); have BG3 := Aside0.mk (blk_below BG2.out hb_); clear hbox_ hb_ hgc) | ((with_reducible refine gate_dst (N := 7) rfl ?_); refine box_event ?hg (N := 7) ?hd (cs := #[.slice A1 p.length c1]) (t := 26) ?hr ?_; (case hd => rfl); (case hg => rfl); (case hr => first | (go_simp; done) | (go_simp; rfl)); intro gp hgp w4 hbox_ hb_; have BP4 := Aside0.mk hbox_; have Hgp := Aside0.mk hgp; have HB4 := Aside0.mk (below_step HB3.out hb_); have BR4 := Aside0.mk (blk_below BR3.out hb_); have BG4 := Aside0.mk (blk_below BG3.out hb_); have BC4 := Aside0.mk (blk_below BC3.out hb_); obtain ⟨q0, q1, q2, q3, q4⟩ := rosC_cells BR4.out; have q5 : w4.cell? ⟨gg, 0, none⟩ = some (.int .i64 gate) := (blk_cell BG4.out 0).trans rfl; have q6 : w4.cell? ⟨gc, 0, none⟩ = some (.int .i64 cost) := (blk_cell BC4.out 0).trans rfl; have q7 : w4.cell? ⟨gp, 0, none⟩ = some (.slice A1 p.length c1) := (blk_cell hbox_ 0).trans rfl; clear hbox_ hb_ hgp) | (go_at_call 77; refine (hgat _ (hR.out.below HB4.out)).mono ?_; rintro e w5 ⟨rfl, hb_⟩; have HB5 := Aside0.mk (below_step HB4.out hb_); have BR5 := Aside0.mk (blk_below BR4.out hb_); have BG5 := Aside0.mk (blk_below BG4.out hb_); have BC5 := Aside0.mk (blk_below BC4.out hb_); have BP5 := Aside0.mk (blk_below BP4.out hb_); clear q0 q1 q2 q3 q4 q5 q6 q7; obtain ⟨q0, q1, q2, q3, q4⟩ := rosC_cells BR5.out; have q5 : w5.cell? ⟨gg, 0, none⟩ = some (.int .i64 gate) := (blk_cell BG5.out 0).trans rfl; have q6 : w5.cell? ⟨gc, 0, none⟩ = some (.int .i64 cost) := (blk_cell BC5.out 0).trans rfl; have q7 : w5.cell? ⟨gp, 0, none⟩ = some (.slice A1 p.length c1) := (blk_cell BP5.out 0).trans rfl; clear hb_) | (go_at_call 103; refine (hwit _).mono ?_; rintro e w' ⟨rfl, rfl⟩) | (go_at_call 43; refine (hcon _ (IntsAt.below hL.out HB5.out)).mono ?_; rintro e w6 ⟨rfl, hb_⟩; have HB6 := Aside0.mk (below_step HB5.out hb_); have BR6 := Aside0.mk (blk_below BR5.out hb_); have BG6 := Aside0.mk (blk_below BG5.out hb_); have BC6 := Aside0.mk (blk_below BC5.out hb_); have BP6 := Aside0.mk (blk_below BP5.out hb_); clear q0 q1 q2 q3 q4 q5 q6 q7; obtain ⟨q0, q1, q2, q3, q4⟩ := rosC_cells BR6.out; have q5 : w6.cell? ⟨gg, 0, none⟩ = some (.int .i64 gate) := (blk_cell BG6.out 0).trans rfl; have q6 : w6.cell? ⟨gc, 0, none⟩ = some (.int .i64 cost) := (blk_cell BC6.out 0).trans rfl; have q7 : w6.cell? ⟨gp, 0, none⟩ = some (.slice A1 p.length c1) := (blk_cell BP6.out 0).trans rfl; clear hb_) | (go_at_call 94; refine (hown _ _ _ _ _ (hR.out.below HB6.out) ⟨A, c, T, d, BR6.out, hR.out.below HB6.out⟩ BP6.out BC6.out BG6.out (IntsAt.below hL.out HB6.out)).mono ?_; rintro e w8 ⟨lv8, rfl, ho_, hb_⟩; obtain ⟨A8, c8, rfl⟩ := own_slice ho_; have HB8 := Aside0.mk (below_step HB6.out hb_); clear hb_ ho_))
            go_ret
            exact ⟨rfl, HB8.out⟩
          · rw [decide_eq_false ho]
            go_enter Tryz.func28, Tryz.ntmps28
            go_wp2_with (first | ((with_reducible refine gate_dst (N := 4) rfl ?_); refine box_event ?hg (N := 4) ?hd (cs := rosC r A c T d) (t := 25) ?hr ?_; (case hd => rfl); (case hg => rfl); (case hr => first | (go_simp; done) | (go_simp; rfl)); intro gr hgr w1 hbox_ hb_; have BR1 := Aside0.mk hbox_; have Hgr := Aside0.mk hgr; have HB1 := Aside0.mk hb_; clear hbox_ hb_ hgr) | ((with_reducible refine gate_dst (N := 5) rfl ?_); refine box_event ?hg (N := 5) ?hd (cs := #[.int .i64 gate]) (t := 3) ?hr ?_; (case hd => rfl); (case hg => rfl); (case hr => first | (go_simp; done) | (go_simp; rfl)); intro gg hgg w2 hbox_ hb_; have BG2 := Aside0.mk hbox_; have Hgg := Aside0.mk hgg; have HB2 := Aside0.mk (below_step HB1.out hb_); have BR2 := Aside0.mk (blk_below BR1.out hb_); clear hbox_ hb_ hgg) | ((with_reducible refine gate_dst (N := 6) rfl ?_); refine box_event ?hg (N := 6) ?hd (cs := #[.int .i64 cost]) (t := 3) ?hr ?_; (case hd => rfl); (case hg => rfl); (case hr => first | (go_simp; done) | (go_simp; rfl)); intro gc hgc w3 hbox_ hb_; have BC3 := Aside0.mk hbox_; have Hgc := Aside0.mk hgc; have HB3 := Aside0.mk (below_step HB2.out hb_); have BR3 := Aside0.mk (blk_below BR2.out hb_); have BG3 := Aside0.mk (blk_below BG2.out hb_); clear hbox_ hb_ hgc) | ((with_reducible refine gate_dst (N := 7) rfl ?_); refine box_event ?hg (N := 7) ?hd (cs := #[.slice A1 p.length c1]) (t := 26) ?hr ?_; (case hd => rfl); (case hg => rfl); (case hr => first | (go_simp; done) | (go_simp; rfl)); intro gp hgp w4 hbox_ hb_; have BP4 := Aside0.mk hbox_; have Hgp := Aside0.mk hgp; have HB4 := Aside0.mk (below_step HB3.out hb_); have BR4 := Aside0.mk (blk_below BR3.out hb_); have BG4 := Aside0.mk (blk_below BG3.out hb_); have BC4 := Aside0.mk (blk_below BC3.out hb_); obtain ⟨q0, q1, q2, q3, q4⟩ := rosC_cells BR4.out; have q5 : w4.cell? ⟨gg, 0, none⟩ = some (.int .i64 gate) := (blk_cell BG4.out 0).trans rfl; have q6 : w4.cell? ⟨gc, 0, none⟩ = some (.int .i64 cost) := (blk_cell BC4.out 0).trans rfl; have q7 : w4.cell? ⟨gp, 0, none⟩ = some (.slice A1 p.length c1) := (blk_cell hbox_ 0).trans rfl; clear hbox_ hb_ hgp) | (go_at_call 77; refine (hgat _ (hR.out.below HB4.out)).mono ?_; rintro e w5 ⟨rfl, hb_⟩; have HB5 := Aside0.mk (below_step HB4.out hb_); have BR5 := Aside0.mk (blk_below BR4.out hb_); have BG5 := Aside0.mk (blk_below BG4.out hb_); have BC5 := Aside0.mk (blk_below BC4.out hb_); have BP5 := Aside0.mk (blk_below BP4.out hb_); clear q0 q1 q2 q3 q4 q5 q6 q7; obtain ⟨q0, q1, q2, q3, q4⟩ := rosC_cells BR5.out; have q5 : w5.cell? ⟨gg, 0, none⟩ = some (.int .i64 gate) := (blk_cell BG5.out 0).trans rfl; have q6 : w5.cell? ⟨gc, 0, none⟩ = some (.int .i64 cost) := (blk_cell BC5.out 0).trans rfl; have q7 : w5.cell? ⟨gp, 0, none⟩ = some (.slice A1 p.length c1) := (blk_cell BP5.out 0).trans rfl; clear hb_) | (go_at_call 103; refine (hwit _).mono ?_; rintro e w' ⟨rfl, rfl⟩) | (go_at_call 43; refine (hcon _ (IntsAt.below hL.out HB5.out)).mono ?_; rintro e w6 ⟨rfl, hb_⟩; have HB6 := Aside0.mk (below_step HB5.out hb_); have BR6 := Aside0.mk (blk_below BR5.out hb_); have BG6 := Aside0.mk (blk_below BG5.out hb_); have BC6 := Aside0.mk (blk_below BC5.out hb_); have BP6 := Aside0.mk (blk_below BP5.out hb_); clear q0 q1 q2 q3 q4 q5 q6 q7; obtain ⟨q0, q1, q2, q3, q4⟩ := rosC_cells BR6.out; have q5 : w6.cell? ⟨gg, 0, none⟩ = some (.int .i64 gate) := (blk_cell BG6.out 0).trans rfl; have q6 : w6.cell? ⟨gc, 0, none⟩ = some (.int .i64 cost) := (blk_cell BC6.out 0).trans rfl; have q7 : w6.cell? ⟨gp, 0, none⟩ = some (.slice A1 p.length c1) := (blk_cell BP6.out 0).trans rfl; clear hb_) | (go_at_call 94; refine (hown _ _ _ _ _ (hR.out.below HB6.out) ⟨A, c, T, d, BR6.out, hR.out.below HB6.out⟩ BP6.out BC6.out BG6.out (IntsAt.below hL.out HB6.out)).mono ?_; rintro e w8 ⟨lv8, rfl, ho_, hb_⟩; obtain ⟨A8, c8, rfl⟩ := own_slice ho_; have HB8 := Aside0.mk (below_step HB6.out hb_); clear hb_ ho_))
            go_ret
            exact ⟨rfl, HB8.out⟩
        · clear hok hown2
          go_enter Tryz.func28, Tryz.ntmps28
          go_wp2_with (first | ((with_reducible refine gate_dst (N := 4) rfl ?_); refine box_event ?hg (N := 4) ?hd (cs := rosC r A c T d) (t := 25) ?hr ?_; (case hd => rfl); (case hg => rfl); (case hr => first | (go_simp; done) | (go_simp; rfl)); intro gr hgr w1 hbox_ hb_; have BR1 := Aside0.mk hbox_; have Hgr := Aside0.mk hgr; have HB1 := Aside0.mk hb_; clear hbox_ hb_ hgr) | ((with_reducible refine gate_dst (N := 5) rfl ?_); refine box_event ?hg (N := 5) ?hd (cs := #[.int .i64 gate]) (t := 3) ?hr ?_; (case hd => rfl); (case hg => rfl); (case hr => first | (go_simp; done) | (go_simp; rfl)); intro gg hgg w2 hbox_ hb_; have BG2 := Aside0.mk hbox_; have Hgg := Aside0.mk hgg; have HB2 := Aside0.mk (below_step HB1.out hb_); have BR2 := Aside0.mk (blk_below BR1.out hb_); clear hbox_ hb_ hgg) | ((with_reducible refine gate_dst (N := 6) rfl ?_); refine box_event ?hg (N := 6) ?hd (cs := #[.int .i64 cost]) (t := 3) ?hr ?_; (case hd => rfl); (case hg => rfl); (case hr => first | (go_simp; done) | (go_simp; rfl)); intro gc hgc w3 hbox_ hb_; have BC3 := Aside0.mk hbox_; have Hgc := Aside0.mk hgc; have HB3 := Aside0.mk (below_step HB2.out hb_); have BR3 := Aside0.mk (blk_below BR2.out hb_); have BG3 := Aside0.mk (blk_below BG2.out hb_); clear hbox_ hb_ hgc) | ((with_reducible refine gate_dst (N := 7) rfl ?_); refine box_event ?hg (N := 7) ?hd (cs := #[.slice A1 p.length c1]) (t := 26) ?hr ?_; (case hd => rfl); (case hg => rfl); (case hr => first | (go_simp; done) | (go_simp; rfl)); intro gp hgp w4 hbox_ hb_; have BP4 := Aside0.mk hbox_; have Hgp := Aside0.mk hgp; have HB4 := Aside0.mk (below_step HB3.out hb_); have BR4 := Aside0.mk (blk_below BR3.out hb_); have BG4 := Aside0.mk (blk_below BG3.out hb_); have BC4 := Aside0.mk (blk_below BC3.out hb_); obtain ⟨q0, q1, q2, q3, q4⟩ := rosC_cells BR4.out; have q5 : w4.cell? ⟨gg, 0, none⟩ = some (.int .i64 gate) := (blk_cell BG4.out 0).trans rfl; have q6 : w4.cell? ⟨gc, 0, none⟩ = some (.int .i64 cost) := (blk_cell BC4.out 0).trans rfl; have q7 : w4.cell? ⟨gp, 0, none⟩ = some (.slice A1 p.length c1) := (blk_cell hbox_ 0).trans rfl; clear hbox_ hb_ hgp) | (go_at_call 77; refine (hgat _ (hR.out.below HB4.out)).mono ?_; rintro e w5 ⟨rfl, hb_⟩; have HB5 := Aside0.mk (below_step HB4.out hb_); have BR5 := Aside0.mk (blk_below BR4.out hb_); have BG5 := Aside0.mk (blk_below BG4.out hb_); have BC5 := Aside0.mk (blk_below BC4.out hb_); have BP5 := Aside0.mk (blk_below BP4.out hb_); clear q0 q1 q2 q3 q4 q5 q6 q7; obtain ⟨q0, q1, q2, q3, q4⟩ := rosC_cells BR5.out; have q5 : w5.cell? ⟨gg, 0, none⟩ = some (.int .i64 gate) := (blk_cell BG5.out 0).trans rfl; have q6 : w5.cell? ⟨gc, 0, none⟩ = some (.int .i64 cost) := (blk_cell BC5.out 0).trans rfl; have q7 : w5.cell? ⟨gp, 0, none⟩ = some (.slice A1 p.length c1) := (blk_cell BP5.out 0).trans rfl; clear hb_) | (go_at_call 103; refine (hwit _).mono ?_; rintro e w' ⟨rfl, rfl⟩) | (go_at_call 43; refine (hcon _ (IntsAt.below hL.out HB5.out)).mono ?_; rintro e w6 ⟨rfl, hb_⟩; have HB6 := Aside0.mk (below_step HB5.out hb_); have BR6 := Aside0.mk (blk_below BR5.out hb_); have BG6 := Aside0.mk (blk_below BG5.out hb_); have BC6 := Aside0.mk (blk_below BC5.out hb_); have BP6 := Aside0.mk (blk_below BP5.out hb_); clear q0 q1 q2 q3 q4 q5 q6 q7; obtain ⟨q0, q1, q2, q3, q4⟩ := rosC_cells BR6.out; have q5 : w6.cell? ⟨gg, 0, none⟩ = some (.int .i64 gate) := (blk_cell BG6.out 0).trans rfl; have q6 : w6.cell? ⟨gc, 0, none⟩ = some (.int .i64 cost) := (blk_cell BC6.out 0).trans rfl; have q7 : w6.cell? ⟨gp, 0, none⟩ = some (.slice A1 p.length c1) := (blk_cell BP6.out 0).trans rfl; clear hb_) | (go_at_call 94; refine (hown _ _ _ _ _ (hR.out.below HB6.out) ⟨A, c, T, d, BR6.out, hR.out.below HB6.out⟩ BP6.out BC6.out BG6.out (IntsAt.below hL.out HB6.out)).mono ?_; rintro e w8 ⟨lv8, rfl, ho_, hb_⟩; obtain ⟨A8, c8, rfl⟩ := own_slice ho_; have HB8 := Aside0.mk (below_step HB6.out hb_); clear hb_ ho_))
          go_ret
          exact ⟨rfl, HB6.out⟩
      · clear hok hown2
        go_enter Tryz.func28, Tryz.ntmps28
        go_wp2_with (first | ((with_reducible refine gate_dst (N := 4) rfl ?_); refine box_event ?hg (N := 4) ?hd (cs := rosC r A c T d) (t := 25) ?hr ?_; (case hd => rfl); (case hg => rfl); (case hr => first | (go_simp; done) | (go_simp; rfl)); intro gr hgr w1 hbox_ hb_; have BR1 := Aside0.mk hbox_; have Hgr := Aside0.mk hgr; have HB1 := Aside0.mk hb_; clear hbox_ hb_ hgr) | ((with_reducible refine gate_dst (N := 5) rfl ?_); refine box_event ?hg (N := 5) ?hd (cs := #[.int .i64 gate]) (t := 3) ?hr ?_; (case hd => rfl); (case hg => rfl); (case hr => first | (go_simp; done) | (go_simp; rfl)); intro gg hgg w2 hbox_ hb_; have BG2 := Aside0.mk hbox_; have Hgg := Aside0.mk hgg; have HB2 := Aside0.mk (below_step HB1.out hb_); have BR2 := Aside0.mk (blk_below BR1.out hb_); clear hbox_ hb_ hgg) | ((with_reducible refine gate_dst (N := 6) rfl ?_); refine box_event ?hg (N := 6) ?hd (cs := #[.int .i64 cost]) (t := 3) ?hr ?_; (case hd => rfl); (case hg => rfl); (case hr => first | (go_simp; done) | (go_simp; rfl)); intro gc hgc w3 hbox_ hb_; have BC3 := Aside0.mk hbox_; have Hgc := Aside0.mk hgc; have HB3 := Aside0.mk (below_step HB2.out hb_); have BR3 := Aside0.mk (blk_below BR2.out hb_); have BG3 := Aside0.mk (blk_below BG2.out hb_); clear hbox_ hb_ hgc) | ((with_reducible refine gate_dst (N := 7) rfl ?_); refine box_event ?hg (N := 7) ?hd (cs := #[.slice A1 p.length c1]) (t := 26) ?hr ?_; (case hd => rfl); (case hg => rfl); (case hr => first | (go_simp; done) | (go_simp; rfl)); intro gp hgp w4 hbox_ hb_; have BP4 := Aside0.mk hbox_; have Hgp := Aside0.mk hgp; have HB4 := Aside0.mk (below_step HB3.out hb_); have BR4 := Aside0.mk (blk_below BR3.out hb_); have BG4 := Aside0.mk (blk_below BG3.out hb_); have BC4 := Aside0.mk (blk_below BC3.out hb_); obtain ⟨q0, q1, q2, q3, q4⟩ := rosC_cells BR4.out; have q5 : w4.cell? ⟨gg, 0, none⟩ = some (.int .i64 gate) := (blk_cell BG4.out 0).trans rfl; have q6 : w4.cell? ⟨gc, 0, none⟩ = some (.int .i64 cost) := (blk_cell BC4.out 0).trans rfl; have q7 : w4.cell? ⟨gp, 0, none⟩ = some (.slice A1 p.length c1) := (blk_cell hbox_ 0).trans rfl; clear hbox_ hb_ hgp) | (go_at_call 77; refine (hgat _ (hR.out.below HB4.out)).mono ?_; rintro e w5 ⟨rfl, hb_⟩; have HB5 := Aside0.mk (below_step HB4.out hb_); have BR5 := Aside0.mk (blk_below BR4.out hb_); have BG5 := Aside0.mk (blk_below BG4.out hb_); have BC5 := Aside0.mk (blk_below BC4.out hb_); have BP5 := Aside0.mk (blk_below BP4.out hb_); clear q0 q1 q2 q3 q4 q5 q6 q7; obtain ⟨q0, q1, q2, q3, q4⟩ := rosC_cells BR5.out; have q5 : w5.cell? ⟨gg, 0, none⟩ = some (.int .i64 gate) := (blk_cell BG5.out 0).trans rfl; have q6 : w5.cell? ⟨gc, 0, none⟩ = some (.int .i64 cost) := (blk_cell BC5.out 0).trans rfl; have q7 : w5.cell? ⟨gp, 0, none⟩ = some (.slice A1 p.length c1) := (blk_cell BP5.out 0).trans rfl; clear hb_) | (go_at_call 103; refine (hwit _).mono ?_; rintro e w' ⟨rfl, rfl⟩) | (go_at_call 43; refine (hcon _ (IntsAt.below hL.out HB5.out)).mono ?_; rintro e w6 ⟨rfl, hb_⟩; have HB6 := Aside0.mk (below_step HB5.out hb_); have BR6 := Aside0.mk (blk_below BR5.out hb_); have BG6 := Aside0.mk (blk_below BG5.out hb_); have BC6 := Aside0.mk (blk_below BC5.out hb_); have BP6 := Aside0.mk (blk_below BP5.out hb_); clear q0 q1 q2 q3 q4 q5 q6 q7; obtain ⟨q0, q1, q2, q3, q4⟩ := rosC_cells BR6.out; have q5 : w6.cell? ⟨gg, 0, none⟩ = some (.int .i64 gate) := (blk_cell BG6.out 0).trans rfl; have q6 : w6.cell? ⟨gc, 0, none⟩ = some (.int .i64 cost) := (blk_cell BC6.out 0).trans rfl; have q7 : w6.cell? ⟨gp, 0, none⟩ = some (.slice A1 p.length c1) := (blk_cell BP6.out 0).trans rfl; clear hb_) | (go_at_call 94; refine (hown _ _ _ _ _ (hR.out.below HB6.out) ⟨A, c, T, d, BR6.out, hR.out.below HB6.out⟩ BP6.out BC6.out BG6.out (IntsAt.below hL.out HB6.out)).mono ?_; rintro e w8 ⟨lv8, rfl, ho_, hb_⟩; obtain ⟨A8, c8, rfl⟩ := own_slice ho_; have HB8 := Aside0.mk (below_step HB6.out hb_); clear hb_ ho_))
        go_ret
        exact ⟨rfl, HB5.out⟩
  · clear hown hz hok
    go_enter Tryz.func28, Tryz.ntmps28
    go_wp2_with (first | ((with_reducible refine gate_dst (N := 4) rfl ?_); refine box_event ?hg (N := 4) ?hd (cs := rosC r A c T d) (t := 25) ?hr ?_; (case hd => rfl); (case hg => rfl); (case hr => first | (go_simp; done) | (go_simp; rfl)); intro gr hgr w1 hbox_ hb_; have BR1 := Aside0.mk hbox_; have Hgr := Aside0.mk hgr; have HB1 := Aside0.mk hb_; clear hbox_ hb_ hgr) | ((with_reducible refine gate_dst (N := 5) rfl ?_); refine box_event ?hg (N := 5) ?hd (cs := #[.int .i64 gate]) (t := 3) ?hr ?_; (case hd => rfl); (case hg => rfl); (case hr => first | (go_simp; done) | (go_simp; rfl)); intro gg hgg w2 hbox_ hb_; have BG2 := Aside0.mk hbox_; have Hgg := Aside0.mk hgg; have HB2 := Aside0.mk (below_step HB1.out hb_); have BR2 := Aside0.mk (blk_below BR1.out hb_); clear hbox_ hb_ hgg) | ((with_reducible refine gate_dst (N := 6) rfl ?_); refine box_event ?hg (N := 6) ?hd (cs := #[.int .i64 cost]) (t := 3) ?hr ?_; (case hd => rfl); (case hg => rfl); (case hr => first | (go_simp; done) | (go_simp; rfl)); intro gc hgc w3 hbox_ hb_; have BC3 := Aside0.mk hbox_; have Hgc := Aside0.mk hgc; have HB3 := Aside0.mk (below_step HB2.out hb_); have BR3 := Aside0.mk (blk_below BR2.out hb_); have BG3 := Aside0.mk (blk_below BG2.out hb_); clear hbox_ hb_ hgc) | ((with_reducible refine gate_dst (N := 7) rfl ?_); refine box_event ?hg (N := 7) ?hd (cs := #[.slice A1 p.length c1]) (t := 26) ?hr ?_; (case hd => rfl); (case hg => rfl); (case hr => first | (go_simp; done) | (go_simp; rfl)); intro gp hgp w4 hbox_ hb_; have BP4 := Aside0.mk hbox_; have Hgp := Aside0.mk hgp; have HB4 := Aside0.mk (below_step HB3.out hb_); have BR4 := Aside0.mk (blk_below BR3.out hb_); have BG4 := Aside0.mk (blk_below BG3.out hb_); have BC4 := Aside0.mk (blk_below BC3.out hb_); obtain ⟨q0, q1, q2, q3, q4⟩ := rosC_cells BR4.out; have q5 : w4.cell? ⟨gg, 0, none⟩ = some (.int .i64 gate) := (blk_cell BG4.out 0).trans rfl; have q6 : w4.cell? ⟨gc, 0, none⟩ = some (.int .i64 cost) := (blk_cell BC4.out 0).trans rfl; have q7 : w4.cell? ⟨gp, 0, none⟩ = some (.slice A1 p.length c1) := (blk_cell hbox_ 0).trans rfl; clear hbox_ hb_ hgp) | (go_at_call 77; refine (hgat _ (hR.out.below HB4.out)).mono ?_; rintro e w5 ⟨rfl, hb_⟩; have HB5 := Aside0.mk (below_step HB4.out hb_); have BR5 := Aside0.mk (blk_below BR4.out hb_); have BG5 := Aside0.mk (blk_below BG4.out hb_); have BC5 := Aside0.mk (blk_below BC4.out hb_); have BP5 := Aside0.mk (blk_below BP4.out hb_); clear q0 q1 q2 q3 q4 q5 q6 q7; obtain ⟨q0, q1, q2, q3, q4⟩ := rosC_cells BR5.out; have q5 : w5.cell? ⟨gg, 0, none⟩ = some (.int .i64 gate) := (blk_cell BG5.out 0).trans rfl; have q6 : w5.cell? ⟨gc, 0, none⟩ = some (.int .i64 cost) := (blk_cell BC5.out 0).trans rfl; have q7 : w5.cell? ⟨gp, 0, none⟩ = some (.slice A1 p.length c1) := (blk_cell BP5.out 0).trans rfl; clear hb_) | (go_at_call 103; refine (hwit _).mono ?_; rintro e w' ⟨rfl, rfl⟩) | (go_at_call 43; refine (hcon _ (IntsAt.below hL.out HB5.out)).mono ?_; rintro e w6 ⟨rfl, hb_⟩; have HB6 := Aside0.mk (below_step HB5.out hb_); have BR6 := Aside0.mk (blk_below BR5.out hb_); have BG6 := Aside0.mk (blk_below BG5.out hb_); have BC6 := Aside0.mk (blk_below BC5.out hb_); have BP6 := Aside0.mk (blk_below BP5.out hb_); clear q0 q1 q2 q3 q4 q5 q6 q7; obtain ⟨q0, q1, q2, q3, q4⟩ := rosC_cells BR6.out; have q5 : w6.cell? ⟨gg, 0, none⟩ = some (.int .i64 gate) := (blk_cell BG6.out 0).trans rfl; have q6 : w6.cell? ⟨gc, 0, none⟩ = some (.int .i64 cost) := (blk_cell BC6.out 0).trans rfl; have q7 : w6.cell? ⟨gp, 0, none⟩ = some (.slice A1 p.length c1) := (blk_cell BP6.out 0).trans rfl; clear hb_) | (go_at_call 94; refine (hown _ _ _ _ _ (hR.out.below HB6.out) ⟨A, c, T, d, BR6.out, hR.out.below HB6.out⟩ BP6.out BC6.out BG6.out (IntsAt.below hL.out HB6.out)).mono ?_; rintro e w8 ⟨lv8, rfl, ho_, hb_⟩; obtain ⟨A8, c8, rfl⟩ := own_slice ho_; have HB8 := Aside0.mk (below_step HB6.out hb_); clear hb_ ho_))
    go_ret
    exact ⟨rfl, HB5.out⟩
end Go.Proofs.YtflolfbkpjgjaaaGreatDoor
end
section
namespace Go.Proofs.YtflolfbkpjgjaaaGreatDoor
open Go.RowKit Go.Proofs.YtflolfbkpjgjaaaGreatDoorW.PrintWords
open Go.Proofs.YtflolfbkpjgjaaaGreatDoorW.PrintMore
theorem ListV.far {w W : World} {ba go : Nat} {v : Value} {l : List Nat} (h : ListV w ba v l) (hk : Kept w W (fun k => k = go)) (hlt : go < ba) : ListV W ba v l := by
  rcases h with h | ⟨h0, ad, c, e, h1, h2, h3⟩
  · exact .inl h
  · exact .inr ⟨h0, ad, c, e, h1, CI_kept h2 hk (by omega), h3⟩
def prW (r : Ros) (gate : Int) (P : List Nat) (fin : List (List Nat)) (i : Nat) : Int :=
  if (tn r (i : Int)).gate != gate then 0 else if fin.getD i [] = [] then costL r (intsN P) else min (costL r (intsN P)) (costL r (intsN (fin.getD i [])))
def pricesN (r : Ros) (gate : Int) (P : List Nat) (fin : List (List Nat)) (k : Nat) : List Int := (List.range k).map (prW r gate P fin) ++ List.replicate (r.turns.length - k) 0
def pricesL (r : Ros) (gate : Int) (P : List Nat) (fin : List (List Nat)) : List Int := (List.range r.turns.length).map (prW r gate P fin)
theorem pricesN_len (r : Ros) (gate : Int) (P : List Nat) (fin : List (List Nat)) (k : Nat) (hk : k ≤ r.turns.length) : (pricesN r gate P fin k).length = r.turns.length := by
  unfold pricesN
  simp
  omega
theorem pricesN_end (r : Ros) (gate : Int) (P : List Nat) (fin : List (List Nat)) : pricesN r gate P fin r.turns.length = pricesL r gate P fin := by
  unfold pricesN pricesL
  simp
theorem pricesN_at (r : Ros) (gate : Int) (P : List Nat) (fin : List (List Nat)) (k : Nat) (hk : k < r.turns.length) : (pricesN r gate P fin k).getD k 0 = 0 := by
  unfold pricesN
  rw [List.getD_eq_getElem?_getD, List.getElem?_append_right (by simp)]
  simp
  rw [List.getElem?_replicate]
  split <;> rfl
theorem pricesN_set (r : Ros) (gate : Int) (P : List Nat) (fin : List (List Nat)) (k : Nat) (hk : k < r.turns.length) (x : Int) : (pricesN r gate P fin k).set k x = (List.range k).map (prW r gate P fin) ++ x :: List.replicate (r.turns.length - (k + 1)) 0 := by
  unfold pricesN
  have hr : List.replicate (r.turns.length - k) (0 : Int) = 0 :: List.replicate (r.turns.length - (k + 1)) 0 := by
    rw [← List.replicate_succ]
    congr 1
    omega
  rw [hr, List.set_append]
  simp
theorem pricesN_step (r : Ros) (gate : Int) (P : List Nat) (fin : List (List Nat)) (k : Nat) (hk : k < r.turns.length) : (pricesN r gate P fin k).set k (prW r gate P fin k) = pricesN r gate P fin (k + 1) := by
  rw [pricesN_set r gate P fin k hk]
  unfold pricesN
  rw [List.range_succ, List.map_append]
  simp
theorem pricesN_skip (r : Ros) (gate : Int) (P : List Nat) (fin : List (List Nat)) (k : Nat) (hk : k < r.turns.length) (h : ((tn r (k : Int)).gate != gate) = true) : pricesN r gate P fin k = pricesN r gate P fin (k + 1) := by
  rw [← pricesN_step r gate P fin k hk]
  have : prW r gate P fin k = 0 := by unfold prW; rw [h]; rfl
  rw [this]
  have h2 := pricesN_at r gate P fin k hk
  apply List.ext_getElem?
  intro j
  rw [List.getElem?_set]
  split
  · rename_i e
    subst e
    have hl := pricesN_len r gate P fin k (by omega)
    rw [if_pos (by omega)]
    rw [List.getD_eq_getElem?_getD, List.getElem?_eq_getElem (by omega)] at h2
    rw [List.getElem?_eq_getElem (by omega)]
    simpa using h2
  · rfl
def PricesOf (r : Ros) (gate : Int) (E : Int) (L : List Int) : Prop :=
  ((gatedE r gate != 0) = true ∧ E = gatedE r gate ∧ L = []) ∨ ((gatedE r gate != 0) = false ∧ (∀ p, ¬ Plan (grOf r gate) p) ∧ E = 4 ∧ L = []) ∨
  ((gatedE r gate != 0) = false ∧ E = 0 ∧ ∃ P fin, P ≠ [] ∧ Best (grOf r gate) (wtBy r) P ∧ Least (grOf r gate) (wtBy r) fin ∧ L = pricesL r gate P fin)
end Go.Proofs.YtflolfbkpjgjaaaGreatDoor
end
