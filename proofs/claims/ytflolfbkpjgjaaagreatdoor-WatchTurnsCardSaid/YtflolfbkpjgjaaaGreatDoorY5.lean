/- What the proofs lean on, part 5: contracts of the functions that all the laws reach, and the plain words for them. -/
import Derived.StillTailTactics
import Derived.Laws.CopyOwn
import Derived.Deep.RegionLaw
import Derived.Test.YtflolfbkpjgjaaaGreatDoorY4
set_option linter.unusedVariables false
set_option linter.unusedSimpArgs false
section
namespace Go.Proofs.YtflolfbkpjgjaaaGreatDoor
open Go.RowKit Go.Proofs.YtflolfbkpjgjaaaGreatDoorW.PrintWords
open Go.Proofs.YtflolfbkpjgjaaaGreatDoorW.PrintMore
def o158_9_0 : Oper := { dst := some 25, op := Op.move (Operand.tmp 8), type := 3, pos := "plan.go:311", after := #[], guard := none }
def o158_9_1 : Oper := { dst := some 26, op := Op.fieldAddr 103 (Operand.tmp 2) 0, type := 0, pos := "plan.go:311", after := #[], guard := none }
def o158_9_2 : Oper := { dst := some 27, op := Op.load 26 (Operand.tmp 26), type := 26, pos := "plan.go:311", after := #[{ on := 1, ground := Ground.data }], guard := none }
def o158_9_3 : Oper := { dst := some 28, op := Op.move (Operand.tmp 9), type := 3, pos := "plan.go:311", after := #[], guard := none }
def o158_9_4 : Oper := { dst := some 29, op := Op.indexAddr 26 (Operand.tmp 27) (Operand.tmp 28), type := 0, pos := "plan.go:311", after := #[{ on := 2, ground := Ground.data }, { on := 3, ground := Ground.data }], guard := none }
def o158_9_5 : Oper := { dst := some 30, op := Op.load 3 (Operand.tmp 29), type := 3, pos := "plan.go:311", after := #[{ on := 4, ground := Ground.data }], guard := none }
def o158_9_6 : Oper := { dst := some 31, op := Op.move (Operand.tmp 10), type := 26, pos := "plan.go:311", after := #[], guard := none }
def o158_9_7 : Oper := { dst := some 32, op := Op.move (Operand.tmp 7), type := 3, pos := "plan.go:311", after := #[], guard := none }
def o158_9_8 : Oper := { dst := some 33, op := Op.indexAddr 26 (Operand.tmp 31) (Operand.tmp 32), type := 0, pos := "plan.go:311", after := #[{ on := 6, ground := Ground.data }, { on := 7, ground := Ground.data }], guard := none }
def o158_9_9 : Oper := { dst := some 34, op := Op.load 3 (Operand.tmp 33), type := 3, pos := "plan.go:311", after := #[{ on := 8, ground := Ground.data }], guard := none }
def o158_9_10 : Oper := { dst := some 35, op := Op.binOp BinOp.sub 3 (Operand.tmp 30) (Operand.tmp 34) 3, type := 3, pos := "plan.go:311", after := #[{ on := 5, ground := Ground.data }, { on := 9, ground := Ground.data }], guard := none }
def o158_9_11 : Oper := { dst := some 36, op := Op.call { callee := Callee.builtin Builtin.max, args := #[Operand.tmp 25, Operand.tmp 35], argTypes := #[3, 3] }, type := 3, pos := "plan.go:311", after := #[{ on := 0, ground := Ground.data }, { on := 10, ground := Ground.data }], guard := none }
def o158_9_12 : Oper := { dst := some 8, op := Op.assign (Operand.tmp 36), type := 3, pos := "plan.go:311", after := #[{ on := 11, ground := Ground.data }, { on := 0, ground := Ground.phase }, { on := 1, ground := Ground.phase }, { on := 2, ground := Ground.phase }, { on := 3, ground := Ground.phase }, { on := 4, ground := Ground.phase }, { on := 5, ground := Ground.phase }, { on := 6, ground := Ground.phase }, { on := 7, ground := Ground.phase }, { on := 8, ground := Ground.phase }, { on := 9, ground := Ground.phase }, { on := 10, ground := Ground.phase }, { on := 11, ground := Ground.phase }], guard := none }
def lowN (A : List (List Int)) (lo : List Int) (c k : Nat) : Int := (List.range k).foldl (fun n a => max n (lo.getD a 0 - ah A a c)) (-33554432)
theorem lowN_succ (A : List (List Int)) (lo : List Int) (c k : Nat) : lowN A lo c (k + 1) = max (lowN A lo c k) (lo.getD k 0 - ah A k c) := by
  unfold lowN
  rw [List.range_succ, List.foldl_append]
  rfl
theorem lowN_end (A : List (List Int)) (lo : List Int) (c : Nat) : lowN A lo c A.length = lowest A lo c := rfl
structure BndOk (r : Ros) (lo hi : List Int) : Prop where
  llo : lo.length = r.ahead.length
  lhi : hi.length = r.ahead.length
  blo : ∀ a, a < r.ahead.length → -134217728 ≤ lo.getD a 0 ∧ lo.getD a 0 ≤ 134217728
theorem lowN_bnd {r : Ros} (V : Valid r) {lo hi : List Int} (h : BndOk r lo hi) (c : Nat) (hc : c < r.ahead.length) : ∀ k, k ≤ r.ahead.length → -33554432 ≤ lowN r.ahead lo c k ∧ lowN r.ahead lo c k ≤ 135266304
  | 0, _ => by simp [lowN]
  | k + 1, hk => by
    have ih := lowN_bnd V h c hc k (by omega)
    rw [lowN_succ]
    have h1 := h.blo k (by omega)
    have h2 := V.tri_ah.bnd k c (by omega) hc
    omega
set_option maxHeartbeats 8000000 in
set_option maxRecDepth 100000 in
theorem moment_calls (v lv hv2 : Value) (r : Ros) (lo hi : List Int) (w : World) (V : Valid r) (hv : RosAt w v r) (hl : IntsAt w lv lo) (hh : IntsAt w hv2 hi) (hb : BndOk r lo hi) :
    Calls Tryz.prog 158 #[.agg #[lv, hv2], v] w fun e w' => ∃ ov, e = .returned (.tuple #[ov, .bool (momP r.ahead lo hi r.ahead.length).isSome]) ∧ w'.ownsRow w.heap.size 3 1 ov ((momP r.ahead lo hi r.ahead.length).getD []).length (nums .i64 ((momP r.ahead lo hi r.ahead.length).getD [])) ∧ Below w.heap.size w w' := by
  generalize hPost : (fun (e : Ending) (w' : World) => ∃ ov, e = .returned (.tuple #[ov, .bool (momP r.ahead lo hi r.ahead.length).isSome]) ∧ w'.ownsRow w.heap.size 3 1 ov ((momP r.ahead lo hi r.ahead.length).getD []).length (nums .i64 ((momP r.ahead lo hi r.ahead.length).getD [])) ∧ Below w.heap.size w w') = Post
  have HQ : Aside0 (∀ o ov w', momP r.ahead lo hi r.ahead.length = o → w'.ownsRow w.heap.size 3 1 ov (o.getD []).length (nums .i64 (o.getD [])) → Below w.heap.size w w' → Post (.returned (.tuple #[ov, .bool o.isSome])) w') := ⟨fun o ov w' e a b => by subst e; exact hPost ▸ ⟨ov, rfl, a, b⟩⟩
  clear hPost
  obtain ⟨A, c, T, d, rfl, h1, h2, h3, h4⟩ := hv
  have H3 := Aside0.mk h3
  have HV := Aside0.mk V
  have HBO := Aside0.mk hb
  have hn8 := V.clocks.2
  have hn1 := V.clocks.1
  obtain ⟨L, cl, rfl, hcl, hl1⟩ := hl
  obtain ⟨H, ch, rfl, hch, hh1⟩ := hh
  rw [hb.llo] at hl1 hcl ⊢
  rw [hb.lhi] at hh1 hch ⊢
  obtain ⟨adl, hAl, _⟩ := CI_at hl1 0 (Int.le_refl _) (by omega)
  cases hAl
  obtain ⟨adh, hAh, _⟩ := CI_at hh1 0 (Int.le_refl _) (by omega)
  cases hAh
  have HL := Aside0.mk hl1
  have HH := Aside0.mk hh1
  clear h3 h4 hl1 hh1 hb V
  go_enter Tryz.func158, Tryz.ntmps158
  go_wp2_with (first | ((with_reducible refine gate_dst (N := 2) rfl ?_); refine box_event ?hg (N := 2) ?hd (cs := #[.slice (some adl) r.ahead.length cl, .slice (some adh) r.ahead.length ch]) (t := 103) ?hr ?_; (case hd => rfl); (case hg => rfl); (case hr => first | (go_simp; done) | (go_simp; rfl)); intro gx hgx w2 hbox_ hb_; have BX2 := Aside0.mk hbox_; have Hgx := Aside0.mk hgx; have HB2 := Aside0.mk hb_; clear hbox_ hb_ hgx) | ((with_reducible refine gate_dst (N := 3) rfl ?_); refine box_event ?hg (N := 3) ?hd (cs := rosC r A c T d) (t := 25) ?hr ?_; (case hd => rfl); (case hg => rfl); (case hr => first | (go_simp; done) | (go_simp; rfl)); intro g hg w3 hbox_ hb_; have BR3 := Aside0.mk hbox_; have Hg := Aside0.mk hg; have HB3 := Aside0.mk (below_step HB2.out hb_); have BX3 := Aside0.mk (blk_below BX2.out hb_); obtain ⟨q0, q1, q2, q3, q4⟩ := rosC_cells hbox_; have p0 : w3.cell? ⟨gx, 0, none⟩ = some (.slice (some adl) r.ahead.length cl) := (blk_cell BX3.out 0).trans rfl; have p1 : w3.cell? ⟨gx, 1, none⟩ = some (.slice (some adh) r.ahead.length ch) := (blk_cell BX3.out 1).trans rfl; clear hbox_ hb_ hg))
  clear q0 q1 q2 q3 q4 p0 p1
  clear HB2 BX2
  go_loopw [6, 14] (fun u i wr => ∃ (k : Nat) (out : List Int), k ≤ r.ahead.length ∧ i = .int .i64 k ∧ Aside0 (momP r.ahead lo hi k = some out ∧ out.length = k) ∧ Aside0 (wr.ownsRow w3.heap.size 3 1 u out.length (nums .i64 out)) ∧ Aside0 (Below w3.heap.size w3 wr)) (fun _ i _ => r.ahead.length - (intOf i).toNat)
  case atStart => exact ⟨0, [], Nat.zero_le _, rfl, ⟨rfl, rfl⟩, ⟨own_nil _ _ _ _⟩, ⟨Below.refl _ _⟩⟩
  case round =>
    obtain ⟨k, out, hk, rfl, HM, HO, HW⟩ := hrel
    have HB := Aside0.mk (below_step HB3.out HW.out)
    have BXr := Aside0.mk (blk_below BX3.out HW.out)
    have BRr := Aside0.mk (blk_below BR3.out HW.out)
    by_cases hlt : k < r.ahead.length
    · have HE : Aside0 (momP r.ahead lo hi (k + 1) = if lowest r.ahead lo k > hi.getD k 0 then none else some (out ++ [lowest r.ahead lo k])) := ⟨by
        simp only [momP]
        rw [HM.out.1]
        rfl⟩
      have HNO : Aside0 (lowest r.ahead lo k > hi.getD k 0 → momP r.ahead lo hi r.ahead.length = none) := ⟨fun h => by
        have h1 : momP r.ahead lo hi (k + 1) = none := by rw [HE.out, if_pos h]
        have : ∀ m, momP r.ahead lo hi (k + 1 + m) = none := by
          intro m
          induction m with
          | zero => exact h1
          | succ m ih => show (momP r.ahead lo hi (k + 1 + m)).bind _ = none; rw [ih]; rfl
        have h2 := this (r.ahead.length - (k + 1))
        rwa [show k + 1 + (r.ahead.length - (k + 1)) = r.ahead.length by omega] at h2⟩
      obtain ⟨q0, q1, q2, q3, q4⟩ := rosC_cells BRr.out
      go_wp2
      clear q0 q1 q2 q3 q4
      obtain ⟨wo, rfl⟩ : ∃ wo : World, wo = wr := ⟨_, rfl⟩
      go_loopw [8, 20] (fun n i wr => ∃ j : Nat, j ≤ r.ahead.length ∧ i = .int .i64 j ∧ n = .int .i64 (lowN r.ahead lo k j) ∧ Aside0 (Below wo.heap.size wo wr)) (fun _ i _ => r.ahead.length - (intOf i).toNat)
      case atStart => exact ⟨0, Nat.zero_le _, rfl, rfl, ⟨Below.refl _ _⟩⟩
      case round =>
        obtain ⟨j, hj, rfl, rfl, HJ⟩ := hrel
        have HBX := Aside0.mk (blk_below BXr.out HJ.out)
        have HBj := Aside0.mk (below_step HB.out HJ.out)
        by_cases hlt1 : j < r.ahead.length
        · obtain ⟨ad, A0, c0, hA, g1, g2, g3⟩ := CII_at (Kd.C_below H3.out HBj.out) j (by omega) (by omega)
          cases hA
          rw [show ((j : Int)).toNat = j from rfl] at g1 g2 g3
          have hrl : (r.ahead.getD j []).length = r.ahead.length := HV.out.row j (by omega) (by omega)
          rw [hrl] at g1 g2 g3
          obtain ⟨ad', hA', g4⟩ := CI_at g3 k (by omega) (by omega)
          cases hA'
          change wr.cell? _ = some (.int .i64 (ah r.ahead j k)) at g4
          rw [show ((k : Int)).toNat = k from rfl] at g4
          obtain ⟨adl', hAl', s1⟩ := CI_at (Kd.C_below HL.out HBj.out) j (by omega) (by omega)
          cases hAl'
          change wr.cell? _ = some (.int .i64 (lo.getD j 0)) at s1
          rw [show ((j : Int)).toNat = j from rfl] at s1
          clear g3
          have p0 : wr.cell? ⟨gx, 0, none⟩ = some (.slice (some adl) r.ahead.length cl) := (blk_cell HBX.out 0).trans rfl
          have HS := Aside0.mk (lowN_succ r.ahead lo k j)
          have hbn := lowN_bnd HV.out HBO.out k hlt j (by omega)
          have hbl := HBO.out.blo j hlt1
          have hbd := HV.out.tri_ah.bnd j k hlt1 hlt
          generalize lowN r.ahead lo k j = cur at *
          generalize lo.getD j 0 = xl at *
          generalize ah r.ahead j k = dd at *
          have ik0 : (0 : Int) ≤ (k : Int) := by omega
          have ij0 : (0 : Int) ≤ (j : Int) := by omega
          have ik1 : (k : Int) < (r.ahead.length : Int) := by omega
          have ij1 : (j : Int) < (r.ahead.length : Int) := by omega
          have hw : IntKind.i64.wrap (xl - dd) = xl - dd := IntWalk.i64_in _ (by omega)
          have HB' : Aside0 (Below wo.heap.size wo wr.drew) := ⟨below_drew HJ.out⟩
          go_wp2_with fail
          by_cases hmx : cur < xl - dd
          all_goals
            refine wp_region_held_drew (S := (fun w' => w'.cell? ⟨gx, 0, none⟩ = some (.slice (some adl) r.ahead.length cl) ∧ w'.cell? (adl.add j) = some (.int .i64 xl) ∧ w'.cell? (ad'.add k) = some (.int .i64 dd))) (by kernel_rfl) ?_ (fun hH0 => ?_)
            · go_keep
            refine tk 0 (oi := o158_9_0) (v := ?_) rfl (by kernel_rfl) (fun _ _ _ h => h) (by rfl) ?_ hH0 ?_
            rotate_left
            · (intro w hSw; (try dsimp only at hSw); unfold o158_9_0; go_simp <;> (with_reducible rfl))
            simp only [Act.put, o158_9_0, List.setIfInBounds_toArray, List.set_cons_zero, List.set_cons_succ]
            refine tk 1 (oi := o158_9_1) (v := ?_) rfl (by kernel_rfl) (fun _ _ _ h => h) (by rfl) ?_ hH0 ?_
            rotate_left
            · (intro w hSw; (try dsimp only at hSw); unfold o158_9_1; go_simp <;> (with_reducible rfl))
            simp only [Act.put, o158_9_1, List.setIfInBounds_toArray, List.set_cons_zero, List.set_cons_succ]
            refine tk 2 (oi := o158_9_2) (v := ?_) rfl (by kernel_rfl) (fun _ _ _ h => h) (by rfl) ?_ hH0 ?_
            rotate_left
            · (intro w hSw; (try dsimp only at hSw); unfold o158_9_2; go_simp <;> (with_reducible rfl))
            simp only [Act.put, o158_9_2, List.setIfInBounds_toArray, List.set_cons_zero, List.set_cons_succ]
            refine tk 3 (oi := o158_9_3) (v := ?_) rfl (by kernel_rfl) (fun _ _ _ h => h) (by rfl) ?_ hH0 ?_
            rotate_left
            · (intro w hSw; (try dsimp only at hSw); unfold o158_9_3; go_simp <;> (with_reducible rfl))
            simp only [Act.put, o158_9_3, List.setIfInBounds_toArray, List.set_cons_zero, List.set_cons_succ]
            refine tk 4 (oi := o158_9_4) (v := ?_) rfl (by kernel_rfl) (fun _ _ _ h => h) (by rfl) ?_ hH0 ?_
            rotate_left
            · (intro w hSw; (try dsimp only at hSw); unfold o158_9_4; go_simp <;> (with_reducible rfl))
            simp only [Act.put, o158_9_4, List.setIfInBounds_toArray, List.set_cons_zero, List.set_cons_succ]
            refine tk 5 (oi := o158_9_5) (v := ?_) rfl (by kernel_rfl) (fun _ _ _ h => h) (by rfl) ?_ hH0 ?_
            rotate_left
            · (intro w hSw; (try dsimp only at hSw); unfold o158_9_5; go_simp <;> (with_reducible rfl))
            simp only [Act.put, o158_9_5, List.setIfInBounds_toArray, List.set_cons_zero, List.set_cons_succ]
            refine tk 6 (oi := o158_9_6) (v := ?_) rfl (by kernel_rfl) (fun _ _ _ h => h) (by rfl) ?_ hH0 ?_
            rotate_left
            · (intro w hSw; (try dsimp only at hSw); unfold o158_9_6; go_simp <;> (with_reducible rfl))
            simp only [Act.put, o158_9_6, List.setIfInBounds_toArray, List.set_cons_zero, List.set_cons_succ]
            refine tk 7 (oi := o158_9_7) (v := ?_) rfl (by kernel_rfl) (fun _ _ _ h => h) (by rfl) ?_ hH0 ?_
            rotate_left
            · (intro w hSw; (try dsimp only at hSw); unfold o158_9_7; go_simp <;> (with_reducible rfl))
            simp only [Act.put, o158_9_7, List.setIfInBounds_toArray, List.set_cons_zero, List.set_cons_succ]
            refine tk 8 (oi := o158_9_8) (v := ?_) rfl (by kernel_rfl) (fun _ _ _ h => h) (by rfl) ?_ hH0 ?_
            rotate_left
            · (intro w hSw; (try dsimp only at hSw); unfold o158_9_8; go_simp <;> (with_reducible rfl))
            simp only [Act.put, o158_9_8, List.setIfInBounds_toArray, List.set_cons_zero, List.set_cons_succ]
            refine tk 9 (oi := o158_9_9) (v := ?_) rfl (by kernel_rfl) (fun _ _ _ h => h) (by rfl) ?_ hH0 ?_
            rotate_left
            · (intro w hSw; (try dsimp only at hSw); unfold o158_9_9; go_simp <;> (with_reducible rfl))
            simp only [Act.put, o158_9_9, List.setIfInBounds_toArray, List.set_cons_zero, List.set_cons_succ]
            refine tk 10 (oi := o158_9_10) (v := ?_) rfl (by kernel_rfl) (fun _ _ _ h => h) (by rfl) ?_ hH0 ?_
            rotate_left
            · (intro w hSw; (try dsimp only at hSw); unfold o158_9_10; go_simp <;> (with_reducible rfl))
            simp only [Act.put, o158_9_10, List.setIfInBounds_toArray, List.set_cons_zero, List.set_cons_succ]
            refine wpAnyH_ready (rs := [11]) (by kernel_rfl) (by simp) (AllReadyH.cons (o := o158_9_11) rfl (fun K' hK' => ?_) AllReadyH.nil)
            unfold o158_9_11
            go_simp
            skip
            refine hK'.out _ _ (by go_keep) (fun hH1 => ?_)
            clear hK' K'
            try simp only [Act.put, List.setIfInBounds_toArray, List.set_cons_zero, List.set_cons_succ]
            refine tk 12 (oi := o158_9_12) (v := ?_) rfl (by kernel_rfl) (fun _ _ _ h => h) (by rfl) ?_ hH1 ?_
            rotate_left
            · (intro w hSw; (try dsimp only at hSw); unfold o158_9_12; go_simp <;> (with_reducible rfl))
            simp only [Act.put, o158_9_12, List.setIfInBounds_toArray, List.set_cons_zero, List.set_cons_succ]
            refine wpAnyH_done (by kernel_rfl) ?_ _
            go_wp2
            go_roundw
            case rel => exact ⟨j + 1, by omega, by go_num, by first | rw [HS.out, show max cur (xl - dd) = xl - dd by omega] | rw [HS.out, show max cur (xl - dd) = cur by omega], HB'⟩
            case measure => simp [intOf]; omega
        · have e : j = r.ahead.length := by omega
          rw [e, lowN_end]
          obtain ⟨adh', hAh', s2⟩ := CI_at (Kd.C_below HH.out HBj.out) k (by omega) (by omega)
          cases hAh'
          change wr.cell? _ = some (.int .i64 (hi.getD k 0)) at s2
          rw [show ((k : Int)).toNat = k from rfl] at s2
          have p1 : wr.cell? ⟨gx, 1, none⟩ = some (.slice (some adh) r.ahead.length ch) := (blk_cell HBX.out 1).trans rfl
          have HOj := Aside0.mk (pw_own_below HO.out HJ.out)
          have HLo := HM.out.2
          clear e hj
          generalize hi.getD k 0 = xh at *
          generalize lowest r.ahead lo k = xl at *
          by_cases hgt : xl > xh
          · have HQ' := Aside0.mk (HQ.out none (.slice none 0 0) wr (HNO.out hgt) (own_nil _ _ _ _) HBj.out)
            have hgt' : decide (xh < xl) = true := decide_eq_true hgt
            clear HNO HE
            go_wp2
            exact HQ'.out
          · have HE2 : Aside0 (momP r.ahead lo hi (k + 1) = some (out ++ [xl])) := ⟨by rw [HE.out, if_neg hgt]⟩
            have hgt' : decide (xh < xl) = false := decide_eq_false hgt
            clear HNO HE
            go_wp2_with (at_builtin; refine print_append_num w3.heap.size rfl (.tmp 45) (.tmp 47) 26 3 .i64 8 rfl Tryz.underlying26 info3 (by omega) u6 out xl rfl rfl HOj.out (below_step HW.out HJ.out) (below_step HW.out HJ.out).size (by omega) ?_; intro v1 w8 hown hbel hgr hat; have HO8 := Aside0.mk hown; have HB8 := Aside0.mk hbel; clear hown hbel hgr hat)
            go_roundw
            case rel => exact ⟨k + 1, out ++ [xl], by omega, by go_num, ⟨HE2.out, by rw [List.length_append, HLo]; rfl⟩, HO8, HB8⟩
            case measure => simp [intOf]; omega
    · have e : k = r.ahead.length := by omega
      have HQ' := Aside0.mk (HQ.out (some out) u6 wr (by rw [← e]; exact HM.out.1) (own_weaken HO.out HB3.out.size) HB.out)
      go_wp2
      exact HQ'.out
end Go.Proofs.YtflolfbkpjgjaaaGreatDoor
end
section
namespace Go.Proofs.YtflolfbkpjgjaaaGreatDoor
open Go.RowKit Go.Proofs.YtflolfbkpjgjaaaGreatDoorW.PrintWords
open Go.Proofs.YtflolfbkpjgjaaaGreatDoorW.PrintMore
def tcOf (r : Ros) (i : Int) : Tc := ⟨(tn r i).clock.toNat, (tn r i).frm, (tn r i).clock2.toNat, (tn r i).til⟩
theorem own_form {w : World} {base e size n : Nat} {v : Value} {xs : List Value} (h : w.ownsRow base e size v n xs) (hn : 0 < n) : ∃ g cap, v = .slice (some ⟨g, 0, none⟩) n cap ∧ base ≤ g ∧ g < w.heap.size := by
  rcases h.2 with ⟨_, h'⟩ | ⟨g', cap', cur, h', hb, hh, _⟩
  · omega
  · exact ⟨g', cap', h', hb, blk_lt hh⟩
theorem cut26 (A : Option Addr) (n c : Nat) (h1 : 1 ≤ n) : ∃ A', (∀ W : World, (Instr.slice 26 (.slice A n c) (some (.int .i64 1)) none none).run Tryz.prog W = .ok (.slice A' (n - 1) (c - 1)) W) ∧
    ∀ (w : World) (xs : List Int), n ≤ c → CI w A n xs → CI w A' (n - 1) (xs.drop 1) := by
  obtain ⟨i, hi, _, hsz, _⟩ := info_parts info3
  refine ⟨if c = 1 then A else A.map (·.add 1), fun W => ?_, fun w xs hc h => ?_⟩
  · have hel : Tryz.prog.elem 26 = 3 := by kernel_rfl
    have hu : Tryz.prog.underlying 26 = some (.slice (Tryz.prog.elem 26)) := by rw [hel]; exact Tryz.underlying26
    rw [run_slice_l W 26 A n c hu .i64 (1 : Int) (by omega) (by omega), hel]
    simp [sizeOf, typeInfo, hi, hsz, sliced, Result.andThen]
  · have hl : xs.length = n := h.1
    subst hl
    have := Kd.C_drop (k := Kd.int .i64) h h1 hc
    rw [List.length_drop] at this
    exact this
structure BndI (r : Ros) (lo hi : List Int) : Prop where
  llo : lo.length = r.ahead.length
  lhi : hi.length = r.ahead.length
  blo : ∀ a, a < r.ahead.length → -134217728 ≤ lo.getD a 0 ∧ lo.getD a 0 ≤ 134217728
  bhi : ∀ a, a < r.ahead.length → -134217728 ≤ hi.getD a 0 ∧ hi.getD a 0 ≤ 134217728
def IdlePost (w : World) (o : Option (List Int)) (e : Ending) (w' : World) : Prop := ∃ ov, e = .returned (.tuple #[ov, .bool o.isSome]) ∧ w'.ownsRow w.heap.size 3 1 ov (o.getD []).length (nums .i64 (o.getD [])) ∧ Below w.heap.size w w'
def IdleSaid (l : List Int) : Prop := ∀ (v lv lov hiv : Value) (r : Ros) (lo hi : List Int) (w : World), Valid r → RosAt w v r → IntsAt w lv l → IntsAt w lov lo → IntsAt w hiv hi → BndI r lo hi → (∀ x ∈ l, 0 ≤ x ∧ x < r.turns.length) →
  Calls Tryz.prog 110 #[v, lv, .agg #[lov, hiv]] w (IdlePost w (idleP r.ahead (l.map (tcOf r)) lo hi))
set_option maxHeartbeats 8000000 in
set_option maxRecDepth 100000 in
theorem idle_nil : IdleSaid [] := by
  intro v lv lov hiv r lo hi w V hv hl hlo hhi hb hin
  have hR := Aside0.mk hv
  have HV := Aside0.mk V
  have hmom := fun W (hW : Below w.heap.size w W) => moment_calls v lov hiv r lo hi W V (hv.below hW) (hlo.below hW) (hhi.below hW) ⟨hb.llo, hb.lhi, hb.blo⟩
  obtain ⟨A, c, T, d, rfl, h1, h2, h3, h4⟩ := hv
  obtain ⟨A1, c1, rfl, hc1, hl1⟩ := hl
  have hbx : ∃ L cl H ch, lov = .slice L lo.length cl ∧ hiv = .slice H hi.length ch := by
    obtain ⟨L, cl, e, _⟩ := hlo
    obtain ⟨H, ch, e', _⟩ := hhi
    exact ⟨L, cl, H, ch, e, e'⟩
  obtain ⟨L, cl, H, ch, rfl, rfl⟩ := hbx
  show Calls _ _ _ _ (IdlePost w (momP r.ahead lo hi r.ahead.length))
  have HQ : Aside0 (∀ ov w', w'.ownsRow w.heap.size 3 1 ov ((momP r.ahead lo hi r.ahead.length).getD []).length (nums .i64 ((momP r.ahead lo hi r.ahead.length).getD [])) → Below w.heap.size w w' → IdlePost w (momP r.ahead lo hi r.ahead.length) (.returned (.tuple #[ov, .bool (momP r.ahead lo hi r.ahead.length).isSome])) w') := ⟨fun ov w' a b => ⟨ov, rfl, a, b⟩⟩
  generalize momP r.ahead lo hi r.ahead.length = o at *
  generalize IdlePost w o = Post at *
  clear h3 h4 hl1 hlo hhi hb hin V
  go_enter Tryz.func110, Tryz.ntmps110
  go_wp2_with (first | ((with_reducible refine gate_dst (N := 3) rfl ?_); refine box_event ?hg (N := 3) ?hd (cs := rosC r A c T d) (t := 25) ?hr ?_; (case hd => rfl); (case hg => rfl); (case hr => first | (go_simp; done) | (go_simp; rfl)); intro gr hgr w2 hbox_ hb_; have BR2 := Aside0.mk hbox_; have Hgr := Aside0.mk hgr; have HB2 := Aside0.mk hb_; clear hbox_ hb_ hgr) | ((with_reducible refine gate_dst (N := 5) rfl ?_); refine box_event ?hg (N := 5) ?hd (cs := #[.slice L lo.length cl, .slice H hi.length ch]) (t := 103) ?hr ?_; (case hd => rfl); (case hg => rfl); (case hr => first | (go_simp; done) | (go_simp; rfl)); intro gx hgx w3 hbox_ hb_; have BX3 := Aside0.mk hbox_; have Hgx := Aside0.mk hgx; have HB3 := Aside0.mk (below_step HB2.out hb_); have BR3 := Aside0.mk (blk_below BR2.out hb_); obtain ⟨q0, q1, q2, q3, q4⟩ := rosC_cells BR3.out; have p0 : w3.cell? ⟨gx, 0, none⟩ = some (.slice L lo.length cl) := (blk_cell hbox_ 0).trans rfl; have p1 : w3.cell? ⟨gx, 1, none⟩ = some (.slice H hi.length ch) := (blk_cell hbox_ 1).trans rfl; clear hbox_ hb_ hgx) | (go_at_call 158; refine (hmom _ HB3.out).mono ?_; rintro e w4 ⟨ov, rfl, ho_, hb_⟩; have HO4 := Aside0.mk (own_weaken ho_ HB3.out.size); have HB4 := Aside0.mk (below_step HB3.out hb_); clear ho_ hb_))
  exact HQ.out _ _ HO4.out HB4.out
end Go.Proofs.YtflolfbkpjgjaaaGreatDoor
end
section
namespace Go.Proofs.YtflolfbkpjgjaaaGreatDoor
open Go.RowKit Go.Proofs.YtflolfbkpjgjaaaGreatDoorW.PrintWords
open Go.Proofs.YtflolfbkpjgjaaaGreatDoorW.PrintMore
def o110_3_0 : Oper := { dst := some 20, op := Op.fieldAddr 25 (Operand.tmp 3) 4, type := 0, pos := "plan.go:326", after := #[], guard := none }
def o110_3_1 : Oper := { dst := some 21, op := Op.load 23 (Operand.tmp 20), type := 23, pos := "plan.go:326", after := #[{ on := 0, ground := Ground.data }], guard := none }
def o110_3_2 : Oper := { dst := some 22, op := Op.move (Operand.tmp 1), type := 26, pos := "plan.go:326", after := #[], guard := none }
def o110_3_3 : Oper := { dst := some 23, op := Op.indexAddr 26 (Operand.tmp 22) (Operand.const (Value.int IntKind.i64 0)), type := 0, pos := "plan.go:326", after := #[{ on := 2, ground := Ground.data }], guard := none }
def o110_3_4 : Oper := { dst := some 24, op := Op.load 3 (Operand.tmp 23), type := 3, pos := "plan.go:326", after := #[{ on := 3, ground := Ground.data }], guard := none }
def o110_3_5 : Oper := { dst := some 25, op := Op.indexAddr 23 (Operand.tmp 21) (Operand.tmp 24), type := 0, pos := "plan.go:326", after := #[{ on := 1, ground := Ground.data }, { on := 4, ground := Ground.data }], guard := none }
def o110_3_6 : Oper := { dst := some 26, op := Op.load 45 (Operand.tmp 25), type := 45, pos := "plan.go:326", after := #[{ on := 5, ground := Ground.data }], guard := none }
def o110_3_7 : Oper := { dst := some 8, op := Op.alloc 45, type := 0, pos := "plan.go:326", after := #[], guard := none }
def o110_3_8 : Oper := { dst := none, op := Op.store 45 (Operand.tmp 8) (Operand.tmp 26), type := 0, pos := "plan.go:326", after := #[{ on := 7, ground := Ground.data }, { on := 6, ground := Ground.data }, { on := 0, ground := Ground.phase }, { on := 1, ground := Ground.phase }, { on := 2, ground := Ground.phase }, { on := 3, ground := Ground.phase }, { on := 4, ground := Ground.phase }, { on := 5, ground := Ground.phase }, { on := 6, ground := Ground.phase }, { on := 7, ground := Ground.phase }], guard := none }
def o110_4_0 : Oper := { dst := some 27, op := Op.fieldAddr 103 (Operand.tmp 5) 0, type := 0, pos := "plan.go:328", after := #[], guard := none }
def o110_4_1 : Oper := { dst := some 28, op := Op.load 26 (Operand.tmp 27), type := 26, pos := "plan.go:328", after := #[{ on := 0, ground := Ground.data }], guard := none }
def o110_4_2 : Oper := { dst := some 29, op := Op.fieldAddr 103 (Operand.tmp 5) 1, type := 0, pos := "plan.go:328", after := #[], guard := none }
def o110_4_3 : Oper := { dst := some 30, op := Op.load 26 (Operand.tmp 29), type := 26, pos := "plan.go:328", after := #[{ on := 2, ground := Ground.data }], guard := none }
def o110_4_4 : Oper := { dst := some 31, op := Op.call { callee := Callee.value (Operand.func 46), args := #[Operand.tmp 30], argTypes := #[26] }, type := 26, pos := "plan.go:328", after := #[{ on := 3, ground := Ground.data }], guard := none }
def o110_4_5 : Oper := { dst := some 32, op := Op.build 103 #[(0, Operand.tmp 28), (1, Operand.tmp 31)], type := 103, pos := "plan.go:328", after := #[{ on := 1, ground := Ground.data }, { on := 4, ground := Ground.data }], guard := none }
def o110_4_6 : Oper := { dst := some 9, op := Op.alloc 103, type := 0, pos := "plan.go:328", after := #[], guard := none }
def o110_4_7 : Oper := { dst := none, op := Op.store 103 (Operand.tmp 9) (Operand.tmp 32), type := 0, pos := "plan.go:328", after := #[{ on := 6, ground := Ground.data }, { on := 5, ground := Ground.data }, { on := 4, ground := Ground.chain }, { on := 0, ground := Ground.phase }, { on := 1, ground := Ground.phase }, { on := 2, ground := Ground.phase }, { on := 3, ground := Ground.phase }, { on := 4, ground := Ground.phase }, { on := 5, ground := Ground.phase }, { on := 6, ground := Ground.phase }], guard := none }
def o110_6_0 : Oper := { dst := some 49, op := Op.load 25 (Operand.tmp 3), type := 25, pos := "plan.go:330", after := #[], guard := none }
def o110_6_1 : Oper := { dst := some 50, op := Op.move (Operand.tmp 1), type := 26, pos := "plan.go:330", after := #[], guard := none }
def o110_6_2 : Oper := { dst := some 51, op := Op.slice 26 (Operand.tmp 50) (some (Operand.const (Value.int IntKind.i64 1))) none none, type := 26, pos := "plan.go:330", after := #[{ on := 1, ground := Ground.data }], guard := none }
def o110_6_3 : Oper := { dst := some 52, op := Op.load 103 (Operand.tmp 9), type := 103, pos := "plan.go:330", after := #[], guard := none }
def o110_6_4 : Oper := { dst := some 53, op := Op.call { callee := Callee.value (Operand.func 110), args := #[Operand.tmp 49, Operand.tmp 51, Operand.tmp 52], argTypes := #[25, 26, 103] }, type := 86, pos := "plan.go:330", after := #[{ on := 0, ground := Ground.data }, { on := 2, ground := Ground.data }, { on := 3, ground := Ground.data }], guard := none }
def o110_6_5 : Oper := { dst := some 48, op := Op.move (Operand.tmp 53), type := 86, pos := "plan.go:330", after := #[{ on := 4, ground := Ground.data }], guard := none }
def o110_6_6 : Oper := { dst := some 54, op := Op.extract (Operand.tmp 48) 0, type := 26, pos := "plan.go:330", after := #[{ on := 5, ground := Ground.data }], guard := none }
def o110_6_7 : Oper := { dst := some 55, op := Op.extract (Operand.tmp 48) 1, type := 4, pos := "plan.go:330", after := #[{ on := 5, ground := Ground.data }, { on := 8, ground := Ground.gcOnly Departure.lateStores }], guard := none }
def o110_6_8 : Oper := { dst := some 10, op := Op.assign (Operand.tmp 54), type := 26, pos := "plan.go:330", after := #[{ on := 6, ground := Ground.data }, { on := 4, ground := Ground.chain }, { on := 0, ground := Ground.phase }, { on := 1, ground := Ground.phase }, { on := 2, ground := Ground.phase }, { on := 3, ground := Ground.phase }, { on := 4, ground := Ground.phase }, { on := 5, ground := Ground.phase }, { on := 6, ground := Ground.phase }, { on := 7, ground := Ground.textOnly Departure.lateStores }], guard := none }
def o110_6_9 : Oper := { dst := some 11, op := Op.assign (Operand.tmp 55), type := 4, pos := "plan.go:330", after := #[{ on := 7, ground := Ground.data }, { on := 8, ground := Ground.chain }, { on := 0, ground := Ground.phase }, { on := 1, ground := Ground.phase }, { on := 2, ground := Ground.phase }, { on := 3, ground := Ground.phase }, { on := 4, ground := Ground.phase }, { on := 5, ground := Ground.phase }, { on := 6, ground := Ground.phase }, { on := 7, ground := Ground.phase }, { on := 8, ground := Ground.phase }], guard := none }
def o110_9_0 : Oper := { dst := some 58, op := Op.fieldAddr 103 (Operand.tmp 5) 0, type := 0, pos := "plan.go:333", after := #[], guard := none }
def o110_9_1 : Oper := { dst := some 59, op := Op.load 26 (Operand.tmp 58), type := 26, pos := "plan.go:333", after := #[{ on := 0, ground := Ground.data }], guard := none }
def o110_9_2 : Oper := { dst := some 60, op := Op.call { callee := Callee.value (Operand.func 46), args := #[Operand.tmp 59], argTypes := #[26] }, type := 26, pos := "plan.go:333", after := #[{ on := 1, ground := Ground.data }], guard := none }
def o110_9_3 : Oper := { dst := some 61, op := Op.fieldAddr 103 (Operand.tmp 5) 1, type := 0, pos := "plan.go:333", after := #[], guard := none }
def o110_9_4 : Oper := { dst := some 62, op := Op.load 26 (Operand.tmp 61), type := 26, pos := "plan.go:333", after := #[{ on := 3, ground := Ground.data }], guard := none }
def o110_9_5 : Oper := { dst := some 63, op := Op.build 103 #[(0, Operand.tmp 60), (1, Operand.tmp 62)], type := 103, pos := "plan.go:333", after := #[{ on := 2, ground := Ground.data }, { on := 4, ground := Ground.data }], guard := none }
def o110_9_6 : Oper := { dst := none, op := Op.store 103 (Operand.tmp 9) (Operand.tmp 63), type := 0, pos := "plan.go:333", after := #[{ on := 5, ground := Ground.data }, { on := 2, ground := Ground.chain }, { on := 0, ground := Ground.phase }, { on := 1, ground := Ground.phase }, { on := 2, ground := Ground.phase }, { on := 3, ground := Ground.phase }, { on := 4, ground := Ground.phase }, { on := 5, ground := Ground.phase }], guard := none }
def o110_11_0 : Oper := { dst := some 78, op := Op.load 25 (Operand.tmp 3), type := 25, pos := "plan.go:335", after := #[], guard := none }
def o110_11_1 : Oper := { dst := some 79, op := Op.move (Operand.tmp 1), type := 26, pos := "plan.go:335", after := #[], guard := none }
def o110_11_2 : Oper := { dst := some 80, op := Op.slice 26 (Operand.tmp 79) (some (Operand.const (Value.int IntKind.i64 1))) none none, type := 26, pos := "plan.go:335", after := #[{ on := 1, ground := Ground.data }], guard := none }
def o110_11_3 : Oper := { dst := some 81, op := Op.load 103 (Operand.tmp 9), type := 103, pos := "plan.go:335", after := #[], guard := none }
def o110_11_4 : Oper := { dst := some 82, op := Op.call { callee := Callee.value (Operand.func 110), args := #[Operand.tmp 78, Operand.tmp 80, Operand.tmp 81], argTypes := #[25, 26, 103] }, type := 86, pos := "plan.go:335", after := #[{ on := 0, ground := Ground.data }, { on := 2, ground := Ground.data }, { on := 3, ground := Ground.data }], guard := none }
def o110_11_5 : Oper := { dst := some 83, op := Op.extract (Operand.tmp 82) 0, type := 26, pos := "plan.go:335", after := #[{ on := 4, ground := Ground.data }], guard := none }
def o110_11_6 : Oper := { dst := some 84, op := Op.extract (Operand.tmp 82) 1, type := 4, pos := "plan.go:335", after := #[{ on := 4, ground := Ground.data }], guard := none }
def o110_11_7 : Oper := { dst := some 6, op := Op.assign (Operand.tmp 83), type := 26, pos := "plan.go:335", after := #[{ on := 5, ground := Ground.data }, { on := 4, ground := Ground.chain }, { on := 0, ground := Ground.phase }, { on := 1, ground := Ground.phase }, { on := 2, ground := Ground.phase }, { on := 3, ground := Ground.phase }, { on := 4, ground := Ground.phase }, { on := 5, ground := Ground.phase }, { on := 6, ground := Ground.phase }], guard := none }
def o110_11_8 : Oper := { dst := some 7, op := Op.assign (Operand.tmp 84), type := 4, pos := "plan.go:335", after := #[{ on := 6, ground := Ground.data }, { on := 7, ground := Ground.chain }, { on := 0, ground := Ground.phase }, { on := 1, ground := Ground.phase }, { on := 2, ground := Ground.phase }, { on := 3, ground := Ground.phase }, { on := 4, ground := Ground.phase }, { on := 5, ground := Ground.phase }, { on := 6, ground := Ground.phase }, { on := 7, ground := Ground.phase }], guard := none }
theorem intsAt_ci {w : World} {A : Option Addr} {n c : Nat} {xs : List Int} (h : IntsAt w (.slice A n c) xs) : n = xs.length ∧ xs.length ≤ c ∧ CI w A xs.length xs := by
  obtain ⟨A', c', e, h1, h2⟩ := h
  injection e with e1 e2 e3
  subst e1 e2 e3
  exact ⟨rfl, h1, h2⟩
theorem intsAt_of_own {w : World} {base n : Nat} {v : Value} {xs : List Int} (h : w.ownsRow base 3 1 v n (nums .i64 xs)) : IntsAt w v xs := by
  have hn : xs.length = n := by have := h.1; simp [nums] at this; exact this
  exact intsAt_own (by rw [hn]; exact h)
set_option maxHeartbeats 16000000 in
set_option maxRecDepth 100000 in
theorem idle_cons (x : Int) (l : List Int) (ih : IdleSaid l) : IdleSaid (x :: l) := by
  intro v lv lov hiv r lo hi w V hv hl hlo hhi hb hin
  have hR := Aside0.mk hv
  have HV := Aside0.mk V
  have HI := Aside0.mk hin
  have HLO := Aside0.mk hlo
  have HHI := Aside0.mk hhi
  have HBI := Aside0.mk hb
  have hx := hin x (List.mem_cons_self ..)
  have hx0 := hx.1
  have hx1 := hx.2
  have hn8 := V.clocks.2
  have hn1 := V.clocks.1
  obtain ⟨A, c, T, d, rfl, h1, h2, h3, h4⟩ := hv
  obtain ⟨adt, hAt, g0, g1, g2, g3, g4, g5⟩ := CT_at h4 x hx.1 hx.2
  cases hAt
  have HT : Aside0 (r.turns.getD x.toNat Trn.z = tn r x) := ⟨rfl⟩
  rw [HT.out] at g0 g1 g2 g3 g4 g5
  have vt := V.turn x hx.1 hx.2
  obtain ⟨A1, c1, rfl, hc1, hl1⟩ := hl
  have hL1 := Aside0.mk hl1
  obtain ⟨adl, hAl, gl⟩ := CI_at hl1 0 (Int.le_refl _) (by simp only [List.length_cons]; omega)
  cases hAl
  rw [show ((0 : Int)).toNat = 0 from rfl, show adl.add 0 = adl by simp [Addr.add]] at gl
  change w.cell? adl = some (.int .i64 x) at gl
  have hbx : ∃ L cl H ch, lov = .slice L lo.length cl ∧ hiv = .slice H hi.length ch := by
    obtain ⟨L, cl, e, _⟩ := hlo
    obtain ⟨H, ch, e', _⟩ := hhi
    exact ⟨L, cl, H, ch, e, e'⟩
  obtain ⟨L, cl, H, ch, rfl, rfl⟩ := hbx
  rw [List.length_cons] at hc1 ⊢
  rw [List.length_cons] at hL1
  obtain ⟨A', hcut, hcut2⟩ := cut26 (some adl) (l.length + 1) c1 (by omega)
  have HTL : Aside0 (IntsAt w (.slice A' l.length (c1 - 1)) l) := ⟨A', c1 - 1, rfl, by omega, hcut2 w (x :: l) hc1 hL1.out⟩
  have hih := fun hv2 lo2 hi2 lv2 W (hW : Below w.heap.size w W) (h1 : IntsAt W lv2 lo2) (h2 : IntsAt W hv2 hi2) (h3 : BndI r lo2 hi2) => ih (.agg #[.int .i64 r.gates, .int .i64 r.frm, .int .i64 r.til, .slice A r.ahead.length c, .slice (some adt) r.turns.length d]) (.slice A' l.length (c1 - 1)) lv2 hv2 r lo2 hi2 W HV.out (hR.out.below hW) (HTL.out.below hW) h1 h2 h3 (fun y hy => HI.out y (List.mem_cons_of_mem _ hy))
  have hhi0 : Aside0 (0 < hi.length) := ⟨by rw [hb.lhi]; omega⟩
  have hlo0 : Aside0 (0 < lo.length) := ⟨by rw [hb.llo]; omega⟩
  obtain ⟨om, hom⟩ : ∃ om, om = idleP r.ahead ((x :: l).map (tcOf r)) lo hi := ⟨_, rfl⟩
  have HOM : Aside0 ((∀ out, idleP r.ahead (l.map (tcOf r)) lo (hi.set (tn r x).clock.toNat (min (hi.getD (tn r x).clock.toNat 0) ((tn r x).frm - 1))) = some out → om = some out) ∧
      (idleP r.ahead (l.map (tcOf r)) lo (hi.set (tn r x).clock.toNat (min (hi.getD (tn r x).clock.toNat 0) ((tn r x).frm - 1))) = none → om = idleP r.ahead (l.map (tcOf r)) (lo.set (tn r x).clock2.toNat (max (lo.getD (tn r x).clock2.toNat 0) (tn r x).til)) hi)) := ⟨by
    rw [hom]
    show (∀ out, _ → (match idleP r.ahead (l.map (tcOf r)) lo (hi.set (tn r x).clock.toNat (min (hi.getD (tn r x).clock.toNat 0) ((tn r x).frm - 1))) with | some out => some out | none => idleP r.ahead (l.map (tcOf r)) (lo.set (tn r x).clock2.toNat (max (lo.getD (tn r x).clock2.toNat 0) (tn r x).til)) hi) = some out) ∧ (_ → (match idleP r.ahead (l.map (tcOf r)) lo (hi.set (tn r x).clock.toNat (min (hi.getD (tn r x).clock.toNat 0) ((tn r x).frm - 1))) with | some out => some out | none => idleP r.ahead (l.map (tcOf r)) (lo.set (tn r x).clock2.toNat (max (lo.getD (tn r x).clock2.toNat 0) (tn r x).til)) hi) = _)
    exact ⟨fun out h => by rw [h], fun h => by rw [h]⟩⟩
  rw [← hom]
  have HQ : Aside0 (∀ o ov w', om = o → w'.ownsRow w.heap.size 3 1 ov (o.getD []).length (nums .i64 (o.getD [])) → Below w.heap.size w w' → IdlePost w om (.returned (.tuple #[ov, .bool o.isSome])) w') := ⟨fun o ov w' e a b => by subst e; exact ⟨ov, rfl, a, b⟩⟩
  clear h3 h4 hl1 hlo hhi hin V HT hcut2 hx HI hom
  generalize hPo : IdlePost w om = Post at *
  clear hPo
  have b0 := vt.2.1
  have b1 := vt.2.2.1
  have b2 := vt.2.2.2.1
  have b3 := vt.2.2.2.2.1
  have HBN1 : Aside0 (BndI r lo (hi.set (tn r x).clock.toNat (min (hi.getD (tn r x).clock.toNat 0) ((tn r x).frm - 1)))) := ⟨hb.llo, by rw [List.length_set]; exact hb.lhi, hb.blo, fun a ha => by
    rw [getD_set_int]
    have k1 := hb.bhi a ha
    split
    · rename_i e
      rw [e.1]
      omega
    · exact k1⟩
  have HBN2 : Aside0 (BndI r (lo.set (tn r x).clock2.toNat (max (lo.getD (tn r x).clock2.toNat 0) (tn r x).til)) hi) := ⟨by rw [List.length_set]; exact hb.llo, hb.lhi, fun a ha => by
    rw [getD_set_int]
    have k1 := hb.blo a ha
    split
    · rename_i e
      rw [e.1]
      omega
    · exact k1, hb.bhi⟩
  have hc0 : (0 : Int) ≤ (tn r x).clock := b0.1
  have hc2 : (tn r x).clock < (hi.length : Int) := by rw [hb.lhi]; exact b0.2
  have hd0 : (0 : Int) ≤ (tn r x).clock2 := b1.1
  have hd2 : (tn r x).clock2 < (lo.length : Int) := by rw [hb.llo]; exact b1.2
  have hw1 : IntKind.i64.wrap ((tn r x).frm - 1) = (tn r x).frm - 1 := IntWalk.i64_in _ (by omega)
  have hih1 := fun gh hcap W (hW : Below w.heap.size w W) h2 => hih (.slice (some ⟨gh, 0, none⟩) hi.length hcap) lo _ (.slice L lo.length cl) W hW (HLO.out.below hW) h2 HBN1.out
  have hih2 := fun gl lcap W (hW : Below w.heap.size w W) h1 => hih (.slice H hi.length ch) _ hi (.slice (some ⟨gl, 0, none⟩) lo.length lcap) W hW h1 (HHI.out.below hW) HBN2.out
  have hcl := fun W (hW : Below w.heap.size w W) => clone_calls H ch hi W (Kd.C_below (intsAt_ci HHI.out).2.2 hW) (by rw [hb.lhi]; omega)
  have hcll := fun W (hW : Below w.heap.size w W) => clone_calls L cl lo W (Kd.C_below (intsAt_ci HLO.out).2.2 hW) (by rw [hb.llo]; omega)
  clear hih HBN1 HBN2 HBI hb vt b0 b1
  generalize idleP r.ahead (l.map (tcOf r)) (lo.set (tn r x).clock2.toNat (max (lo.getD (tn r x).clock2.toNat 0) (tn r x).til)) hi = o2 at *
  generalize idleP r.ahead (l.map (tcOf r)) lo (hi.set (tn r x).clock.toNat (min (hi.getD (tn r x).clock.toNat 0) ((tn r x).frm - 1))) = o1 at *
  generalize tn r x = t at *
  generalize hhc : hi.getD t.clock.toNat 0 = hcv at *
  generalize hlc : lo.getD t.clock2.toNat 0 = lcv0 at *
  obtain ⟨mv, hmv⟩ : ∃ mv, mv = min hcv (t.frm - 1) := ⟨_, rfl⟩
  obtain ⟨Mv, hMv⟩ : ∃ Mv, Mv = max lcv0 t.til := ⟨_, rfl⟩
  rw [← hmv] at hih1
  rw [← hMv] at hih2
  have HMV := Aside0.mk hmv
  have HMX := Aside0.mk hMv
  have HHC := Aside0.mk hhc
  have HLC := Aside0.mk hlc
  clear hmv hMv hhc hlc
  have n0 : 0 < l.length + 1 := by omega
  have n1 : (((l.length + 1 : Nat) : Int) == 0) = false := by rw [beq_eq_false_iff_ne]; omega
  go_enter Tryz.func110, Tryz.ntmps110
  go_wp2_with (first | ((with_reducible refine gate_dst (N := 3) rfl ?_); refine box_event ?hg (N := 3) ?hd (cs := rosC r A c (some adt) d) (t := 25) ?hr ?_; (case hd => rfl); (case hg => rfl); (case hr => first | (go_simp; done) | (go_simp; rfl)); intro gr hgr w2 hbox_ hb_; have BR2 := Aside0.mk hbox_; have Hgr := Aside0.mk hgr; have HB2 := Aside0.mk hb_; clear hbox_ hb_ hgr) | ((with_reducible refine gate_dst (N := 5) rfl ?_); refine box_event ?hg (N := 5) ?hd (cs := #[.slice L lo.length cl, .slice H hi.length ch]) (t := 103) ?hr ?_; (case hd => rfl); (case hg => rfl); (case hr => first | (go_simp; done) | (go_simp; rfl)); intro gx hgx w3 hbox_ hb_; have BX3 := Aside0.mk hbox_; have Hgx := Aside0.mk hgx; have HB3 := Aside0.mk (below_step HB2.out hb_); have BR3 := Aside0.mk (blk_below BR2.out hb_); obtain ⟨q0, q1, q2, q3, q4⟩ := rosC_cells BR3.out; clear hbox_ hb_ hgx))
  have w0 := pw_cell_below HB3.out g0
  have w1 := pw_cell_below HB3.out g1
  have w2_ := pw_cell_below HB3.out g2
  have w3_ := pw_cell_below HB3.out g3
  have w4_ := pw_cell_below HB3.out g4
  have w5_ := pw_cell_below HB3.out g5
  have wl := pw_cell_below HB3.out gl
  clear g0 g1 g2 g3 g4 g5 gl HB2
  refine wp_region_held_drew (S := fun w' => Below w3.heap.size w3 w') (by kernel_rfl) ?_ (fun hH0 => ?_)
  · exact below_drew (Below.refl _ _)
  refine tk 0 (oi := o110_3_0) (v := ?_) rfl (by kernel_rfl) (fun _ _ _ h => h) (by rfl) ?_ hH0 ?_
  rotate_left
  · (intro w hSw; (try dsimp only at hSw); have c0 := pw_cell_below hSw q4; have c1 := pw_cell_below hSw wl; have c2 := pw_cell_below hSw w0; have c3 := pw_cell_below hSw w1; have c4 := pw_cell_below hSw w2_; have c5 := pw_cell_below hSw w3_; have c6 := pw_cell_below hSw w4_; have c7 := pw_cell_below hSw w5_; unfold o110_3_0; go_simp <;> (with_reducible rfl))
  simp only [Act.put, o110_3_0, List.setIfInBounds_toArray, List.set_cons_zero, List.set_cons_succ]
  refine tk 1 (oi := o110_3_1) (v := ?_) rfl (by kernel_rfl) (fun _ _ _ h => h) (by rfl) ?_ hH0 ?_
  rotate_left
  · (intro w hSw; (try dsimp only at hSw); have c0 := pw_cell_below hSw q4; have c1 := pw_cell_below hSw wl; have c2 := pw_cell_below hSw w0; have c3 := pw_cell_below hSw w1; have c4 := pw_cell_below hSw w2_; have c5 := pw_cell_below hSw w3_; have c6 := pw_cell_below hSw w4_; have c7 := pw_cell_below hSw w5_; unfold o110_3_1; go_simp <;> (with_reducible rfl))
  simp only [Act.put, o110_3_1, List.setIfInBounds_toArray, List.set_cons_zero, List.set_cons_succ]
  refine tk 2 (oi := o110_3_2) (v := ?_) rfl (by kernel_rfl) (fun _ _ _ h => h) (by rfl) ?_ hH0 ?_
  rotate_left
  · (intro w hSw; (try dsimp only at hSw); have c0 := pw_cell_below hSw q4; have c1 := pw_cell_below hSw wl; have c2 := pw_cell_below hSw w0; have c3 := pw_cell_below hSw w1; have c4 := pw_cell_below hSw w2_; have c5 := pw_cell_below hSw w3_; have c6 := pw_cell_below hSw w4_; have c7 := pw_cell_below hSw w5_; unfold o110_3_2; go_simp <;> (with_reducible rfl))
  simp only [Act.put, o110_3_2, List.setIfInBounds_toArray, List.set_cons_zero, List.set_cons_succ]
  refine tk 3 (oi := o110_3_3) (v := ?_) rfl (by kernel_rfl) (fun _ _ _ h => h) (by rfl) ?_ hH0 ?_
  rotate_left
  · (intro w hSw; (try dsimp only at hSw); have c0 := pw_cell_below hSw q4; have c1 := pw_cell_below hSw wl; have c2 := pw_cell_below hSw w0; have c3 := pw_cell_below hSw w1; have c4 := pw_cell_below hSw w2_; have c5 := pw_cell_below hSw w3_; have c6 := pw_cell_below hSw w4_; have c7 := pw_cell_below hSw w5_; unfold o110_3_3; go_simp <;> (with_reducible rfl))
  simp only [Act.put, o110_3_3, List.setIfInBounds_toArray, List.set_cons_zero, List.set_cons_succ]
  refine tk 4 (oi := o110_3_4) (v := ?_) rfl (by kernel_rfl) (fun _ _ _ h => h) (by rfl) ?_ hH0 ?_
  rotate_left
  · (intro w hSw; (try dsimp only at hSw); have c0 := pw_cell_below hSw q4; have c1 := pw_cell_below hSw wl; have c2 := pw_cell_below hSw w0; have c3 := pw_cell_below hSw w1; have c4 := pw_cell_below hSw w2_; have c5 := pw_cell_below hSw w3_; have c6 := pw_cell_below hSw w4_; have c7 := pw_cell_below hSw w5_; unfold o110_3_4; go_simp <;> (with_reducible rfl))
  simp only [Act.put, o110_3_4, List.setIfInBounds_toArray, List.set_cons_zero, List.set_cons_succ]
  refine tk 5 (oi := o110_3_5) (v := ?_) rfl (by kernel_rfl) (fun _ _ _ h => h) (by rfl) ?_ hH0 ?_
  rotate_left
  · (intro w hSw; (try dsimp only at hSw); have c0 := pw_cell_below hSw q4; have c1 := pw_cell_below hSw wl; have c2 := pw_cell_below hSw w0; have c3 := pw_cell_below hSw w1; have c4 := pw_cell_below hSw w2_; have c5 := pw_cell_below hSw w3_; have c6 := pw_cell_below hSw w4_; have c7 := pw_cell_below hSw w5_; unfold o110_3_5; go_simp <;> (with_reducible rfl))
  simp only [Act.put, o110_3_5, List.setIfInBounds_toArray, List.set_cons_zero, List.set_cons_succ]
  refine tk 6 (oi := o110_3_6) (v := ?_) rfl (by kernel_rfl) (fun _ _ _ h => h) (by rfl) ?_ hH0 ?_
  rotate_left
  · (intro w hSw; (try dsimp only at hSw); have c0 := pw_cell_below hSw q4; have c1 := pw_cell_below hSw wl; have c2 := pw_cell_below hSw w0; have c3 := pw_cell_below hSw w1; have c4 := pw_cell_below hSw w2_; have c5 := pw_cell_below hSw w3_; have c6 := pw_cell_below hSw w4_; have c7 := pw_cell_below hSw w5_; unfold o110_3_6; go_simp <;> (with_reducible rfl))
  simp only [Act.put, o110_3_6, List.setIfInBounds_toArray, List.set_cons_zero, List.set_cons_succ]
  refine wpAnyH_ready (rs := [7]) (by kernel_rfl) (by simp) (AllReadyH.cons (o := o110_3_7) rfl (fun K' hK' => ?_) AllReadyH.nil)
  unfold o110_3_7
  go_simp
  skip
  refine hK'.out _ _ (by (repeat (first | exact Below.refl _ _ | exact Below.refl _ _ | apply below_alloc | apply pw_below_drewN | apply below_drew))) (fun hH1 => ?_)
  clear hK' K'
  try simp only [Act.put, List.setIfInBounds_toArray, List.set_cons_zero, List.set_cons_succ]
  refine wpAnyH_ready (rs := [8]) (by kernel_rfl) (by simp) (AllReadyH.cons (o := o110_3_8) rfl (fun K' hK' => ?_) AllReadyH.nil)
  unfold o110_3_8
  go_simp
  skip
  refine hK'.out _ _ (by (repeat (first | exact Below.refl _ _ | exact Below.refl _ _ | apply below_alloc | apply pw_below_drewN | apply below_drew))) (fun hH2 => ?_)
  clear hK' K'
  try simp only [Act.put, List.setIfInBounds_toArray, List.set_cons_zero, List.set_cons_succ]
  refine wpAnyH_done (by kernel_rfl) ?_ _
  have BT4 : Aside0 (((w3.alloc (.cells #[.int .i64 t.gate, .int .i64 t.clock, .int .i64 t.frm, .int .i64 t.clock2, .int .i64 t.til, .int .i64 t.cost] 45)).drew).heap[w3.heap.size]? = some (.cells (trnC t) 45 (0, 0))) := ⟨alloc_at w3 _⟩
  have HB34 : Aside0 (Below w3.heap.size w3 ((w3.alloc (.cells #[.int .i64 t.gate, .int .i64 t.clock, .int .i64 t.frm, .int .i64 t.clock2, .int .i64 t.til, .int .i64 t.cost] 45)).drew)) := ⟨below_drew (below_alloc (Below.refl _ _) _)⟩
  clear q0 q1 q2 q3 q4 w0 w1 w2_ w3_ w4_ w5_ wl
  generalize (w3.alloc (.cells #[.int .i64 t.gate, .int .i64 t.clock, .int .i64 t.frm, .int .i64 t.clock2, .int .i64 t.til, .int .i64 t.cost] 45)).drew = w4 at *
  have HB4 := Aside0.mk (below_step HB3.out HB34.out)
  have BR4 := Aside0.mk (blk_below BR3.out HB34.out)
  have BX4 := Aside0.mk (blk_below BX3.out HB34.out)
  generalize w3.heap.size = gt at *
  have p0 : w4.cell? ⟨gx, 0, none⟩ = some (.slice L lo.length cl) := (blk_cell BX4.out 0).trans rfl
  have p1 : w4.cell? ⟨gx, 1, none⟩ = some (.slice H hi.length ch) := (blk_cell BX4.out 1).trans rfl
  have hcl4 := fun W (hW : Below w4.heap.size w4 W) => hcl W (below_step HB4.out hW)
  go_wp2
  refine wp_region_held_drew (S := fun w' => Below w4.heap.size w4 w') (by kernel_rfl) ?_ (fun hH0 => ?_)
  · exact below_drew (Below.refl _ _)
  refine tk 0 (oi := o110_4_0) (v := ?_) rfl (by kernel_rfl) (fun _ _ _ h => h) (by rfl) ?_ hH0 ?_
  rotate_left
  · (intro w hSw; (try dsimp only at hSw); have c0 := pw_cell_below hSw p0; have c1 := pw_cell_below hSw p1; unfold o110_4_0; go_simp <;> (with_reducible rfl))
  simp only [Act.put, o110_4_0, List.setIfInBounds_toArray, List.set_cons_zero, List.set_cons_succ]
  refine tk 1 (oi := o110_4_1) (v := ?_) rfl (by kernel_rfl) (fun _ _ _ h => h) (by rfl) ?_ hH0 ?_
  rotate_left
  · (intro w hSw; (try dsimp only at hSw); have c0 := pw_cell_below hSw p0; have c1 := pw_cell_below hSw p1; unfold o110_4_1; go_simp <;> (with_reducible rfl))
  simp only [Act.put, o110_4_1, List.setIfInBounds_toArray, List.set_cons_zero, List.set_cons_succ]
  refine tk 2 (oi := o110_4_2) (v := ?_) rfl (by kernel_rfl) (fun _ _ _ h => h) (by rfl) ?_ hH0 ?_
  rotate_left
  · (intro w hSw; (try dsimp only at hSw); have c0 := pw_cell_below hSw p0; have c1 := pw_cell_below hSw p1; unfold o110_4_2; go_simp <;> (with_reducible rfl))
  simp only [Act.put, o110_4_2, List.setIfInBounds_toArray, List.set_cons_zero, List.set_cons_succ]
  refine tk 3 (oi := o110_4_3) (v := ?_) rfl (by kernel_rfl) (fun _ _ _ h => h) (by rfl) ?_ hH0 ?_
  rotate_left
  · (intro w hSw; (try dsimp only at hSw); have c0 := pw_cell_below hSw p0; have c1 := pw_cell_below hSw p1; unfold o110_4_3; go_simp <;> (with_reducible rfl))
  simp only [Act.put, o110_4_3, List.setIfInBounds_toArray, List.set_cons_zero, List.set_cons_succ]
  refine wpAnyH_ready (rs := [4, 6]) (by kernel_rfl) (by simp) (AllReadyH.cons (o := o110_4_4) rfl (fun K' hK' => ?_) (AllReadyH.cons (o := o110_4_6) rfl (fun K' hK' => ?_) AllReadyH.nil))
  unfold o110_4_4
  go_simp
  go_at_call 46; refine (hcl4 _ (below_drew (Below.refl _ _))).mono ?_; rintro e w5 ⟨hcv, rfl, ho_, hb_⟩; obtain ⟨gh, hcap, rfl, hg1_, hg2_⟩ := own_form ho_ hhi0.out; have HO5 := Aside0.mk ho_; have hk_ : Below w4.heap.size w4 w5 := below_step (below_drew (Below.refl _ _)) hb_; have HB5 := Aside0.mk hk_; have HG5 := Aside0.mk hg1_; have HG6 := Aside0.mk hg2_; clear ho_ hb_ hg1_ hg2_
  refine hK'.out _ _ (by first | exact hk_ | exact (HB5.out.setCell HGY1.out _).setCell HGY1.out _ | (repeat (first | exact Below.refl _ _ | exact HB5.out | apply below_alloc | apply pw_below_drewN | apply below_drew))) (fun hH1 => ?_)
  clear hK' K'
  try simp only [Act.put, List.setIfInBounds_toArray, List.set_cons_zero, List.set_cons_succ]
  refine tk 5 (oi := o110_4_5) (v := ?_) rfl (by kernel_rfl) (fun _ _ _ h => h) (by rfl) ?_ hH1 ?_
  rotate_left
  · (intro w hSw; (try dsimp only at hSw); have c0 := pw_cell_below hSw p0; have c1 := pw_cell_below hSw p1; unfold o110_4_5; go_simp <;> (with_reducible rfl))
  simp only [Act.put, o110_4_5, List.setIfInBounds_toArray, List.set_cons_zero, List.set_cons_succ]
  refine wpAnyH_ready (rs := [6]) (by kernel_rfl) (by simp) (AllReadyH.cons (o := o110_4_6) rfl (fun K' hK' => ?_) AllReadyH.nil)
  unfold o110_4_6
  go_simp
  skip
  refine hK'.out _ _ (by first | exact hk_ | exact (HB5.out.setCell HGY1.out _).setCell HGY1.out _ | (repeat (first | exact Below.refl _ _ | exact HB5.out | apply below_alloc | apply pw_below_drewN | apply below_drew))) (fun hH2 => ?_)
  clear hK' K'
  try simp only [Act.put, List.setIfInBounds_toArray, List.set_cons_zero, List.set_cons_succ]
  refine wpAnyH_ready (rs := [7]) (by kernel_rfl) (by simp) (AllReadyH.cons (o := o110_4_7) rfl (fun K' hK' => ?_) AllReadyH.nil)
  unfold o110_4_7
  go_simp
  skip
  refine hK'.out _ _ (by first | exact hk_ | exact (HB5.out.setCell HGY1.out _).setCell HGY1.out _ | (repeat (first | exact Below.refl _ _ | exact HB5.out | apply below_alloc | apply pw_below_drewN | apply below_drew))) (fun hH3 => ?_)
  clear hK' K'
  try simp only [Act.put, List.setIfInBounds_toArray, List.set_cons_zero, List.set_cons_succ]
  refine wpAnyH_done (by kernel_rfl) ?_ _
  obtain ⟨gy, hgy⟩ : ∃ gy, gy = w5.heap.size := ⟨_, rfl⟩
  rw [← hgy]
  have HGY0 := Aside0.mk hgy
  have y0 := True.intro
  have y1 := True.intro
  have z0 := True.intro
  have z1 := True.intro
  have BY6 : Aside0 ((w5.alloc (.cells #[.slice L lo.length cl, .slice (some ⟨gh, 0, none⟩) hi.length hcap] 103)).heap[gy]? = some (.cells #[.slice L lo.length cl, .slice (some ⟨gh, 0, none⟩) hi.length hcap] 103 (0, 0))) := ⟨by rw [hgy]; exact alloc_at w5 _⟩; have HO6 : Aside0 ((w5.alloc (.cells #[.slice L lo.length cl, .slice (some ⟨gh, 0, none⟩) hi.length hcap] 103)).ownsRow w4.heap.size 3 1 (.slice (some ⟨gh, 0, none⟩) hi.length hcap) hi.length (nums .i64 hi)) := ⟨(own_weaken HO5.out (Nat.le_refl _)).alloc _⟩; have HB6 : Aside0 (Below w4.heap.size w4 (w5.alloc (.cells #[.slice L lo.length cl, .slice (some ⟨gh, 0, none⟩) hi.length hcap] 103))) := ⟨below_alloc HB5.out _⟩; have HGY : Aside0 (w4.heap.size ≤ gy ∧ w4.heap.size ≤ gh ∧ gy ≠ gh) := ⟨by have h1 := HG5.out; have h2 := HG6.out; have h3 := HB5.out.size; exact ⟨by omega, h1, by omega⟩⟩; clear y0 y1 z0 z1 HO5 HB5; generalize w5.alloc (.cells #[.slice L lo.length cl, .slice (some ⟨gh, 0, none⟩) hi.length hcap] 103) = w6 at *
  clear hgy HGY0
  rotate_left
  unfold o110_4_6
  go_simp
  obtain ⟨gy, hgy⟩ : ∃ gy, gy = w4.heap.size := ⟨_, rfl⟩; rw [← hgy]; have HGY0 := Aside0.mk hgy; clear hgy
  refine hK'.out _ _ (by first | exact hk_ | exact (HB5.out.setCell HGY1.out _).setCell HGY1.out _ | (repeat (first | exact Below.refl _ _ | exact HB5.out | apply below_alloc | apply pw_below_drewN | apply below_drew))) (fun hH1 => ?_)
  clear hK' K'
  try simp only [Act.put, List.setIfInBounds_toArray, List.set_cons_zero, List.set_cons_succ]
  refine wpAnyH_ready (rs := [4]) (by kernel_rfl) (by simp) (AllReadyH.cons (o := o110_4_4) rfl (fun K' hK' => ?_) AllReadyH.nil)
  unfold o110_4_4
  go_simp
  go_at_call 46; refine (hcl4 _ (below_alloc (below_drew (Below.refl _ _)) _)).mono ?_; rintro e w5 ⟨hcv, rfl, ho_, hb_⟩; obtain ⟨gh, hcap, rfl, hg1_, hg2_⟩ := own_form ho_ hhi0.out; have HO5 := Aside0.mk ho_; have hk_ : Below w4.heap.size w4 w5 := below_step (below_alloc (below_drew (Below.refl _ _)) _) hb_; have HB5 := Aside0.mk hk_; have HG5 := Aside0.mk hg1_; have HG6 := Aside0.mk hg2_; have BYA : Aside0 (w5.heap[gy]? = some (.cells #[.slice none 0 0, .slice none 0 0] 103 (0, 0))) := ⟨blk_below (w := w4.drew.alloc (.cells #[.slice none 0 0, .slice none 0 0] 103)) (by rw [HGY0.out]; exact alloc_at w4.drew _) hb_⟩; have y0 : w5.cell? ⟨gy, 0, none⟩ = some (.slice none 0 0) := (blk_cell BYA.out 0).trans rfl; have y1 : w5.cell? ⟨gy, 1, none⟩ = some (.slice none 0 0) := (blk_cell BYA.out 1).trans rfl; have z0 := blk_frozen BYA.out 0; have z1 := blk_frozen BYA.out 1; have HGY1 : Aside0 (w4.heap.size ≤ gy) := ⟨by rw [HGY0.out]; exact Nat.le_refl _⟩; have HGH1 : Aside0 (w4.heap.size ≤ gh) := ⟨by have h := HG5.out; rw [alloc_sz] at h; change w4.heap.size + 1 ≤ gh at h; omega⟩; have HNE2 : Aside0 (gy ≠ gh) := ⟨by have h := HG5.out; rw [alloc_sz] at h; change w4.heap.size + 1 ≤ gh at h; rw [HGY0.out]; omega⟩; have HNE : Aside0 (some gy ≠ (Value.slice (some ⟨gh, 0, none⟩) hi.length hcap).ownBlock) := ⟨by intro e_; exact HNE2.out (by injection e_)⟩; clear ho_ hb_ hg1_ hg2_
  refine hK'.out _ _ (by first | exact hk_ | exact (HB5.out.setCell HGY1.out _).setCell HGY1.out _ | (repeat (first | exact Below.refl _ _ | exact HB5.out | apply below_alloc | apply pw_below_drewN | apply below_drew))) (fun hH2 => ?_)
  clear hK' K'
  try simp only [Act.put, List.setIfInBounds_toArray, List.set_cons_zero, List.set_cons_succ]
  refine tk 5 (oi := o110_4_5) (v := ?_) rfl (by kernel_rfl) (fun _ _ _ h => h) (by rfl) ?_ hH2 ?_
  rotate_left
  · (intro w hSw; (try dsimp only at hSw); have c0 := pw_cell_below hSw p0; have c1 := pw_cell_below hSw p1; unfold o110_4_5; go_simp <;> (with_reducible rfl))
  simp only [Act.put, o110_4_5, List.setIfInBounds_toArray, List.set_cons_zero, List.set_cons_succ]
  refine wpAnyH_ready (rs := [7]) (by kernel_rfl) (by simp) (AllReadyH.cons (o := o110_4_7) rfl (fun K' hK' => ?_) AllReadyH.nil)
  unfold o110_4_7
  go_simp
  skip
  refine hK'.out _ _ (by first | exact hk_ | exact (HB5.out.setCell HGY1.out _).setCell HGY1.out _ | (repeat (first | exact Below.refl _ _ | exact HB5.out | apply below_alloc | apply pw_below_drewN | apply below_drew))) (fun hH3 => ?_)
  clear hK' K'
  try simp only [Act.put, List.setIfInBounds_toArray, List.set_cons_zero, List.set_cons_succ]
  refine wpAnyH_done (by kernel_rfl) ?_ _
  have BY6 : Aside0 (((w5.setCell ⟨gy, 0, none⟩ (.slice L lo.length cl)).setCell ⟨gy, 1, none⟩ (.slice (some ⟨gh, 0, none⟩) hi.length hcap)).heap[gy]? = some (.cells #[.slice L lo.length cl, .slice (some ⟨gh, 0, none⟩) hi.length hcap] 103 (0, 0))) := ⟨(blk_set (blk_set BYA.out 0 _) 1 _).trans rfl⟩; have HO6 : Aside0 (((w5.setCell ⟨gy, 0, none⟩ (.slice L lo.length cl)).setCell ⟨gy, 1, none⟩ (.slice (some ⟨gh, 0, none⟩) hi.length hcap)).ownsRow w4.heap.size 3 1 (.slice (some ⟨gh, 0, none⟩) hi.length hcap) hi.length (nums .i64 hi)) := ⟨own_setCell (own_setCell (own_weaken HO5.out (by rw [alloc_sz]; exact Nat.le_succ _)) HNE.out _) HNE.out _⟩; have HB6 : Aside0 (Below w4.heap.size w4 ((w5.setCell ⟨gy, 0, none⟩ (.slice L lo.length cl)).setCell ⟨gy, 1, none⟩ (.slice (some ⟨gh, 0, none⟩) hi.length hcap))) := ⟨(HB5.out.setCell HGY1.out _).setCell HGY1.out _⟩; have HGY : Aside0 (w4.heap.size ≤ gy ∧ w4.heap.size ≤ gh ∧ gy ≠ gh) := ⟨⟨HGY1.out, HGH1.out, HNE2.out⟩⟩; clear y0 y1 z0 z1 HO5 HB5; generalize (w5.setCell ⟨gy, 0, none⟩ (.slice L lo.length cl)).setCell ⟨gy, 1, none⟩ (.slice (some ⟨gh, 0, none⟩) hi.length hcap) = w6 at *
  rotate_left
  all_goals
    have BT6 := Aside0.mk (blk_below BT4.out HB6.out)
    have BR6 := Aside0.mk (blk_below BR4.out HB6.out)
    have y0 : w6.cell? ⟨gy, 0, none⟩ = some (.slice L lo.length cl) := (blk_cell BY6.out 0).trans rfl
    have y1 : w6.cell? ⟨gy, 1, none⟩ = some (.slice (some ⟨gh, 0, none⟩) hi.length hcap) := (blk_cell BY6.out 1).trans rfl
    obtain ⟨u0, u1, u2, u3, u4, u5⟩ := trnC_cells BT6.out
    obtain ⟨k1, k2⟩ := own_at HO6.out t.clock hc0 hc2
    change w6.cell? _ = some (.int .i64 (hi.getD t.clock.toNat 0)) at k1
    rw [HHC.out] at k1
    clear p0 p1
    go_wp2
    go_still_tail 15, (by kernel_rfl)
    change wpList _ _ _ _ _ w6.drew
    go_wp2
    all_goals first | (rw [show t.frm - 1 = mv by rw [HMV.out]; omega]) | (rw [show hcv = mv by rw [HMV.out]; omega])
    all_goals
      have HO7 : Aside0 (((w6.setCell ⟨gh, t.clock.toNat, none⟩ (.int .i64 mv)).drew).ownsRow w4.heap.size 3 1 (.slice (some ⟨gh, 0, none⟩) hi.length hcap) hi.length (nums .i64 (hi.set t.clock.toNat mv))) := ⟨(own_store HO6.out t.clock mv).1⟩
      have BY7 : Aside0 (((w6.setCell ⟨gh, t.clock.toNat, none⟩ (.int .i64 mv)).drew).heap[gy]? = some (.cells #[.slice L lo.length cl, .slice (some ⟨gh, 0, none⟩) hi.length hcap] 103 (0, 0))) := ⟨blk_far BY6.out (p := ⟨gh, t.clock.toNat, none⟩) HGY.out.2.2 _⟩
      have HB7 : Aside0 (Below w4.heap.size w4 ((w6.setCell ⟨gh, t.clock.toNat, none⟩ (.int .i64 mv)).drew)) := ⟨below_drew (HB6.out.setCell HGY.out.2.1 _)⟩
      clear y0 y1 u0 u1 u2 u3 u4 u5 k1 k2
      generalize (w6.setCell ⟨gh, t.clock.toNat, none⟩ (.int .i64 mv)).drew = w7 at *
      clear HO6 BY6 HB6 BT6 BR6
      have BR7 := Aside0.mk (blk_below BR4.out HB7.out)
      obtain ⟨q0, q1, q2, q3, q4⟩ := rosC_cells BR7.out
      have y0 : w7.cell? ⟨gy, 0, none⟩ = some (.slice L lo.length cl) := (blk_cell BY7.out 0).trans rfl
      have y1 : w7.cell? ⟨gy, 1, none⟩ = some (.slice (some ⟨gh, 0, none⟩) hi.length hcap) := (blk_cell BY7.out 1).trans rfl
      have hih3 := fun W (hW : Below w7.heap.size w7 W) => hih1 gh hcap W (below_step (below_step HB4.out HB7.out) hW) (IntsAt.below (intsAt_of_own HO7.out) hW)
      refine wp_region_held_drew (S := fun w' => Below w7.heap.size w7 w') (by kernel_rfl) ?_ (fun hH0 => ?_)
      · exact below_drew (Below.refl _ _)
      refine tk 0 (oi := o110_6_0) (v := ?_) rfl (by kernel_rfl) (fun _ _ _ h => h) (by rfl) ?_ hH0 ?_
      rotate_left
      · (intro w hSw; (try dsimp only at hSw); have c0 := pw_cell_below hSw q0; have c1_ := pw_cell_below hSw q1; have c2 := pw_cell_below hSw q2; have c3 := pw_cell_below hSw q3; have c4 := pw_cell_below hSw q4; have c5 := pw_cell_below hSw y0; have c6 := pw_cell_below hSw y1; unfold o110_6_0; go_simp <;> (with_reducible rfl))
      simp only [Act.put, o110_6_0, List.setIfInBounds_toArray, List.set_cons_zero, List.set_cons_succ]
      refine tk 1 (oi := o110_6_1) (v := ?_) rfl (by kernel_rfl) (fun _ _ _ h => h) (by rfl) ?_ hH0 ?_
      rotate_left
      · (intro w hSw; (try dsimp only at hSw); have c0 := pw_cell_below hSw q0; have c1_ := pw_cell_below hSw q1; have c2 := pw_cell_below hSw q2; have c3 := pw_cell_below hSw q3; have c4 := pw_cell_below hSw q4; have c5 := pw_cell_below hSw y0; have c6 := pw_cell_below hSw y1; unfold o110_6_1; go_simp <;> (with_reducible rfl))
      simp only [Act.put, o110_6_1, List.setIfInBounds_toArray, List.set_cons_zero, List.set_cons_succ]
      refine tk 2 (oi := o110_6_2) (v := ?_) rfl (by kernel_rfl) (fun _ _ _ h => h) (by rfl) ?_ hH0 ?_
      rotate_left
      · (intro w hSw; (try dsimp only at hSw); have c0 := pw_cell_below hSw q0; have c1_ := pw_cell_below hSw q1; have c2 := pw_cell_below hSw q2; have c3 := pw_cell_below hSw q3; have c4 := pw_cell_below hSw q4; have c5 := pw_cell_below hSw y0; have c6 := pw_cell_below hSw y1; unfold o110_6_2; go_simp <;> (with_reducible rfl))
      simp only [Act.put, o110_6_2, List.setIfInBounds_toArray, List.set_cons_zero, List.set_cons_succ]
      refine tk 3 (oi := o110_6_3) (v := ?_) rfl (by kernel_rfl) (fun _ _ _ h => h) (by rfl) ?_ hH0 ?_
      rotate_left
      · (intro w hSw; (try dsimp only at hSw); have c0 := pw_cell_below hSw q0; have c1_ := pw_cell_below hSw q1; have c2 := pw_cell_below hSw q2; have c3 := pw_cell_below hSw q3; have c4 := pw_cell_below hSw q4; have c5 := pw_cell_below hSw y0; have c6 := pw_cell_below hSw y1; unfold o110_6_3; go_simp <;> (with_reducible rfl))
      simp only [Act.put, o110_6_3, List.setIfInBounds_toArray, List.set_cons_zero, List.set_cons_succ]
      refine wpAnyH_ready (rs := [4]) (by kernel_rfl) (by simp) (AllReadyH.cons (o := o110_6_4) rfl (fun K' hK' => ?_) AllReadyH.nil)
      unfold o110_6_4
      go_simp
      go_at_call 110; refine (hih3 _ (below_drew (Below.refl _ _))).mono ?_; rintro e w8 hp_; obtain ⟨ov, rfl, ho_, hb_⟩ := hp_; have HO8 := Aside0.mk ho_; have hk_ : Below w7.heap.size w7 w8 := below_step (below_drew (Below.refl _ w7)) hb_; have HB8 := Aside0.mk hk_; clear ho_ hb_
      refine hK'.out _ _ (by exact hk_) (fun hH1 => ?_)
      clear hK' K'
      try simp only [Act.put, List.setIfInBounds_toArray, List.set_cons_zero, List.set_cons_succ]
      refine tk 5 (oi := o110_6_5) (v := ?_) rfl (by kernel_rfl) (fun _ _ _ h => h) (by rfl) ?_ hH1 ?_
      rotate_left
      · (intro w hSw; (try dsimp only at hSw); have c0 := pw_cell_below hSw q0; have c1_ := pw_cell_below hSw q1; have c2 := pw_cell_below hSw q2; have c3 := pw_cell_below hSw q3; have c4 := pw_cell_below hSw q4; have c5 := pw_cell_below hSw y0; have c6 := pw_cell_below hSw y1; unfold o110_6_5; go_simp <;> (with_reducible rfl))
      simp only [Act.put, o110_6_5, List.setIfInBounds_toArray, List.set_cons_zero, List.set_cons_succ]
      refine tk 6 (oi := o110_6_6) (v := ?_) rfl (by kernel_rfl) (fun _ _ _ h => h) (by rfl) ?_ hH1 ?_
      rotate_left
      · (intro w hSw; (try dsimp only at hSw); have c0 := pw_cell_below hSw q0; have c1_ := pw_cell_below hSw q1; have c2 := pw_cell_below hSw q2; have c3 := pw_cell_below hSw q3; have c4 := pw_cell_below hSw q4; have c5 := pw_cell_below hSw y0; have c6 := pw_cell_below hSw y1; unfold o110_6_6; go_simp <;> (with_reducible rfl))
      simp only [Act.put, o110_6_6, List.setIfInBounds_toArray, List.set_cons_zero, List.set_cons_succ]
      refine tk 7 (oi := o110_6_7) (v := ?_) rfl (by kernel_rfl) (fun _ _ _ h => h) (by rfl) ?_ hH1 ?_
      rotate_left
      · (intro w hSw; (try dsimp only at hSw); have c0 := pw_cell_below hSw q0; have c1_ := pw_cell_below hSw q1; have c2 := pw_cell_below hSw q2; have c3 := pw_cell_below hSw q3; have c4 := pw_cell_below hSw q4; have c5 := pw_cell_below hSw y0; have c6 := pw_cell_below hSw y1; unfold o110_6_7; go_simp <;> (with_reducible rfl))
      simp only [Act.put, o110_6_7, List.setIfInBounds_toArray, List.set_cons_zero, List.set_cons_succ]
      refine tk 8 (oi := o110_6_8) (v := ?_) rfl (by kernel_rfl) (fun _ _ _ h => h) (by rfl) ?_ hH1 ?_
      rotate_left
      · (intro w hSw; (try dsimp only at hSw); have c0 := pw_cell_below hSw q0; have c1_ := pw_cell_below hSw q1; have c2 := pw_cell_below hSw q2; have c3 := pw_cell_below hSw q3; have c4 := pw_cell_below hSw q4; have c5 := pw_cell_below hSw y0; have c6 := pw_cell_below hSw y1; unfold o110_6_8; go_simp <;> (with_reducible rfl))
      simp only [Act.put, o110_6_8, List.setIfInBounds_toArray, List.set_cons_zero, List.set_cons_succ]
      refine tk 9 (oi := o110_6_9) (v := ?_) rfl (by kernel_rfl) (fun _ _ _ h => h) (by rfl) ?_ hH1 ?_
      rotate_left
      · (intro w hSw; (try dsimp only at hSw); have c0 := pw_cell_below hSw q0; have c1_ := pw_cell_below hSw q1; have c2 := pw_cell_below hSw q2; have c3 := pw_cell_below hSw q3; have c4 := pw_cell_below hSw q4; have c5 := pw_cell_below hSw y0; have c6 := pw_cell_below hSw y1; unfold o110_6_9; go_simp <;> (with_reducible rfl))
      simp only [Act.put, o110_6_9, List.setIfInBounds_toArray, List.set_cons_zero, List.set_cons_succ]
      refine wpAnyH_done (by kernel_rfl) ?_ _
      cases o1 with
      | some out =>
        have HQ' : Aside0 (∀ ov w', w'.ownsRow w.heap.size 3 1 ov out.length (nums .i64 out) → Below w.heap.size w w' → Post (.returned (.tuple #[ov, .bool true])) w') := ⟨fun ov w' a b => HQ.out (some out) ov w' (HOM.out.1 out rfl) a b⟩
        simp only [Option.isSome_some]
        clear HQ
        have HB47 := Aside0.mk (below_step HB4.out HB7.out)
        go_wp2
        exact HQ'.out _ _ (own_weaken HO8.out HB47.out.size) (below_step HB47.out HB8.out)
      | none =>
        have HQ' : Aside0 (∀ ov w', w'.ownsRow w.heap.size 3 1 ov (o2.getD []).length (nums .i64 (o2.getD [])) → Below w.heap.size w w' → Post (.returned (.tuple #[ov, .bool o2.isSome])) w') := ⟨fun ov w' a b => HQ.out o2 ov w' (HOM.out.2 rfl) a b⟩
        simp only [Option.isSome_none]
        clear HQ
        have HB48 := Aside0.mk (below_step HB7.out HB8.out)
        have BY8 := Aside0.mk (blk_below BY7.out HB8.out)
        have p0 : w4.cell? ⟨gx, 0, none⟩ = some (.slice L lo.length cl) := (blk_cell BX4.out 0).trans rfl
        have p1 : w4.cell? ⟨gx, 1, none⟩ = some (.slice H hi.length ch) := (blk_cell BX4.out 1).trans rfl
        have hcl9 := fun W (hW : Below w8.heap.size w8 W) => hcll W (below_step HB4.out (below_step HB48.out hW))
        clear q0 q1 q2 q3 q4 y0 y1
        go_wp2
        refine wp_region_held_drew (S := fun w' => Below w4.heap.size w4 w') (by kernel_rfl) ?_ (fun hH0 => ?_)
        · exact below_drew HB48.out
        refine tk 0 (oi := o110_9_0) (v := ?_) rfl (by kernel_rfl) (fun _ _ _ h => h) (by rfl) ?_ hH0 ?_
        rotate_left
        · (intro w hSw; (try dsimp only at hSw); have c0 := pw_cell_below hSw p0; have c1 := pw_cell_below hSw p1; unfold o110_9_0; go_simp <;> (with_reducible rfl))
        simp only [Act.put, o110_9_0, List.setIfInBounds_toArray, List.set_cons_zero, List.set_cons_succ]
        refine tk 1 (oi := o110_9_1) (v := ?_) rfl (by kernel_rfl) (fun _ _ _ h => h) (by rfl) ?_ hH0 ?_
        rotate_left
        · (intro w hSw; (try dsimp only at hSw); have c0 := pw_cell_below hSw p0; have c1 := pw_cell_below hSw p1; unfold o110_9_1; go_simp <;> (with_reducible rfl))
        simp only [Act.put, o110_9_1, List.setIfInBounds_toArray, List.set_cons_zero, List.set_cons_succ]
        refine tk 3 (oi := o110_9_3) (v := ?_) rfl (by kernel_rfl) (fun _ _ _ h => h) (by rfl) ?_ hH0 ?_
        rotate_left
        · (intro w hSw; (try dsimp only at hSw); have c0 := pw_cell_below hSw p0; have c1 := pw_cell_below hSw p1; unfold o110_9_3; go_simp <;> (with_reducible rfl))
        simp only [Act.put, o110_9_3, List.setIfInBounds_toArray, List.set_cons_zero, List.set_cons_succ]
        refine tk 4 (oi := o110_9_4) (v := ?_) rfl (by kernel_rfl) (fun _ _ _ h => h) (by rfl) ?_ hH0 ?_
        rotate_left
        · (intro w hSw; (try dsimp only at hSw); have c0 := pw_cell_below hSw p0; have c1 := pw_cell_below hSw p1; unfold o110_9_4; go_simp <;> (with_reducible rfl))
        simp only [Act.put, o110_9_4, List.setIfInBounds_toArray, List.set_cons_zero, List.set_cons_succ]
        refine wpAnyH_ready (rs := [2]) (by kernel_rfl) (by simp) (AllReadyH.cons (o := o110_9_2) rfl (fun K' hK' => ?_) AllReadyH.nil)
        unfold o110_9_2
        go_simp
        go_at_call 46; refine (hcl9 _ (below_drew (Below.refl _ _))).mono ?_; rintro e w9 ⟨lcv, rfl, ho_, hb_⟩; obtain ⟨gl2, lcap, rfl, hg1_, hg2_⟩ := own_form ho_ hlo0.out; have HO9 := Aside0.mk ho_; have HB89 := Aside0.mk (below_step (below_drew (Below.refl _ w8)) hb_); have hk_ : Below w4.heap.size w4 w9 := below_step HB48.out HB89.out; have HB9 := Aside0.mk hk_; have HG9 := Aside0.mk (And.intro hg1_ hg2_); have BY9 := Aside0.mk (blk_below BY8.out HB89.out); have y0 : w9.cell? ⟨gy, 0, none⟩ = some (.slice L lo.length cl) := (blk_cell BY9.out 0).trans rfl; have y1 : w9.cell? ⟨gy, 1, none⟩ = some (.slice (some ⟨gh, 0, none⟩) hi.length hcap) := (blk_cell BY9.out 1).trans rfl; have z0 := blk_frozen BY9.out 0; have z1 := blk_frozen BY9.out 1; clear ho_ hb_ hg1_ hg2_
        refine hK'.out _ _ (by exact hk_) (fun hH1 => ?_)
        clear hK' K'
        try simp only [Act.put, List.setIfInBounds_toArray, List.set_cons_zero, List.set_cons_succ]
        refine tk 5 (oi := o110_9_5) (v := ?_) rfl (by kernel_rfl) (fun _ _ _ h => h) (by rfl) ?_ hH1 ?_
        rotate_left
        · (intro w hSw; (try dsimp only at hSw); have c0 := pw_cell_below hSw p0; have c1 := pw_cell_below hSw p1; unfold o110_9_5; go_simp <;> (with_reducible rfl))
        simp only [Act.put, o110_9_5, List.setIfInBounds_toArray, List.set_cons_zero, List.set_cons_succ]
        refine wpAnyH_ready (rs := [6]) (by kernel_rfl) (by simp) (AllReadyH.cons (o := o110_9_6) rfl (fun K' hK' => ?_) AllReadyH.nil)
        unfold o110_9_6
        go_simp
        have hk_ : Below w4.heap.size w4 ((w9.setCell ⟨gy, 0, none⟩ (.slice (some ⟨gl2, 0, none⟩) lo.length lcap)).setCell ⟨gy, 1, none⟩ (.slice H hi.length ch)) := (HB9.out.setCell HGY.out.1 _).setCell HGY.out.1 _
        refine hK'.out _ _ (by exact hk_) (fun hH2 => ?_)
        clear hK' K'
        try simp only [Act.put, List.setIfInBounds_toArray, List.set_cons_zero, List.set_cons_succ]
        refine wpAnyH_done (by kernel_rfl) ?_ _
        have HNE : Aside0 (some gy ≠ (Value.slice (some ⟨gl2, 0, none⟩) lo.length lcap).ownBlock) := ⟨by have h1 := HG9.out.1; change w8.heap.size ≤ gl2 at h1; have h2 := blk_lt BY8.out; intro e_; have e2 : gy = gl2 := (by injection e_); omega⟩
        have HGL : Aside0 (w4.heap.size ≤ gl2 ∧ gy ≠ gl2) := ⟨by have h1 := HG9.out.1; change w8.heap.size ≤ gl2 at h1; have h2 := HB48.out.size; have h3 := blk_lt BY8.out; exact ⟨by omega, by omega⟩⟩
        have BY10 : Aside0 (((w9.setCell ⟨gy, 0, none⟩ (.slice (some ⟨gl2, 0, none⟩) lo.length lcap)).setCell ⟨gy, 1, none⟩ (.slice H hi.length ch)).heap[gy]? = some (.cells #[(.slice (some ⟨gl2, 0, none⟩) lo.length lcap), .slice H hi.length ch] 103 (0, 0))) := ⟨(blk_set (blk_set BY9.out 0 _) 1 _).trans rfl⟩
        have HO10 : Aside0 (((w9.setCell ⟨gy, 0, none⟩ (.slice (some ⟨gl2, 0, none⟩) lo.length lcap)).setCell ⟨gy, 1, none⟩ (.slice H hi.length ch)).ownsRow w8.heap.size 3 1 (.slice (some ⟨gl2, 0, none⟩) lo.length lcap) lo.length (nums .i64 lo)) := ⟨own_setCell (own_setCell HO9.out HNE.out _) HNE.out _⟩
        have HB10 : Aside0 (Below w4.heap.size w4 ((w9.setCell ⟨gy, 0, none⟩ (.slice (some ⟨gl2, 0, none⟩) lo.length lcap)).setCell ⟨gy, 1, none⟩ (.slice H hi.length ch))) := ⟨(HB9.out.setCell HGY.out.1 _).setCell HGY.out.1 _⟩
        clear y0 y1 z0 z1 p0 p1
        generalize (w9.setCell ⟨gy, 0, none⟩ (.slice (some ⟨gl2, 0, none⟩) lo.length lcap)).setCell ⟨gy, 1, none⟩ (.slice H hi.length ch) = w10 at *
        have BT10 := Aside0.mk (blk_below BT4.out HB10.out)
        have y0 : w10.cell? ⟨gy, 0, none⟩ = some (.slice (some ⟨gl2, 0, none⟩) lo.length lcap) := (blk_cell BY10.out 0).trans rfl
        obtain ⟨u0, u1, u2, u3, u4, u5⟩ := trnC_cells BT10.out
        obtain ⟨k1, k2⟩ := own_at HO10.out t.clock2 hd0 hd2
        change w10.cell? _ = some (.int .i64 (lo.getD t.clock2.toNat 0)) at k1
        rw [HLC.out] at k1
        go_wp2
        go_still_tail 14, (by kernel_rfl)
        change wpList _ _ _ _ _ w10.drew
        go_wp2
        all_goals first | (rw [show t.til = Mv by rw [HMX.out]; omega]) | (rw [show lcv0 = Mv by rw [HMX.out]; omega])
        all_goals
          have HO11 : Aside0 (((w10.setCell ⟨gl2, t.clock2.toNat, none⟩ (.int .i64 Mv)).drew).ownsRow w8.heap.size 3 1 (.slice (some ⟨gl2, 0, none⟩) lo.length lcap) lo.length (nums .i64 (lo.set t.clock2.toNat Mv))) := ⟨(own_store HO10.out t.clock2 Mv).1⟩
          have BY11 : Aside0 (((w10.setCell ⟨gl2, t.clock2.toNat, none⟩ (.int .i64 Mv)).drew).heap[gy]? = some (.cells #[(.slice (some ⟨gl2, 0, none⟩) lo.length lcap), .slice H hi.length ch] 103 (0, 0))) := ⟨blk_far BY10.out (p := ⟨gl2, t.clock2.toNat, none⟩) HGL.out.2 _⟩
          have HB11 : Aside0 (Below w4.heap.size w4 ((w10.setCell ⟨gl2, t.clock2.toNat, none⟩ (.int .i64 Mv)).drew)) := ⟨below_drew (HB10.out.setCell HGL.out.1 _)⟩
          clear y0 u0 u1 u2 u3 u4 u5 k1 k2
          generalize (w10.setCell ⟨gl2, t.clock2.toNat, none⟩ (.int .i64 Mv)).drew = w11 at *
          have BR11 := Aside0.mk (blk_below BR4.out HB11.out)
          obtain ⟨q0, q1, q2, q3, q4⟩ := rosC_cells BR11.out
          have y0 : w11.cell? ⟨gy, 0, none⟩ = some (.slice (some ⟨gl2, 0, none⟩) lo.length lcap) := (blk_cell BY11.out 0).trans rfl
          have y1 : w11.cell? ⟨gy, 1, none⟩ = some (.slice H hi.length ch) := (blk_cell BY11.out 1).trans rfl
          have hih4 := fun W (hW : Below w11.heap.size w11 W) => hih2 gl2 lcap W (below_step (below_step HB4.out HB11.out) hW) (IntsAt.below (intsAt_of_own HO11.out) hW)
          refine wp_region_held_drew (S := fun w' => Below w11.heap.size w11 w') (by kernel_rfl) ?_ (fun hH0 => ?_)
          · exact below_drew (Below.refl _ _)
          refine tk 0 (oi := o110_11_0) (v := ?_) rfl (by kernel_rfl) (fun _ _ _ h => h) (by rfl) ?_ hH0 ?_
          rotate_left
          · (intro w hSw; (try dsimp only at hSw); have c0 := pw_cell_below hSw q0; have c1_ := pw_cell_below hSw q1; have c2 := pw_cell_below hSw q2; have c3 := pw_cell_below hSw q3; have c4 := pw_cell_below hSw q4; have c5 := pw_cell_below hSw y0; have c6 := pw_cell_below hSw y1; unfold o110_11_0; go_simp <;> (with_reducible rfl))
          simp only [Act.put, o110_11_0, List.setIfInBounds_toArray, List.set_cons_zero, List.set_cons_succ]
          refine tk 1 (oi := o110_11_1) (v := ?_) rfl (by kernel_rfl) (fun _ _ _ h => h) (by rfl) ?_ hH0 ?_
          rotate_left
          · (intro w hSw; (try dsimp only at hSw); have c0 := pw_cell_below hSw q0; have c1_ := pw_cell_below hSw q1; have c2 := pw_cell_below hSw q2; have c3 := pw_cell_below hSw q3; have c4 := pw_cell_below hSw q4; have c5 := pw_cell_below hSw y0; have c6 := pw_cell_below hSw y1; unfold o110_11_1; go_simp <;> (with_reducible rfl))
          simp only [Act.put, o110_11_1, List.setIfInBounds_toArray, List.set_cons_zero, List.set_cons_succ]
          refine tk 2 (oi := o110_11_2) (v := ?_) rfl (by kernel_rfl) (fun _ _ _ h => h) (by rfl) ?_ hH0 ?_
          rotate_left
          · (intro w hSw; (try dsimp only at hSw); have c0 := pw_cell_below hSw q0; have c1_ := pw_cell_below hSw q1; have c2 := pw_cell_below hSw q2; have c3 := pw_cell_below hSw q3; have c4 := pw_cell_below hSw q4; have c5 := pw_cell_below hSw y0; have c6 := pw_cell_below hSw y1; unfold o110_11_2; go_simp <;> (with_reducible rfl))
          simp only [Act.put, o110_11_2, List.setIfInBounds_toArray, List.set_cons_zero, List.set_cons_succ]
          refine tk 3 (oi := o110_11_3) (v := ?_) rfl (by kernel_rfl) (fun _ _ _ h => h) (by rfl) ?_ hH0 ?_
          rotate_left
          · (intro w hSw; (try dsimp only at hSw); have c0 := pw_cell_below hSw q0; have c1_ := pw_cell_below hSw q1; have c2 := pw_cell_below hSw q2; have c3 := pw_cell_below hSw q3; have c4 := pw_cell_below hSw q4; have c5 := pw_cell_below hSw y0; have c6 := pw_cell_below hSw y1; unfold o110_11_3; go_simp <;> (with_reducible rfl))
          simp only [Act.put, o110_11_3, List.setIfInBounds_toArray, List.set_cons_zero, List.set_cons_succ]
          refine wpAnyH_ready (rs := [4]) (by kernel_rfl) (by simp) (AllReadyH.cons (o := o110_11_4) rfl (fun K' hK' => ?_) AllReadyH.nil)
          unfold o110_11_4
          go_simp
          go_at_call 110; refine (hih4 _ (below_drew (Below.refl _ _))).mono ?_; rintro e w12 hp_; obtain ⟨ov, rfl, ho_, hb_⟩ := hp_; have HO12 := Aside0.mk ho_; have hk_ : Below w11.heap.size w11 w12 := below_step (below_drew (Below.refl _ w11)) hb_; have HB12 := Aside0.mk hk_; clear ho_ hb_
          refine hK'.out _ _ (by exact hk_) (fun hH1 => ?_)
          clear hK' K'
          try simp only [Act.put, List.setIfInBounds_toArray, List.set_cons_zero, List.set_cons_succ]
          refine tk 5 (oi := o110_11_5) (v := ?_) rfl (by kernel_rfl) (fun _ _ _ h => h) (by rfl) ?_ hH1 ?_
          rotate_left
          · (intro w hSw; (try dsimp only at hSw); have c0 := pw_cell_below hSw q0; have c1_ := pw_cell_below hSw q1; have c2 := pw_cell_below hSw q2; have c3 := pw_cell_below hSw q3; have c4 := pw_cell_below hSw q4; have c5 := pw_cell_below hSw y0; have c6 := pw_cell_below hSw y1; unfold o110_11_5; go_simp <;> (with_reducible rfl))
          simp only [Act.put, o110_11_5, List.setIfInBounds_toArray, List.set_cons_zero, List.set_cons_succ]
          refine tk 6 (oi := o110_11_6) (v := ?_) rfl (by kernel_rfl) (fun _ _ _ h => h) (by rfl) ?_ hH1 ?_
          rotate_left
          · (intro w hSw; (try dsimp only at hSw); have c0 := pw_cell_below hSw q0; have c1_ := pw_cell_below hSw q1; have c2 := pw_cell_below hSw q2; have c3 := pw_cell_below hSw q3; have c4 := pw_cell_below hSw q4; have c5 := pw_cell_below hSw y0; have c6 := pw_cell_below hSw y1; unfold o110_11_6; go_simp <;> (with_reducible rfl))
          simp only [Act.put, o110_11_6, List.setIfInBounds_toArray, List.set_cons_zero, List.set_cons_succ]
          refine tk 7 (oi := o110_11_7) (v := ?_) rfl (by kernel_rfl) (fun _ _ _ h => h) (by rfl) ?_ hH1 ?_
          rotate_left
          · (intro w hSw; (try dsimp only at hSw); have c0 := pw_cell_below hSw q0; have c1_ := pw_cell_below hSw q1; have c2 := pw_cell_below hSw q2; have c3 := pw_cell_below hSw q3; have c4 := pw_cell_below hSw q4; have c5 := pw_cell_below hSw y0; have c6 := pw_cell_below hSw y1; unfold o110_11_7; go_simp <;> (with_reducible rfl))
          simp only [Act.put, o110_11_7, List.setIfInBounds_toArray, List.set_cons_zero, List.set_cons_succ]
          refine tk 8 (oi := o110_11_8) (v := ?_) rfl (by kernel_rfl) (fun _ _ _ h => h) (by rfl) ?_ hH1 ?_
          rotate_left
          · (intro w hSw; (try dsimp only at hSw); have c0 := pw_cell_below hSw q0; have c1_ := pw_cell_below hSw q1; have c2 := pw_cell_below hSw q2; have c3 := pw_cell_below hSw q3; have c4 := pw_cell_below hSw q4; have c5 := pw_cell_below hSw y0; have c6 := pw_cell_below hSw y1; unfold o110_11_8; go_simp <;> (with_reducible rfl))
          simp only [Act.put, o110_11_8, List.setIfInBounds_toArray, List.set_cons_zero, List.set_cons_succ]
          refine wpAnyH_done (by kernel_rfl) ?_ _
          have HB0 := Aside0.mk (below_step HB4.out HB11.out)
          go_wp2
          exact HQ'.out _ _ (own_weaken HO12.out HB0.out.size) (below_step HB0.out HB12.out)
end Go.Proofs.YtflolfbkpjgjaaaGreatDoor
end
section
namespace Go.Proofs.YtflolfbkpjgjaaaGreatDoor
open Go.RowKit Go.Proofs.YtflolfbkpjgjaaaGreatDoorW.PrintWords
open Go.Proofs.YtflolfbkpjgjaaaGreatDoorW.PrintMore
set_option maxHeartbeats 4000000 in
set_option maxRecDepth 100000 in
theorem mul64_calls (n : Nat) (hn : n ≤ 8) (w : World) : Calls Tryz.prog 173 #[.int .u64 1, .int .u64 (n : Int)] w fun e w' => e = .returned (.tuple #[.int .u64 0, .int .u64 (n : Int)]) ∧ w = w' := by
  have h : n = 0 ∨ n = 1 ∨ n = 2 ∨ n = 3 ∨ n = 4 ∨ n = 5 ∨ n = 6 ∨ n = 7 ∨ n = 8 := by omega
  rcases h with rfl | rfl | rfl | rfl | rfl | rfl | rfl | rfl | rfl
  all_goals
    go_enter Tryz.func173, Tryz.ntmps173
    go_wp2
    go_ret2
    exact ⟨rfl, rfl⟩
set_option maxHeartbeats 4000000 in
set_option maxRecDepth 100000 in
theorem mul_calls (n : Nat) (hn : n ≤ 8) (w : World) : Calls Tryz.prog 157 #[.int .u64 1, .int .u64 (n : Int)] w fun e w' => e = .returned (.tuple #[.int .u64 0, .int .u64 (n : Int)]) ∧ w = w' := by
  have hm := mul64_calls n hn
  go_enter Tryz.func157, Tryz.ntmps157
  go_wp2_with (go_at_call 173; refine (hm _).mono ?_; rintro e w' ⟨rfl, rfl⟩)
  go_ret2
  exact ⟨rfl, rfl⟩
end Go.Proofs.YtflolfbkpjgjaaaGreatDoor
end
section
namespace Go.Proofs.YtflolfbkpjgjaaaGreatDoor
open Go.RowKit Go.Proofs.YtflolfbkpjgjaaaGreatDoorW.PrintWords
open Go.Proofs.YtflolfbkpjgjaaaGreatDoorW.PrintMore
def o109_9_0 : Oper := { dst := some 38, op := Op.move (Operand.tmp 8), type := 3, pos := "slices.go:528", after := #[], guard := none }
def o109_9_1 : Oper := { dst := some 39, op := Op.move (Operand.tmp 7), type := 26, pos := "slices.go:528", after := #[], guard := none }
def o109_9_2 : Oper := { dst := some 40, op := Op.move (Operand.tmp 8), type := 3, pos := "slices.go:528", after := #[], guard := none }
def o109_9_3 : Oper := { dst := some 41, op := Op.slice 26 (Operand.tmp 39) (some (Operand.tmp 40)) none none, type := 26, pos := "slices.go:528", after := #[{ on := 1, ground := Ground.data }, { on := 2, ground := Ground.data }], guard := none }
def o109_9_4 : Oper := { dst := some 42, op := Op.move (Operand.tmp 7), type := 26, pos := "slices.go:528", after := #[], guard := none }
def o109_9_5 : Oper := { dst := some 43, op := Op.move (Operand.tmp 8), type := 3, pos := "slices.go:528", after := #[], guard := none }
def o109_9_6 : Oper := { dst := some 44, op := Op.slice 26 (Operand.tmp 42) none (some (Operand.tmp 43)) none, type := 26, pos := "slices.go:528", after := #[{ on := 4, ground := Ground.data }, { on := 5, ground := Ground.data }], guard := none }
def o109_9_7 : Oper := { dst := some 45, op := Op.call { callee := Callee.builtin Builtin.copy, args := #[Operand.tmp 41, Operand.tmp 44], argTypes := #[26, 26] }, type := 3, pos := "slices.go:528", after := #[{ on := 3, ground := Ground.data }, { on := 6, ground := Ground.data }], guard := none }
def o109_9_8 : Oper := { dst := some 46, op := Op.binOp BinOp.add 3 (Operand.tmp 38) (Operand.tmp 45) 3, type := 3, pos := "slices.go:528", after := #[{ on := 0, ground := Ground.data }, { on := 7, ground := Ground.data }], guard := none }
def o109_9_9 : Oper := { dst := some 8, op := Op.assign (Operand.tmp 46), type := 3, pos := "slices.go:528", after := #[{ on := 8, ground := Ground.data }, { on := 7, ground := Ground.chain }, { on := 0, ground := Ground.phase }, { on := 1, ground := Ground.phase }, { on := 2, ground := Ground.phase }, { on := 3, ground := Ground.phase }, { on := 4, ground := Ground.phase }, { on := 5, ground := Ground.phase }, { on := 6, ground := Ground.phase }, { on := 7, ground := Ground.phase }, { on := 8, ground := Ground.phase }], guard := none }
def filL (n : Nat) (x : Int) (k : Nat) : List Value := nums .i64 (List.replicate k x ++ List.replicate (n - k) 0)
theorem filL_len (n : Nat) (x : Int) (k : Nat) (h : k ≤ n) : (filL n x k).length = n := by simp [filL, nums]; omega
theorem filL_splice (n : Nat) (x : Int) (k m : Nat) (h : k + m ≤ n) : splice (filL n x k) k (List.replicate m (.int .i64 x)) = filL n x (k + m) := by
  unfold splice filL nums
  apply List.ext_getElem?
  intro j
  simp only [List.map_append, List.map_replicate, List.getElem?_append, List.getElem?_take, List.getElem?_drop, List.getElem?_replicate, List.length_replicate, List.length_take, List.length_append]
  rw [show min k (k + (n - k)) = k by omega]
  repeat' split
  all_goals first | rfl | omega
theorem filL_at (n : Nat) (x : Int) (k j : Nat) (h : j < k) : (filL n x k)[j]? = some (.int .i64 x) := by
  unfold filL nums
  rw [List.map_append, List.getElem?_append_left (by simp; exact h), List.map_replicate, List.getElem?_replicate, if_pos h]
theorem filL_made (n : Nat) (x : Int) : (madeCells #[.int .i64 0] n) = (filL n x 0).toArray := by
  unfold filL nums
  apply Array.ext'
  apply List.ext_getElem
  · simp [madeCells]
  · intro i h1 h2
    simp [madeCells, Nat.mod_one]
set_option maxHeartbeats 4000000 in
set_option maxRecDepth 100000 in
theorem repeat_calls (ad : Addr) (c : Nat) (x : Int) (n : Nat) (w : World) (hA : w.cell? ad = some (.int .i64 x)) (h1 : 1 ≤ n) (h8 : n ≤ 8) :
    Calls Tryz.prog 109 #[.slice (some ad) 1 c, .int .i64 (n : Int)] w fun e w' => ∃ g, e = .returned (.slice (some ⟨g, 0, none⟩) n n) ∧ w'.heap[g]? = some (.cells (filL n x n).toArray 3 (0, 0)) ∧ w.heap.size ≤ g ∧ Below w.heap.size w w' := by
  generalize hPost : (fun (e : Ending) (w' : World) => ∃ g, e = .returned (.slice (some ⟨g, 0, none⟩) n n) ∧ w'.heap[g]? = some (.cells (filL n x n).toArray 3 (0, 0)) ∧ w.heap.size ≤ g ∧ Below w.heap.size w w') = Post
  have HQ : Aside0 (∀ g w', w'.heap[g]? = some (.cells (filL n x n).toArray 3 (0, 0)) → w.heap.size ≤ g → Below w.heap.size w w' → Post (.returned (.slice (some ⟨g, 0, none⟩) n n)) w') := ⟨fun g w' a b d => hPost ▸ ⟨g, rfl, a, b, d⟩⟩
  clear hPost
  have hm := mul_calls n h8
  have hmk := print_make (P := Tryz.prog) 26 3 .i64 8 Tryz.underlying26 info3 (by omega) n (by omega)
  have HA := Aside0.mk hA
  have HG0 : Aside0 ((w.alloc (.cells (madeCells #[.int .i64 0] n) 3)).heap[w.heap.size]? = some (.cells (filL n x 0).toArray 3 (0, 0))) := ⟨by rw [← filL_made n x]; exact alloc_at w _⟩
  have HB0 : Aside0 (Below w.heap.size w (w.alloc (.cells (madeCells #[.int .i64 0] n) 3))) := ⟨below_alloc (Below.refl _ _) _⟩
  have HN : Aside0 ([Value.int .i64 x].length = Nat.min 1 n) := ⟨(Nat.min_eq_left h1).symm⟩
  have HF : Aside0 (splice (filL n x 0) 0 [.int .i64 x] = filL n x 1) := ⟨filL_splice n x 0 1 (by omega)⟩
  clear hA
  have z0 : (0 : Int) ≤ (n : Int) := by omega
  have z1 : (n : Int) ≤ 9223372036854775807 := by omega
  have z2 : decide ((n : Int) < 0) = false := decide_eq_false (by omega)
  have z3 : decide ((9223372036854775807 : Int) < (n : Int)) = false := decide_eq_false (by omega)
  go_enter Tryz.func109, Tryz.ntmps109
  go_wp2_with (first | (go_at_call 157; refine (hm _).mono ?_; rintro e w' ⟨rfl, rfl⟩) | (refine wpList_copy_splice rfl (.tmp 31) (.tmp 32) 26 26 rfl 3 Tryz.underlying26 (by kernel_rfl) (some ⟨w.heap.size, 0, none⟩) (some ad) n n 1 c rfl rfl w.heap.size 0 (filL n x 0) 3 HG0.out [.int .i64 x] HN.out (fun _ => ⟨rfl, ad, rfl, fun j v hj => by (cases j with | zero => (simp only [List.getElem?_cons_zero] at hj; cases hj; exact (by rw [show ad.add 0 = ad by simp [Addr.add]]; exact pw_cell_below HB0.out HA.out)) | succ j => simp at hj)⟩) (by rw [filL_len n x 0 (by omega)]; exact h1) (by intro v hv; simp only [List.mem_singleton] at hv; subst hv; rfl) w.heap.size w HB0.out (Nat.le_refl _) ?_; intro w4 hg4 hb4; have HG4 := Aside0.mk hg4.out; have HB4 := Aside0.mk hb4; clear hg4 hb4))
  rw [HF.out] at HG4
  obtain ⟨g, hg⟩ : ∃ g, g = w.heap.size := ⟨_, rfl⟩
  rw [← hg] at HG4 ⊢
  have HGB : Aside0 (w.heap.size ≤ g) := ⟨by rw [hg]; exact Nat.le_refl _⟩
  clear hg HG0 HB0 HN HF HA hmk hm
  go_loopw [8] (fun iv wr => ∃ k : Nat, 1 ≤ k ∧ k ≤ n ∧ iv = .int .i64 k ∧ Aside0 (wr.heap[g]? = some (.cells (filL n x k).toArray 3 (0, 0))) ∧ Aside0 (Below w.heap.size w wr)) (fun iv _ => n - (intOf iv).toNat)
  case atStart => exact ⟨1, Nat.le_refl _, h1, rfl, HG4, HB4⟩
  case round =>
    clear HG4 HB4
    obtain ⟨k, hk1, hk, rfl, HG, HB⟩ := hrel
    by_cases hlt : k < n
    · have k0 : (0 : Int) ≤ (k : Int) := by omega
      have k1 : (k : Int) ≤ (n : Int) := by omega
      have k2 : (k : Int) < (n : Int) := by omega
      have k3 : n ≠ k := by omega
      obtain ⟨m, hm⟩ : ∃ m, m = min k (n - k) := ⟨_, rfl⟩
      have hm1 : 1 ≤ m := by omega
      have hm2 : k + m ≤ n := by omega
      have HN : Aside0 ((List.replicate m (Value.int .i64 x)).length = Nat.min k (n - k)) := ⟨List.length_replicate.trans hm⟩
      have HF : Aside0 (splice (filL n x k) k (List.replicate m (.int .i64 x)) = filL n x (k + m)) := ⟨filL_splice n x k _ hm2⟩
      have HC : Aside0 (∀ j, j < k → wr.cell? ⟨g, j, none⟩ = some (.int .i64 x)) := ⟨fun j hj => (blk_cell HG.out j).trans ((List.getElem?_toArray ..).trans (filL_at n x k j hj))⟩
      have HM := Aside0.mk hm
      have hw : IntKind.i64.wrap ((k : Int) + (m : Int)) = (k : Int) + (m : Int) := IntWalk.i64_in _ (by omega)
      clear hm
      go_wp2
      refine wp_region_any (by kernel_rfl) ?_
      try (change wpAny _ _ _ _ _ _ _ (World.drew _))
      refine wpAny_take (i := 0) (oi := o109_9_0) (v := ?_) rfl (by kernel_rfl) (by kernel_rfl) (by kernel_rfl) (fun _ _ _ h => h) (Or.inl ⟨by rfl, ?_⟩) ?_
      rotate_left
      · (intro w; unfold o109_9_0; go_simp <;> (with_reducible rfl))
      simp only [Act.put, o109_9_0, List.setIfInBounds_toArray, List.set_cons_zero, List.set_cons_succ]
      refine wpAny_take (i := 1) (oi := o109_9_1) (v := ?_) rfl (by kernel_rfl) (by kernel_rfl) (by kernel_rfl) (fun _ _ _ h => h) (Or.inl ⟨by rfl, ?_⟩) ?_
      rotate_left
      · (intro w; unfold o109_9_1; go_simp <;> (with_reducible rfl))
      simp only [Act.put, o109_9_1, List.setIfInBounds_toArray, List.set_cons_zero, List.set_cons_succ]
      refine wpAny_take (i := 2) (oi := o109_9_2) (v := ?_) rfl (by kernel_rfl) (by kernel_rfl) (by kernel_rfl) (fun _ _ _ h => h) (Or.inl ⟨by rfl, ?_⟩) ?_
      rotate_left
      · (intro w; unfold o109_9_2; go_simp <;> (with_reducible rfl))
      simp only [Act.put, o109_9_2, List.setIfInBounds_toArray, List.set_cons_zero, List.set_cons_succ]
      refine wpAny_take (i := 3) (oi := o109_9_3) (v := ?_) rfl (by kernel_rfl) (by kernel_rfl) (by kernel_rfl) (fun _ _ _ h => h) (Or.inl ⟨by rfl, ?_⟩) ?_
      rotate_left
      · (intro w; unfold o109_9_3; go_simp <;> (with_reducible rfl))
      simp only [Act.put, o109_9_3, List.setIfInBounds_toArray, List.set_cons_zero, List.set_cons_succ]
      refine wpAny_take (i := 4) (oi := o109_9_4) (v := ?_) rfl (by kernel_rfl) (by kernel_rfl) (by kernel_rfl) (fun _ _ _ h => h) (Or.inl ⟨by rfl, ?_⟩) ?_
      rotate_left
      · (intro w; unfold o109_9_4; go_simp <;> (with_reducible rfl))
      simp only [Act.put, o109_9_4, List.setIfInBounds_toArray, List.set_cons_zero, List.set_cons_succ]
      refine wpAny_take (i := 5) (oi := o109_9_5) (v := ?_) rfl (by kernel_rfl) (by kernel_rfl) (by kernel_rfl) (fun _ _ _ h => h) (Or.inl ⟨by rfl, ?_⟩) ?_
      rotate_left
      · (intro w; unfold o109_9_5; go_simp <;> (with_reducible rfl))
      simp only [Act.put, o109_9_5, List.setIfInBounds_toArray, List.set_cons_zero, List.set_cons_succ]
      refine wpAny_take (i := 6) (oi := o109_9_6) (v := ?_) rfl (by kernel_rfl) (by kernel_rfl) (by kernel_rfl) (fun _ _ _ h => h) (Or.inl ⟨by rfl, ?_⟩) ?_
      rotate_left
      · (intro w; unfold o109_9_6; go_simp <;> (with_reducible rfl))
      simp only [Act.put, o109_9_6, List.setIfInBounds_toArray, List.set_cons_zero, List.set_cons_succ]
      refine wpAny_ready (rs := [7]) (by kernel_rfl) (by simp) (AllReady.cons (o := o109_9_7) rfl (fun K' hK' => ?_) AllReady.nil)
      refine step_copy_splice rfl (.tmp 41) (.tmp 44) 26 26 rfl 3 Tryz.underlying26 (by kernel_rfl) (some ⟨g, k, none⟩) (some ⟨g, 0, none⟩) (n - k) (n - k) k n rfl rfl g k (filL n x k) 3 HG.out (List.replicate m (.int .i64 x)) HN.out (fun _ => ⟨rfl, ⟨g, 0, none⟩, rfl, fun j v hj => by (rw [List.getElem?_replicate] at hj; (split at hj); (rw [add_plain]; exact (HC.out j (by have := HM.out; omega)).trans hj); cases hj)⟩) (by rw [filL_len n x k hk, List.length_replicate]; exact hm2) (by intro v hv; rw [List.eq_of_mem_replicate hv]; rfl) w.heap.size w (below_drew HB.out) HGB.out ?_; intro w5 hg5 hb5; have HG5 := Aside0.mk hg5.out; have HB5 := Aside0.mk hb5; clear hg5 hb5; rw [List.length_replicate]
      refine hK' _ _ ?_
      clear hK' K'
      simp only [Act.put, o109_9_7, List.setIfInBounds_toArray, List.set_cons_zero, List.set_cons_succ]
      refine wpAny_take (i := 8) (oi := o109_9_8) (v := ?_) rfl (by kernel_rfl) (by kernel_rfl) (by kernel_rfl) (fun _ _ _ h => h) (Or.inl ⟨by rfl, ?_⟩) ?_
      rotate_left
      · (intro w; unfold o109_9_8; go_simp <;> (with_reducible rfl))
      simp only [Act.put, o109_9_8, List.setIfInBounds_toArray, List.set_cons_zero, List.set_cons_succ]
      refine wpAny_take (i := 9) (oi := o109_9_9) (v := ?_) rfl (by kernel_rfl) (by kernel_rfl) (by kernel_rfl) (fun _ _ _ h => h) (Or.inl ⟨by rfl, ?_⟩) ?_
      rotate_left
      · (intro w; unfold o109_9_9; go_simp <;> (with_reducible rfl))
      simp only [Act.put, o109_9_9, List.setIfInBounds_toArray, List.set_cons_zero, List.set_cons_succ]
      refine wpAny_done (by kernel_rfl) ?_ _
      go_wp2
      go_roundw
      case rel => exact ⟨k + m, by omega, by omega, by go_num, ⟨by rw [← HF.out]; exact HG5.out⟩, HB5⟩
      case measure => simp [intOf]; omega
    · have e : k = n := by omega
      rw [e] at HG
      go_wp2
      exact HQ.out _ _ HG.out HGB.out HB.out
end Go.Proofs.YtflolfbkpjgjaaaGreatDoor
end
section
namespace Go.Proofs.YtflolfbkpjgjaaaGreatDoor
def loL (n : Nat) (frm : Int) : List Int := (List.replicate n (-67108864)).set 0 frm
def hiL (n : Nat) (til : Int) : List Int := (List.replicate n 67108864).set 0 (til - 1)
theorem rep_getD (n j : Nat) (v : Int) : (List.replicate n v).getD j 0 = if j < n then v else 0 := by
  rw [List.getD_eq_getElem?_getD, List.getElem?_replicate]
  split <;> rfl
end Go.Proofs.YtflolfbkpjgjaaaGreatDoor
end
