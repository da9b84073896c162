/- WatchLeast holds: the law returns true for every input, and each argument reads behind the call as it read before. Conditions: the tables of the library that the row lists hold what their text lays. -/
import Derived.Test.YtflolfbkpjgjaaaGreatDoorCards
import Derived.Test.YtflolfbkpjgjaaaGreatDoorTie
import Derived.Test.YtflolfbkpjgjaaaGreatDoorY8
set_option linter.unusedVariables false
set_option linter.unusedSimpArgs false
section
namespace Go.Proofs.YtflolfbkpjgjaaaGreatDoorW.PrintWords
open Go.RowKit
namespace Kd
def bare {α : Type} (d : Kd α) : Kd α where
  sz := d.sz
  E := d.E
  K := d.K
  M := fun w base _ x cs => d.M w base (fun _ => False) x cs
  K_len := fun h => d.K_len h
  K_one := fun h => d.K_one h
  K_below := fun hb h => d.K_below hb h
  K_of_M := fun h => d.K_of_M h
  M_mono := fun _ h => h
  M_bound := fun h => h
  M_move := fun _ h => d.M_move (fun _ hk => hk.elim) h
  M_lower := fun hb h => d.M_lower hb h
section
variable {α β : Type} {d : Kd α} {d' : Kd β} {e e' : Nat} {w w1 W : World} {base b : Nat} {ok ok' okv oku : Nat → Prop} {u v : Value} {xs : List α} {ys : List β}
end
section
variable {α β : Type} {d : Kd α} {d' : Kd β} {e e' g : Nat} {w w1 W : World} {base b : Nat} {ok ok' okv oku : Nat → Prop} {u v : Value} {xs : List α} {ys : List β}
end
section
variable {P : Program} {ops : Array Oper} {rest : List Oper} {o : Oper} {a : Act} {Q : Exit → Act → World → Prop} {Kc : Act → World → Prop} {α : Type}
end
section
variable {α β : Type} {d : Kd α} {e e' g n cap : Nat} {w w1 W : World} {base : Nat} {ok ok' oki okp : Nat → Prop} {u v : Value} {xs : List α} {i : Int} {c : List Value}
end
section
variable {P : Program} {ops : Array Oper} {rest : List Oper} {o : Oper} {a : Act} {Q : Exit → Act → World → Prop} {α : Type}
end
end Kd
end Go.Proofs.YtflolfbkpjgjaaaGreatDoorW.PrintWords
end
section
namespace Go.Proofs.YtflolfbkpjgjaaaGreatDoor
theorem key_lens {r : Ros} (V : Valid r) {gate : Int} {p q : List Nat} (hp : Way (grOf r gate) p) (hq : Way (grOf r gate) q) (h : key (wtSh r) p ≤ key (wtSh r) q) : p.length ≤ q.length := by
  have O := short_ord V gate
  have l1 := hp.lex O
  have l2 := hq.lex O
  have n1 := hp.len O
  have n2 := hq.len O
  have c1 := costL_ints V p (fun x hx => (hp.own x hx).1)
  have c2 := costL_ints V q (fun x hx => (hq.own x hx).1)
  unfold key at h
  have h' := (key_cmp l1 l2).2.1 h
  rw [wsum_sh, wsum_sh] at h'
  omega
end Go.Proofs.YtflolfbkpjgjaaaGreatDoor
end
section
namespace Go.Proofs.YtflolfbkpjgjaaaGreatDoor
theorem planE_iff {r : Ros} {gate : Int} (V : Valid r) (h0 : 0 ≤ gate) (h1 : gate < r.gates) (l : List Int) : checkPlanE r gate l = 0 ↔ ∃ p, l = intsN p ∧ Plan (grOf r gate) p := by
  rw [checkPlanE_zero V h0 h1, ← planB_iff V]
  cases planB r gate l <;> simp
theorem plan_in {r : Ros} {gate : Int} {p : List Nat} (h : Plan (grOf r gate) p) : (∀ x ∈ intsN p, 0 ≤ x ∧ x < r.turns.length) ∧ diffB (intsN p) = true := by
  have hb := (planB_ints gate (fun x hx => (h.way.own x hx).1)).2 h
  refine ⟨fun x hx => ?_, ?_⟩
  · obtain ⟨i, hi, rfl⟩ := mem_ints.1 hx
    have : i < r.turns.length := (h.way.own i hi).1
    omega
  · unfold planB at hb
    simp only [Bool.and_eq_true] at hb
    exact hb.2.1
end Go.Proofs.YtflolfbkpjgjaaaGreatDoor
end
section
namespace Go.Proofs.YtflolfbkpjgjaaaGreatDoor
structure Priced (r : Ros) (gate cost : Int) (p : List Int) : Prop where
  cst : 0 ≤ cost ∧ cost ≤ 1048576
  len : p.length = r.turns.length
  bnd : ∀ x ∈ p, 0 ≤ x ∧ x ≤ 1048576
  beg : ∀ i : Nat, i < r.turns.length → (tn r (i : Int)).gate = gate → begB r (i : Int) = true → p.getD i 0 ≤ (tn r (i : Int)).cost
  fin : ∀ i : Nat, i < r.turns.length → (tn r (i : Int)).gate = gate → endB r (i : Int) = true → cost ≤ p.getD i 0
  fol : ∀ i k : Nat, i < r.turns.length → k < r.turns.length → (tn r (i : Int)).gate = gate → folB r (k : Int) (i : Int) = true → p.getD i 0 ≤ p.getD k 0 + (tn r (i : Int)).cost
theorem ownL_nil (r : Ros) (gate : Int) (q : Int → Bool) : decide ((0 : Int) < ((ownL r gate q).length : Int)) = false ↔ ∀ i : Nat, i < r.turns.length → (tn r (i : Int)).gate = gate → q (i : Int) = false := by
  rw [decide_eq_false_iff_not]
  constructor
  · intro h i hi hg
    cases hq : q (i : Int)
    · rfl
    · have hm : (i : Int) ∈ ownL r gate q := mem_ownL.2 ⟨⟨by omega, by omega⟩, hg, hq⟩
      have := List.length_pos_of_mem hm
      omega
  · intro h hl
    have hl' : 0 < (ownL r gate q).length := by omega
    obtain ⟨x, hx⟩ := List.exists_mem_of_length_pos hl'
    obtain ⟨⟨h0, h1⟩, hg, hq⟩ := mem_ownL.1 hx
    have e : ((x.toNat : Nat) : Int) = x := by omega
    have := h x.toNat (by omega) (by rw [e]; exact hg)
    rw [e, hq] at this
    simp at this
theorem checkPricesE_zero {r : Ros} {gate : Int} (V : Valid r) (h0 : 0 ≤ gate) (h1 : gate < r.gates) (cost : Int) (p : List Int) : checkPricesE r gate cost p = 0 ↔ Priced r gate cost p := by
  unfold checkPricesE
  rw [gatedE_good V h0 h1]
  have hp : pricesB r cost p = true ↔ (0 ≤ cost ∧ cost ≤ 1048576) ∧ p.length = r.turns.length ∧ ∀ x ∈ p, 0 ≤ x ∧ x ≤ 1048576 := by
    unfold pricesB
    rw [Bool.and_eq_true, inB_iff, Bool.and_eq_true, Bool.not_eq_true', bne_eq_false_iff_eq, Bool.not_eq_true', List.any_eq_false]
    refine and_congr Iff.rfl (and_congr (by omega) (forall_congr' fun x => forall_congr' fun _ => ?_))
    unfold outP
    rw [Bool.not_eq_true, Bool.not_eq_false', inB_iff]
  have hw : decide ((0 : Int) < ((ownL r gate (wrongB r gate cost p)).length : Int)) = false ↔ (∀ i : Nat, i < r.turns.length → (tn r (i : Int)).gate = gate → begB r (i : Int) = true → p.getD i 0 ≤ (tn r (i : Int)).cost) ∧
      (∀ i : Nat, i < r.turns.length → (tn r (i : Int)).gate = gate → endB r (i : Int) = true → cost ≤ p.getD i 0) ∧
      (∀ i k : Nat, i < r.turns.length → k < r.turns.length → (tn r (i : Int)).gate = gate → folB r (k : Int) (i : Int) = true → p.getD i 0 ≤ p.getD k 0 + (tn r (i : Int)).cost) := by
    rw [ownL_nil]
    have hsh : ∀ i : Nat, sh p (i : Int) = p.getD i 0 := fun _ => rfl
    have one : ∀ i : Nat, i < r.turns.length → (tn r (i : Int)).gate = gate → (wrongB r gate cost p (i : Int) = false ↔ (begB r (i : Int) = true → p.getD i 0 ≤ (tn r (i : Int)).cost) ∧ (endB r (i : Int) = true → cost ≤ p.getD i 0) ∧
        ∀ k : Nat, k < r.turns.length → folB r (k : Int) (i : Int) = true → p.getD i 0 ≤ p.getD k 0 + (tn r (i : Int)).cost) := by
      intro i hi hg
      unfold wrongB
      rw [Bool.or_eq_false_iff, Bool.or_eq_false_iff, ownL_nil, hsh, and_assoc]
      refine and_congr ?_ (and_congr ?_ ?_)
      · cases begB r (i : Int) <;> simp
      · cases endB r (i : Int) <;> simp
      · constructor
        · intro h k hk hf
          have hgk : (tn r (k : Int)).gate = gate := by
            rw [folB_iff] at hf
            rw [hf.2.1]
            exact hg
          have := h k hk hgk
          unfold chB at this
          rw [hf, Bool.true_and, decide_eq_false_iff_not, hsh, hsh] at this
          omega
        · intro h k hk hgk
          unfold chB
          cases hf : folB r (k : Int) (i : Int)
          · rfl
          · have := h k hk hf
            rw [Bool.true_and, decide_eq_false_iff_not, hsh, hsh]
            omega
    constructor
    · intro h
      exact ⟨fun i hi hg => ((one i hi hg).1 (h i hi hg)).1, fun i hi hg => ((one i hi hg).1 (h i hi hg)).2.1, fun i k hi hk hg => ((one i hi hg).1 (h i hi hg)).2.2 k hk⟩
    · rintro ⟨a, b, c⟩ i hi hg
      exact (one i hi hg).2 ⟨a i hi hg, b i hi hg, fun k hk => c i k hi hk hg⟩
  constructor
  · intro h
    rw [if_neg (by simp)] at h
    cases hb : pricesB r cost p
    · rw [hb] at h
      simp at h
    · rw [hb, if_pos rfl] at h
      cases hd : decide ((0 : Int) < ((ownL r gate (wrongB r gate cost p)).length : Int))
      · obtain ⟨a, b, c⟩ := hw.1 hd
        obtain ⟨d, e, f⟩ := hp.1 hb
        exact ⟨d, e, f, a, b, c⟩
      · rw [hd] at h
        simp at h
  · intro h
    rw [if_neg (by simp), if_pos (hp.2 ⟨h.cst, h.len, h.bnd⟩), hw.2 ⟨h.beg, h.fin, h.fol⟩]
    simp
theorem Priced.way {r : Ros} {gate cost : Int} {p : List Int} (h : Priced r gate cost p) : ∀ (l : List Nat) (i : Nat), Way (grOf r gate) (l ++ [i]) → p.getD i 0 ≤ costL r (intsN (l ++ [i])) := by
  intro l
  induction hn : l.length generalizing l with
  | zero =>
    intro i hw
    obtain rfl := List.eq_nil_of_length_eq_zero hn
    have ho := hw.own i (by simp)
    have hb := hw.beg i rfl
    have hg : (tn r (i : Int)).gate = gate := by have h2 : ((tn r (i : Int)).gate == gate) = true := ho.2; simpa using h2
    have := h.beg i ho.1 hg hb
    simpa [costL, intsN] using this
  | succ n ih =>
    intro i hw
    obtain ⟨q, j, rfl⟩ : ∃ q j, l = q ++ [j] := ⟨l.dropLast, l.getLast (by intro e; rw [e] at hn; simp at hn), (List.dropLast_concat_getLast (by intro e; rw [e] at hn; simp at hn)).symm⟩
    have hq : Way (grOf r gate) (q ++ [j]) := hw.front (by simp)
    have h1 := ih q (by simpa using hn) j hq
    have ho := hw.own i (by simp)
    have hoj := hw.own j (by simp)
    have hg : (tn r (i : Int)).gate = gate := by have h2 : ((tn r (i : Int)).gate == gate) = true := ho.2; simpa using h2
    have hf : folB r (j : Int) (i : Int) = true := hw.chn.last2
    have h2 := h.fol i j ho.1 hoj.1 hg hf
    have e : costL r (intsN (q ++ [j] ++ [i])) = costL r (intsN (q ++ [j])) + (tn r (i : Int)).cost := by
      unfold costL intsN
      simp
      omega
    rw [e]
    omega
theorem Priced.plan {r : Ros} {gate cost : Int} {p : List Int} (h : Priced r gate cost p) {q : List Nat} (hq : Plan (grOf r gate) q) : cost ≤ costL r (intsN q) := by
  obtain ⟨l, i, rfl⟩ : ∃ l i, q = l ++ [i] := ⟨q.dropLast, q.getLast hq.way.ne, (List.dropLast_concat_getLast hq.way.ne).symm⟩
  have h1 := h.way l i hq.way
  have ho := hq.way.own i (by simp)
  have hg : (tn r (i : Int)).gate = gate := by have h2 : ((tn r (i : Int)).gate == gate) = true := ho.2; simpa using h2
  have h2 := h.fin i ho.1 hg (hq.fin i (by simp))
  omega
end Go.Proofs.YtflolfbkpjgjaaaGreatDoor
end
section
namespace Go.Proofs.YtflolfbkpjgjaaaGreatDoor
theorem costL_wsum {r : Ros} {gate : Int} (V : Valid r) {q : List Nat} (h : Way (grOf r gate) q) : costL r (intsN q) = ((wsum (cst r) q : Nat) : Int) := (costL_ints V q (fun x hx => (h.own x hx).1)).1
theorem plan_cost {r : Ros} {gate : Int} (V : Valid r) {q : List Nat} (h : Way (grOf r gate) q) : 0 ≤ costL r (intsN q) ∧ costL r (intsN q) ≤ 240000 := by
  have h1 := costL_ints V q (fun x hx => (h.own x hx).1)
  have h2 := h.len (by_ord V gate)
  have h3 := h1.2
  have h4 : 10000 * q.length ≤ 240000 := by omega
  rw [h1.1]
  omega
theorem best_cost {r : Ros} {gate : Int} (V : Valid r) {P q : List Nat} (hB : Best (grOf r gate) (wtBy r) P) (hq : Plan (grOf r gate) q) : P ≠ [] ∧ costL r (intsN P) ≤ costL r (intsN q) := by
  obtain ⟨h1, h2⟩ := hB.least q hq
  exact ⟨h1, key_costs V (hB.plan.resolve_left h1).way hq.way h2⟩
theorem priced_rest {r : Ros} {gate : Int} (V : Valid r) {P : List Nat} (hB : Best (grOf r gate) (wtBy r) P) (hne : P ≠ []) : Priced r gate (costL r (intsN P)) (restL r gate (costL r (intsN P))) := by
  have hP := hB.plan.resolve_left hne
  obtain ⟨m0, m1⟩ := plan_cost V hP.way
  generalize hm : costL r (intsN P) = m at *
  have S := restP_snd (wt := cst r) (own_back r gate) m0 r.turns.length
  have E := fun (i : Nat) (hi : i < r.turns.length) (ho : (grOf r gate).own i = true) => restP_ends (wt := cst r) (own_back r gate) m0 (i := i) hi ho
  have own : ∀ i : Nat, (tn r (i : Int)).gate = gate → (grOf r gate).own i = true := fun i h => by show ((tn r (i : Int)).gate == gate) = true; simpa using h
  have cok : ∀ i : Nat, i < r.turns.length → ((cst r i : Nat) : Int) = (tn r (i : Int)).cost := fun i hi => (cst_ok V hi).1
  refine ⟨⟨m0, by omega⟩, S.len, fun x hx => ?_, fun i hi hg hb => ?_, fun i hi hg hf => ?_, fun i k hi hk hg hf => ?_⟩
  · obtain ⟨i, hi, rfl⟩ := List.getElem_of_mem hx
    have hl : i < r.turns.length := by have := S.len; unfold restL at hi; rw [this] at hi; exact hi
    have h : 0 ≤ (restL r gate m).getD i 0 ∧ (restL r gate m).getD i 0 ≤ m := S.le i hl
    rw [List.getD_eq_getElem?_getD, List.getElem?_eq_getElem hi] at h
    simp only [Option.getD_some] at h
    omega
  · have h := (E i hi (own i hg)).2.1 [i] (Way.one hi (own i hg) hb) rfl
    rw [wsum_one] at h
    rw [← cok i hi]
    exact h
  · rcases (E i hi (own i hg)).2.2 with h | ⟨w, w1, w2, w3⟩
    · exact Int.le_of_eq h.symm
    · have hpl : Plan (grOf r gate) w := ⟨w1, fun x hx => by rw [w2] at hx; cases hx; exact hf⟩
      have h2 := (best_cost V hB hpl).2
      rw [hm, costL_wsum V w1] at h2
      exact Int.le_trans h2 w3
  · have hgk : (tn r (k : Int)).gate = gate := by rw [folB_iff] at hf; rw [hf.2.1]; exact hg
    have hi3 := E i hi (own i hg)
    have c0 := cok i hi
    show (restP (grOf r gate) (cst r) m r.turns.length).getD i 0 ≤ (restP (grOf r gate) (cst r) m r.turns.length).getD k 0 + (tn r (i : Int)).cost
    have hi1 : (restP (grOf r gate) (cst r) m r.turns.length).getD i 0 ≤ m := hi3.1
    rcases (E k hk (own k hgk)).2.2 with h | ⟨w, w1, w2, w3⟩
    · have h' : (restP (grOf r gate) (cst r) m r.turns.length).getD k 0 = m := h
      omega
    · have w3' : (wsum (cst r) w : Int) ≤ (restP (grOf r gate) (cst r) m r.turns.length).getD k 0 := w3
      obtain ⟨q, hq⟩ : ∃ q, w = q ++ [k] := by
        refine ⟨w.dropLast, ?_⟩
        have h5 := List.dropLast_concat_getLast w1.ne
        rw [List.getLast?_eq_some_getLast w1.ne] at w2
        rw [← Option.some.inj w2]
        exact h5.symm
      subst hq
      by_cases hin : i ∈ q ++ [k]
      · obtain ⟨a, b, e⟩ := List.append_of_mem hin
        have hw : Way (grOf r gate) ((a ++ [i]) ++ b) := by rw [List.append_assoc, List.singleton_append, ← e]; exact w1
        have h6 := hi3.2.1 (a ++ [i]) (hw.front (by simp)) (by simp)
        have h7 : (restP (grOf r gate) (cst r) m r.turns.length).getD i 0 ≤ ((wsum (cst r) (a ++ [i]) : Nat) : Int) := h6
        have h8 : wsum (cst r) (q ++ [k]) = wsum (cst r) (a ++ [i]) + wsum (cst r) b := by
          rw [e, ← wsum_append, List.append_assoc, List.singleton_append]
        omega
      · have hw := w1.snoc (j := i) hi (own i hg) hf hin
        have h6 := hi3.2.1 _ hw (by simp)
        have h7 : (restP (grOf r gate) (cst r) m r.turns.length).getD i 0 ≤ ((wsum (cst r) (q ++ [k] ++ [i]) : Nat) : Int) := h6
        rw [wsum_append, wsum_one] at h7
        omega
structure Leasts (r : Ros) (gate : Int) (l : List Int) (cost : Int) (prices : List Int) : Prop where
  same : decide (fewR r gate ≠ []) = decide (planR r gate ≠ [])
  none : planR r gate = [] → checkPlanE r gate l ≠ 0
  prs : planR r gate ≠ [] → checkPricesE r gate (costL r (intsN (planR r gate))) (restL r gate (costL r (intsN (planR r gate)))) = 0
  few : planR r gate ≠ [] → checkPlanE r gate (intsN (fewR r gate)) = 0
  more : planR r gate ≠ [] → costL r (intsN (planR r gate)) ≤ costL r (intsN (fewR r gate))
  lens : planR r gate ≠ [] → (fewR r gate).length ≤ (planR r gate).length
  most : planR r gate ≠ [] → checkPricesE r gate cost prices = 0 → cost ≤ costL r (intsN (planR r gate))
  paid : checkPlanE r gate l = 0 → ((∀ x ∈ l, 0 ≤ x ∧ x < r.turns.length) ∧ diffB l = true) ∧ costL r (intsN (planR r gate)) ≤ costL r l ∧ (fewR r gate).length ≤ l.length
theorem least_law {r : Ros} {gate : Int} (V : Valid r) (h0 : 0 ≤ gate) (h1 : gate < r.gates) (l : List Int) (cost : Int) (prices : List Int) : Leasts r gate l cost prices := by
  have B := planR_best V gate
  have F := fewR_best V gate
  have hs : fewR r gate ≠ [] ↔ planR r gate ≠ [] := (best_ne F).trans (best_ne B).symm
  refine ⟨decide_eq_decide.2 hs, fun h hc => ?_, fun h => ?_, fun h => ?_, fun h => ?_, fun h => ?_, fun h hc => ?_, fun h => ?_⟩
  · rw [planE_iff V h0 h1] at hc
    obtain ⟨p, _, hp⟩ := hc
    exact (best_ne B).2 ⟨p, hp⟩ h
  · exact (checkPricesE_zero V h0 h1 _ _).2 (priced_rest V B h)
  · exact (planE_iff V h0 h1 _).2 ⟨_, rfl, F.plan.resolve_left (hs.2 h)⟩
  · exact (best_cost V B (F.plan.resolve_left (hs.2 h))).2
  · have hp := B.plan.resolve_left h
    exact key_lens V (F.plan.resolve_left (hs.2 h)).way hp.way (F.least _ hp).2
  · exact ((checkPricesE_zero V h0 h1 _ _).1 hc).plan (B.plan.resolve_left h)
  · rw [planE_iff V h0 h1] at h
    obtain ⟨p, rfl, hp⟩ := h
    have hf := F.plan.resolve_left (F.least p hp).1
    refine ⟨plan_in hp, (best_cost V B hp).2, ?_⟩
    have := key_lens V hf.way hp.way (F.least _ hp).2
    simpa [intsN] using this
end Go.Proofs.YtflolfbkpjgjaaaGreatDoor
end
section
namespace Go.Proofs.YtflolfbkpjgjaaaGreatDoor
open Go.RowKit Go.Proofs.YtflolfbkpjgjaaaGreatDoorW.PrintWords
open Go.Proofs.YtflolfbkpjgjaaaGreatDoorW.PrintMore
theorem pricesOf_none {r : Ros} {gate E : Int} {L : List Int} (V : Valid r) (hne : planR r gate = []) (hg : (gatedE r gate != 0) = false) (h : PricesOf r gate E L) : E = 4 := by
  rcases h with h | h | h
  · rw [hg] at h
    exact absurd h.1 (by simp)
  · exact h.2.2.1
  · obtain ⟨_, _, Q, _, h1, h2, _, _⟩ := h
    obtain rfl := Best.same (by_ord V gate) h2 (planR_best V gate)
    exact absurd hne h1
theorem prsN_calls {v : Value} {r : Ros} {gate : Int} {w : World} (V : Valid r) (h0 : 0 ≤ gate) (h1 : gate < r.gates) (hne : planR r gate = []) (hv : RosAt w v r) :
    Calls Tryz.prog 23 #[v, .int .i64 gate] w fun e w' => ∃ lv, e = .returned (.tuple #[lv, .int .i64 4]) ∧ Below w.heap.size w w' := by
  have hg : (gatedE r gate != 0) = false := by rw [gatedE_good V h0 h1]; rfl
  refine (prices_calls v r gate w hv).mono ?_
  rintro e w' ⟨lv, E', L, rfl, ho, hb, hp⟩
  obtain rfl := pricesOf_none V hne hg hp
  exact ⟨lv, rfl, hb⟩
theorem prsP_calls {v : Value} {r : Ros} {gate : Int} {w : World} (V : Valid r) (h0 : 0 ≤ gate) (h1 : gate < r.gates) (hne : planR r gate ≠ []) (hv : RosAt w v r) :
    Calls Tryz.prog 23 #[v, .int .i64 gate] w fun e w' => ∃ lv, e = .returned (.tuple #[lv, .int .i64 0]) ∧ IntsAt w' lv (restL r gate (costL r (intsN (planR r gate)))) ∧ Below w.heap.size w w' := by
  have hg : (gatedE r gate != 0) = false := by rw [gatedE_good V h0 h1]; rfl
  refine (prices_calls v r gate w hv).mono ?_
  rintro e w' ⟨lv, E', L, rfl, ho, hb, hp⟩
  obtain ⟨rfl, rfl⟩ := pricesOf_plan V (planR_best V gate) hne hg hp
  exact ⟨lv, rfl, intsAt_of_own ho, hb⟩
set_option maxHeartbeats 60000000 in
set_option maxRecDepth 100000 in
theorem least_calls (v lv mv : Value) (r : Ros) (gate : Int) (l : List Int) (cost : Int) (prices : List Int) (w : World) (hT : TabP w) (hv : RosAt w v r) (hl : IntsAt w lv l) (hm : IntsAt w mv prices) :
    Calls Tryz.prog 11 #[v, .int .i64 gate, lv, .int .i64 cost, mv] w fun e w' => e = .returned (.bool true) ∧ Below w.heap.size w w' := by
  have HT := Aside0.mk hT
  obtain ⟨A, c, T, d, rfl, h1, h2, h3, h4⟩ := hv
  have hR : Aside0 (RosAt w (.agg #[.int .i64 r.gates, .int .i64 r.frm, .int .i64 r.til, .slice A r.ahead.length c, .slice T r.turns.length d]) r) := ⟨⟨A, c, T, d, rfl, h1, h2, h3, h4⟩⟩
  obtain ⟨A1, c1, rfl, i1, i2⟩ := hl
  have HL : Aside0 (IntsAt w (.slice A1 l.length c1) l) := ⟨⟨A1, c1, rfl, i1, i2⟩⟩
  clear i1 i2
  obtain ⟨A3, c3, rfl, i1, i2⟩ := hm
  have HM : Aside0 (IntsAt w (.slice A3 prices.length c3) prices) := ⟨⟨A3, c3, rfl, i1, i2⟩⟩
  clear i1 i2
  clear hT h1 h2 h3 h4
  have hval := fun W (h : RosAt W (.agg #[.int .i64 r.gates, .int .i64 r.frm, .int .i64 r.til, .slice A r.ahead.length c, .slice T r.turns.length d]) r) => valid_calls (.agg #[.int .i64 r.gates, .int .i64 r.frm, .int .i64 r.til, .slice A r.ahead.length c, .slice T r.turns.length d]) r W h
  have hfew := fun W (h : RosAt W (.agg #[.int .i64 r.gates, .int .i64 r.frm, .int .i64 r.til, .slice A r.ahead.length c, .slice T r.turns.length d]) r) (h2 : IntsAt W (.slice A1 l.length c1) l) (h3 : IntsAt W (.slice A3 prices.length c3) prices) => few2_calls (.agg #[.int .i64 r.gates, .int .i64 r.frm, .int .i64 r.til, .slice A r.ahead.length c, .slice T r.turns.length d]) _ _ r l prices W h h2 h3
  by_cases hg : checkB r = true ∧ fewB r [l, prices] = true ∧ 0 ≤ gate ∧ gate < r.gates
  · obtain ⟨g1, g2, g3, g4⟩ := hg
    simp only [g1] at hval
    simp only [g2] at hfew
    have V := (checkB_iff r).1 g1
    have d1 : decide (gate < 0) = false := decide_eq_false (by omega)
    have d2 : decide (r.gates ≤ gate) = false := decide_eq_false (by omega)
    have HE := least_law V g3 g4 l cost prices
    have hplan := fun W (h : RosAt W (.agg #[.int .i64 r.gates, .int .i64 r.frm, .int .i64 r.til, .slice A r.ahead.length c, .slice T r.turns.length d]) r) => plan0_calls V g3 g4 h
    have hfewest := fun W (h : RosAt W (.agg #[.int .i64 r.gates, .int .i64 r.frm, .int .i64 r.til, .slice A r.ahead.length c, .slice T r.turns.length d]) r) => few0_calls V g3 g4 h
    have hn := fun W (h : RosAt W (.agg #[.int .i64 r.gates, .int .i64 r.frm, .int .i64 r.til, .slice A r.ahead.length c, .slice T r.turns.length d]) r) (h2 : IntsAt W (.slice A1 l.length c1) l) => checkPlan_calls (.agg #[.int .i64 r.gates, .int .i64 r.frm, .int .i64 r.til, .slice A r.ahead.length c, .slice T r.turns.length d]) (.slice A1 l.length c1) r gate l W h h2
    obtain ⟨e1, e2, e3, e4, e5, e6, e7, e8⟩ := HE
    simp only [e1] at hfewest
    by_cases hp : planR r gate = []
    · have hprs := fun W (h : RosAt W (.agg #[.int .i64 r.gates, .int .i64 r.frm, .int .i64 r.til, .slice A r.ahead.length c, .slice T r.turns.length d]) r) => prsN_calls V g3 g4 hp h
      have ha0 : (checkPlanE r gate l != 0) = true := by simpa using e2 hp
      have hd : decide (planR r gate ≠ []) = false := decide_eq_false (fun e => e hp)
      simp only [hd] at hplan hfewest
      clear e1 e2 e3 e4 e5 e6 e7 e8 V g1 g2 g3 g4 hp hd
      generalize checkPlanE r gate l = y at *
      generalize planR r gate = P at *
      generalize fewR r gate = F at *
      go_enter Tryz.func11, Tryz.ntmps11
      go_wp2_with (first | ((with_reducible refine gate_dst (N := 5) rfl ?_); refine box_event ?hg (N := 5) ?hd (cs := (rosC r A c T d)) (t := 25) ?hr ?_; (case hd => rfl); (case hg => rfl); (case hr => first | (go_simp; done) | (go_simp; rfl)); intro g hg_ wb hbox_ hb_; have BK := Aside0.mk hbox_; have HB := Aside0.mk hb_; obtain ⟨q0, q1, q2, q3, q4⟩ := rosC_cells BK.out; clear hbox_ hb_ hg_) | (go_at_call 17; refine (sane_calls _ (HT.out.below HB.out)).mono ?_; rintro e wb ⟨rfl, hb_⟩; replace HB := Aside0.mk (below_step HB.out hb_); replace BK := Aside0.mk (blk_below BK.out hb_); (try (replace LP := Aside0.mk (LP.out.below hb_))); (try (replace LF := Aside0.mk (LF.out.below hb_))); (try (replace LQ := Aside0.mk (LQ.out.below hb_))); clear q0 q1 q2 q3 q4; obtain ⟨q0, q1, q2, q3, q4⟩ := rosC_cells BK.out; clear hb_) | (go_at_call 34; (with_reducible refine (hval _ (hR.out.below HB.out)).mono ?_); rintro e wb ⟨rfl, hb_⟩; replace HB := Aside0.mk (below_step HB.out hb_); replace BK := Aside0.mk (blk_below BK.out hb_); (try (replace LP := Aside0.mk (LP.out.below hb_))); (try (replace LF := Aside0.mk (LF.out.below hb_))); (try (replace LQ := Aside0.mk (LQ.out.below hb_))); clear q0 q1 q2 q3 q4; obtain ⟨q0, q1, q2, q3, q4⟩ := rosC_cells BK.out; clear hb_) | (go_at_call 18; (with_reducible refine (hfew _ (hR.out.below HB.out) (HL.out.below HB.out) (HM.out.below HB.out)).mono ?_); rintro e wb ⟨rfl, hb_⟩; replace hb_ := below_al hb_; replace HB := Aside0.mk (below_step HB.out hb_); replace BK := Aside0.mk (blk_below BK.out hb_); (try (replace LP := Aside0.mk (LP.out.below hb_))); (try (replace LF := Aside0.mk (LF.out.below hb_))); (try (replace LQ := Aside0.mk (LQ.out.below hb_))); clear q0 q1 q2 q3 q4; obtain ⟨q0, q1, q2, q3, q4⟩ := rosC_cells BK.out; clear hb_) | (go_at_call 35; (with_reducible refine (hplan _ (hR.out.below HB.out)).mono ?_); rintro e wb ⟨pv, rfl, hl_, hb_⟩; replace HB := Aside0.mk (below_step HB.out hb_); replace BK := Aside0.mk (blk_below BK.out hb_); (try (replace LP := Aside0.mk (LP.out.below hb_))); (try (replace LF := Aside0.mk (LF.out.below hb_))); (try (replace LQ := Aside0.mk (LQ.out.below hb_))); clear q0 q1 q2 q3 q4; obtain ⟨q0, q1, q2, q3, q4⟩ := rosC_cells BK.out; obtain ⟨ALP, cLP, rfl, z1, z2⟩ := hl_; have LP : Aside0 (IntsAt wb (.slice ALP _ cLP) _) := ⟨⟨ALP, cLP, rfl, z1, z2⟩⟩; clear z1 z2; clear hb_) | (go_at_call 60; (with_reducible refine (hfewest _ (hR.out.below HB.out)).mono ?_); rintro e wb ⟨fv, rfl, hl_, hb_⟩; replace HB := Aside0.mk (below_step HB.out hb_); replace BK := Aside0.mk (blk_below BK.out hb_); (try (replace LP := Aside0.mk (LP.out.below hb_))); (try (replace LF := Aside0.mk (LF.out.below hb_))); (try (replace LQ := Aside0.mk (LQ.out.below hb_))); clear q0 q1 q2 q3 q4; obtain ⟨q0, q1, q2, q3, q4⟩ := rosC_cells BK.out; obtain ⟨ALF, cLF, rfl, z1, z2⟩ := hl_; have LF : Aside0 (IntsAt wb (.slice ALF _ cLF) _) := ⟨⟨ALF, cLF, rfl, z1, z2⟩⟩; clear z1 z2; clear hb_) | (go_at_call 23; (with_reducible refine (hprs _ (hR.out.below HB.out)).mono ?_); rintro e wb ⟨qv, rfl, hb_⟩; replace HB := Aside0.mk (below_step HB.out hb_); replace BK := Aside0.mk (blk_below BK.out hb_); (try (replace LP := Aside0.mk (LP.out.below hb_))); (try (replace LF := Aside0.mk (LF.out.below hb_))); (try (replace LQ := Aside0.mk (LQ.out.below hb_))); clear q0 q1 q2 q3 q4; obtain ⟨q0, q1, q2, q3, q4⟩ := rosC_cells BK.out; clear hb_) | (go_at_call 36; (with_reducible refine (hn _ (hR.out.below HB.out) (HL.out.below HB.out)).mono ?_); rintro e wb ⟨rfl, hb_⟩; replace HB := Aside0.mk (below_step HB.out hb_); replace BK := Aside0.mk (blk_below BK.out hb_); (try (replace LP := Aside0.mk (LP.out.below hb_))); (try (replace LF := Aside0.mk (LF.out.below hb_))); (try (replace LQ := Aside0.mk (LQ.out.below hb_))); clear q0 q1 q2 q3 q4; obtain ⟨q0, q1, q2, q3, q4⟩ := rosC_cells BK.out; clear hb_))
      all_goals first
        | (go_ret; exact ⟨rfl, HB.out⟩)
        | (go_ret; exact ⟨by rw [← ha0]; rfl, HB.out⟩)
    · have hprs := fun W (h : RosAt W (.agg #[.int .i64 r.gates, .int .i64 r.frm, .int .i64 r.til, .slice A r.ahead.length c, .slice T r.turns.length d]) r) => prsP_calls V g3 g4 hp h
      have hd : decide (planR r gate ≠ []) = true := decide_eq_true hp
      have hnf : fewR r gate ≠ [] := by have := e1; rw [hd] at this; exact of_decide_eq_true this
      simp only [hd] at hplan hfewest
      have p1 := plan_in ((planR_best V gate).plan.resolve_left hp)
      have p2 := plan_in ((fewR_best V gate).plan.resolve_left hnf)
      have hcx := fun W x (h : RosAt W (.agg #[.int .i64 r.gates, .int .i64 r.frm, .int .i64 r.til, .slice A r.ahead.length c, .slice T r.turns.length d]) r) (h2 : IntsAt W x (intsN (planR r gate))) => cost0_calls V p1.1 p1.2 h h2
      have hcy := fun W x (h : RosAt W (.agg #[.int .i64 r.gates, .int .i64 r.frm, .int .i64 r.til, .slice A r.ahead.length c, .slice T r.turns.length d]) r) (h2 : IntsAt W x (intsN (fewR r gate))) => cost0_calls V p2.1 p2.2 h h2
      have hcp := fun W x (h : RosAt W (.agg #[.int .i64 r.gates, .int .i64 r.frm, .int .i64 r.til, .slice A r.ahead.length c, .slice T r.turns.length d]) r) (h2 : IntsAt W x (restL r gate (costL r (intsN (planR r gate))))) => checkPrices_calls (.agg #[.int .i64 r.gates, .int .i64 r.frm, .int .i64 r.til, .slice A r.ahead.length c, .slice T r.turns.length d]) x r gate (costL r (intsN (planR r gate))) _ W h h2
      simp only [e3 hp] at hcp
      have hcm := fun W (h : RosAt W (.agg #[.int .i64 r.gates, .int .i64 r.frm, .int .i64 r.til, .slice A r.ahead.length c, .slice T r.turns.length d]) r) (h2 : IntsAt W (.slice A3 prices.length c3) prices) => checkPrices_calls (.agg #[.int .i64 r.gates, .int .i64 r.frm, .int .i64 r.til, .slice A r.ahead.length c, .slice T r.turns.length d]) (.slice A3 prices.length c3) r gate cost prices W h h2
      have hcf := fun W x (h : RosAt W (.agg #[.int .i64 r.gates, .int .i64 r.frm, .int .i64 r.til, .slice A r.ahead.length c, .slice T r.turns.length d]) r) (h2 : IntsAt W x (intsN (fewR r gate))) => checkPlan_calls (.agg #[.int .i64 r.gates, .int .i64 r.frm, .int .i64 r.til, .slice A r.ahead.length c, .slice T r.turns.length d]) x r gate (intsN (fewR r gate)) W h h2
      simp only [e4 hp] at hcf
      have f5 := decide_eq_false (Int.not_lt.2 (e5 hp))
      have f6 : decide (((intsN (planR r gate)).length : Int) < ((intsN (fewR r gate)).length : Int)) = false := decide_eq_false (by have := e6 hp; simp [intsN]; omega)
      have f7 : checkPricesE r gate cost prices ≠ 0 ∨ cost ≤ costL r (intsN (planR r gate)) := Decidable.not_or_of_imp (e7 hp)
      by_cases hy : checkPlanE r gate l = 0
      · obtain ⟨⟨i1, i2⟩, i3, i4⟩ := e8 hy
        have hcl := fun W (h : RosAt W (.agg #[.int .i64 r.gates, .int .i64 r.frm, .int .i64 r.til, .slice A r.ahead.length c, .slice T r.turns.length d]) r) (h3 : IntsAt W (.slice A1 l.length c1) l) => cost0_calls V i1 i2 h h3
        have f8 : decide (costL r (intsN (planR r gate)) ≤ costL r l) = true := decide_eq_true i3
        have f9 : decide (((intsN (fewR r gate)).length : Int) ≤ (l.length : Int)) = true := decide_eq_true (by simp [intsN]; omega)
        have f9' : decide ((intsN (fewR r gate)).length ≤ l.length) = true := decide_eq_true (by simp [intsN]; omega)
        simp only [hy] at hn
        clear e1 e2 e3 e4 e5 e6 e7 e8 V g1 g2 g3 g4 hp hd hnf p1 p2 i1 i2 i3 i4 hy
        generalize restL r gate (costL r (intsN (planR r gate))) = RL at *
        generalize costL r (intsN (planR r gate)) = cp at *
        generalize costL r (intsN (fewR r gate)) = cf at *
        generalize checkPricesE r gate cost prices = x at *
        go_enter Tryz.func11, Tryz.ntmps11
        go_wp2_with (first | ((with_reducible refine gate_dst (N := 5) rfl ?_); refine box_event ?hg (N := 5) ?hd (cs := (rosC r A c T d)) (t := 25) ?hr ?_; (case hd => rfl); (case hg => rfl); (case hr => first | (go_simp; done) | (go_simp; rfl)); intro g hg_ wb hbox_ hb_; have BK := Aside0.mk hbox_; have HB := Aside0.mk hb_; obtain ⟨q0, q1, q2, q3, q4⟩ := rosC_cells BK.out; clear hbox_ hb_ hg_) | (go_at_call 17; refine (sane_calls _ (HT.out.below HB.out)).mono ?_; rintro e wb ⟨rfl, hb_⟩; replace HB := Aside0.mk (below_step HB.out hb_); replace BK := Aside0.mk (blk_below BK.out hb_); (try (replace LP := Aside0.mk (LP.out.below hb_))); (try (replace LF := Aside0.mk (LF.out.below hb_))); (try (replace LQ := Aside0.mk (LQ.out.below hb_))); clear q0 q1 q2 q3 q4; obtain ⟨q0, q1, q2, q3, q4⟩ := rosC_cells BK.out; clear hb_) | (go_at_call 34; (with_reducible refine (hval _ (hR.out.below HB.out)).mono ?_); rintro e wb ⟨rfl, hb_⟩; replace HB := Aside0.mk (below_step HB.out hb_); replace BK := Aside0.mk (blk_below BK.out hb_); (try (replace LP := Aside0.mk (LP.out.below hb_))); (try (replace LF := Aside0.mk (LF.out.below hb_))); (try (replace LQ := Aside0.mk (LQ.out.below hb_))); clear q0 q1 q2 q3 q4; obtain ⟨q0, q1, q2, q3, q4⟩ := rosC_cells BK.out; clear hb_) | (go_at_call 18; (with_reducible refine (hfew _ (hR.out.below HB.out) (HL.out.below HB.out) (HM.out.below HB.out)).mono ?_); rintro e wb ⟨rfl, hb_⟩; replace hb_ := below_al hb_; replace HB := Aside0.mk (below_step HB.out hb_); replace BK := Aside0.mk (blk_below BK.out hb_); (try (replace LP := Aside0.mk (LP.out.below hb_))); (try (replace LF := Aside0.mk (LF.out.below hb_))); (try (replace LQ := Aside0.mk (LQ.out.below hb_))); clear q0 q1 q2 q3 q4; obtain ⟨q0, q1, q2, q3, q4⟩ := rosC_cells BK.out; clear hb_) | (go_at_call 35; (with_reducible refine (hplan _ (hR.out.below HB.out)).mono ?_); rintro e wb ⟨pv, rfl, hl_, hb_⟩; replace HB := Aside0.mk (below_step HB.out hb_); replace BK := Aside0.mk (blk_below BK.out hb_); (try (replace LP := Aside0.mk (LP.out.below hb_))); (try (replace LF := Aside0.mk (LF.out.below hb_))); (try (replace LQ := Aside0.mk (LQ.out.below hb_))); clear q0 q1 q2 q3 q4; obtain ⟨q0, q1, q2, q3, q4⟩ := rosC_cells BK.out; obtain ⟨ALP, cLP, rfl, z1, z2⟩ := hl_; have LP : Aside0 (IntsAt wb (.slice ALP _ cLP) _) := ⟨⟨ALP, cLP, rfl, z1, z2⟩⟩; clear z1 z2; clear hb_) | (go_at_call 60; (with_reducible refine (hfewest _ (hR.out.below HB.out)).mono ?_); rintro e wb ⟨fv, rfl, hl_, hb_⟩; replace HB := Aside0.mk (below_step HB.out hb_); replace BK := Aside0.mk (blk_below BK.out hb_); (try (replace LP := Aside0.mk (LP.out.below hb_))); (try (replace LF := Aside0.mk (LF.out.below hb_))); (try (replace LQ := Aside0.mk (LQ.out.below hb_))); clear q0 q1 q2 q3 q4; obtain ⟨q0, q1, q2, q3, q4⟩ := rosC_cells BK.out; obtain ⟨ALF, cLF, rfl, z1, z2⟩ := hl_; have LF : Aside0 (IntsAt wb (.slice ALF _ cLF) _) := ⟨⟨ALF, cLF, rfl, z1, z2⟩⟩; clear z1 z2; clear hb_) | (go_at_call 23; (with_reducible refine (hprs _ (hR.out.below HB.out)).mono ?_); rintro e wb ⟨qv, rfl, hl_, hb_⟩; replace HB := Aside0.mk (below_step HB.out hb_); replace BK := Aside0.mk (blk_below BK.out hb_); (try (replace LP := Aside0.mk (LP.out.below hb_))); (try (replace LF := Aside0.mk (LF.out.below hb_))); (try (replace LQ := Aside0.mk (LQ.out.below hb_))); clear q0 q1 q2 q3 q4; obtain ⟨q0, q1, q2, q3, q4⟩ := rosC_cells BK.out; obtain ⟨ALQ, cLQ, rfl, z1, z2⟩ := hl_; have LQ : Aside0 (IntsAt wb (.slice ALQ _ cLQ) _) := ⟨⟨ALQ, cLQ, rfl, z1, z2⟩⟩; clear z1 z2; clear hb_) | (go_at_call 36; (with_reducible refine (hn _ (hR.out.below HB.out) (HL.out.below HB.out)).mono ?_); rintro e wb ⟨rfl, hb_⟩; replace HB := Aside0.mk (below_step HB.out hb_); replace BK := Aside0.mk (blk_below BK.out hb_); (try (replace LP := Aside0.mk (LP.out.below hb_))); (try (replace LF := Aside0.mk (LF.out.below hb_))); (try (replace LQ := Aside0.mk (LQ.out.below hb_))); clear q0 q1 q2 q3 q4; obtain ⟨q0, q1, q2, q3, q4⟩ := rosC_cells BK.out; clear hb_) | (go_at_call 36; (with_reducible refine (hcf _ _ (hR.out.below HB.out) LF.out).mono ?_); rintro e wb ⟨rfl, hb_⟩; replace HB := Aside0.mk (below_step HB.out hb_); replace BK := Aside0.mk (blk_below BK.out hb_); (try (replace LP := Aside0.mk (LP.out.below hb_))); (try (replace LF := Aside0.mk (LF.out.below hb_))); (try (replace LQ := Aside0.mk (LQ.out.below hb_))); clear q0 q1 q2 q3 q4; obtain ⟨q0, q1, q2, q3, q4⟩ := rosC_cells BK.out; clear hb_) | (go_at_call 28; (with_reducible refine (hcm _ (hR.out.below HB.out) (HM.out.below HB.out)).mono ?_); rintro e wb ⟨rfl, hb_⟩; replace HB := Aside0.mk (below_step HB.out hb_); replace BK := Aside0.mk (blk_below BK.out hb_); (try (replace LP := Aside0.mk (LP.out.below hb_))); (try (replace LF := Aside0.mk (LF.out.below hb_))); (try (replace LQ := Aside0.mk (LQ.out.below hb_))); clear q0 q1 q2 q3 q4; obtain ⟨q0, q1, q2, q3, q4⟩ := rosC_cells BK.out; clear hb_) | (go_at_call 28; (with_reducible refine (hcp _ _ (hR.out.below HB.out) LQ.out).mono ?_); rintro e wb ⟨rfl, hb_⟩; replace HB := Aside0.mk (below_step HB.out hb_); replace BK := Aside0.mk (blk_below BK.out hb_); (try (replace LP := Aside0.mk (LP.out.below hb_))); (try (replace LF := Aside0.mk (LF.out.below hb_))); (try (replace LQ := Aside0.mk (LQ.out.below hb_))); clear q0 q1 q2 q3 q4; obtain ⟨q0, q1, q2, q3, q4⟩ := rosC_cells BK.out; clear hb_) | (go_at_call 54; (with_reducible refine (hcl _ (hR.out.below HB.out) (HL.out.below HB.out)).mono ?_); rintro e wb ⟨rfl, hb_⟩; replace HB := Aside0.mk (below_step HB.out hb_); replace BK := Aside0.mk (blk_below BK.out hb_); (try (replace LP := Aside0.mk (LP.out.below hb_))); (try (replace LF := Aside0.mk (LF.out.below hb_))); (try (replace LQ := Aside0.mk (LQ.out.below hb_))); clear q0 q1 q2 q3 q4; obtain ⟨q0, q1, q2, q3, q4⟩ := rosC_cells BK.out; clear hb_) | (go_at_call 54; (with_reducible refine (hcx _ _ (hR.out.below HB.out) LP.out).mono ?_); rintro e wb ⟨rfl, hb_⟩; replace HB := Aside0.mk (below_step HB.out hb_); replace BK := Aside0.mk (blk_below BK.out hb_); (try (replace LP := Aside0.mk (LP.out.below hb_))); (try (replace LF := Aside0.mk (LF.out.below hb_))); (try (replace LQ := Aside0.mk (LQ.out.below hb_))); clear q0 q1 q2 q3 q4; obtain ⟨q0, q1, q2, q3, q4⟩ := rosC_cells BK.out; clear hb_) | (go_at_call 54; (with_reducible refine (hcy _ _ (hR.out.below HB.out) LF.out).mono ?_); rintro e wb ⟨rfl, hb_⟩; replace HB := Aside0.mk (below_step HB.out hb_); replace BK := Aside0.mk (blk_below BK.out hb_); (try (replace LP := Aside0.mk (LP.out.below hb_))); (try (replace LF := Aside0.mk (LF.out.below hb_))); (try (replace LQ := Aside0.mk (LQ.out.below hb_))); clear q0 q1 q2 q3 q4; obtain ⟨q0, q1, q2, q3, q4⟩ := rosC_cells BK.out; clear hb_))
        all_goals first
          | (go_ret; exact ⟨rfl, HB.out⟩)
          | (exfalso; (try simp only [beq_iff_eq, bne_iff_ne, ne_eq, beq_eq_false_iff_ne, bne_eq_false_iff_eq, decide_eq_true_eq, decide_eq_false_iff_not, Bool.not_eq_true] at *); omega)
      · have hy' : (checkPlanE r gate l != 0) = true := by simpa using hy
        have hcl : True := trivial
        clear e1 e2 e3 e4 e5 e6 e7 e8 V g1 g2 g3 g4 hp hd hnf p1 p2 hy
        generalize checkPlanE r gate l = y at *
        generalize restL r gate (costL r (intsN (planR r gate))) = RL at *
        generalize costL r (intsN (planR r gate)) = cp at *
        generalize costL r (intsN (fewR r gate)) = cf at *
        generalize checkPricesE r gate cost prices = x at *
        go_enter Tryz.func11, Tryz.ntmps11
        go_wp2_with (first | ((with_reducible refine gate_dst (N := 5) rfl ?_); refine box_event ?hg (N := 5) ?hd (cs := (rosC r A c T d)) (t := 25) ?hr ?_; (case hd => rfl); (case hg => rfl); (case hr => first | (go_simp; done) | (go_simp; rfl)); intro g hg_ wb hbox_ hb_; have BK := Aside0.mk hbox_; have HB := Aside0.mk hb_; obtain ⟨q0, q1, q2, q3, q4⟩ := rosC_cells BK.out; clear hbox_ hb_ hg_) | (go_at_call 17; refine (sane_calls _ (HT.out.below HB.out)).mono ?_; rintro e wb ⟨rfl, hb_⟩; replace HB := Aside0.mk (below_step HB.out hb_); replace BK := Aside0.mk (blk_below BK.out hb_); (try (replace LP := Aside0.mk (LP.out.below hb_))); (try (replace LF := Aside0.mk (LF.out.below hb_))); (try (replace LQ := Aside0.mk (LQ.out.below hb_))); clear q0 q1 q2 q3 q4; obtain ⟨q0, q1, q2, q3, q4⟩ := rosC_cells BK.out; clear hb_) | (go_at_call 34; (with_reducible refine (hval _ (hR.out.below HB.out)).mono ?_); rintro e wb ⟨rfl, hb_⟩; replace HB := Aside0.mk (below_step HB.out hb_); replace BK := Aside0.mk (blk_below BK.out hb_); (try (replace LP := Aside0.mk (LP.out.below hb_))); (try (replace LF := Aside0.mk (LF.out.below hb_))); (try (replace LQ := Aside0.mk (LQ.out.below hb_))); clear q0 q1 q2 q3 q4; obtain ⟨q0, q1, q2, q3, q4⟩ := rosC_cells BK.out; clear hb_) | (go_at_call 18; (with_reducible refine (hfew _ (hR.out.below HB.out) (HL.out.below HB.out) (HM.out.below HB.out)).mono ?_); rintro e wb ⟨rfl, hb_⟩; replace hb_ := below_al hb_; replace HB := Aside0.mk (below_step HB.out hb_); replace BK := Aside0.mk (blk_below BK.out hb_); (try (replace LP := Aside0.mk (LP.out.below hb_))); (try (replace LF := Aside0.mk (LF.out.below hb_))); (try (replace LQ := Aside0.mk (LQ.out.below hb_))); clear q0 q1 q2 q3 q4; obtain ⟨q0, q1, q2, q3, q4⟩ := rosC_cells BK.out; clear hb_) | (go_at_call 35; (with_reducible refine (hplan _ (hR.out.below HB.out)).mono ?_); rintro e wb ⟨pv, rfl, hl_, hb_⟩; replace HB := Aside0.mk (below_step HB.out hb_); replace BK := Aside0.mk (blk_below BK.out hb_); (try (replace LP := Aside0.mk (LP.out.below hb_))); (try (replace LF := Aside0.mk (LF.out.below hb_))); (try (replace LQ := Aside0.mk (LQ.out.below hb_))); clear q0 q1 q2 q3 q4; obtain ⟨q0, q1, q2, q3, q4⟩ := rosC_cells BK.out; obtain ⟨ALP, cLP, rfl, z1, z2⟩ := hl_; have LP : Aside0 (IntsAt wb (.slice ALP _ cLP) _) := ⟨⟨ALP, cLP, rfl, z1, z2⟩⟩; clear z1 z2; clear hb_) | (go_at_call 60; (with_reducible refine (hfewest _ (hR.out.below HB.out)).mono ?_); rintro e wb ⟨fv, rfl, hl_, hb_⟩; replace HB := Aside0.mk (below_step HB.out hb_); replace BK := Aside0.mk (blk_below BK.out hb_); (try (replace LP := Aside0.mk (LP.out.below hb_))); (try (replace LF := Aside0.mk (LF.out.below hb_))); (try (replace LQ := Aside0.mk (LQ.out.below hb_))); clear q0 q1 q2 q3 q4; obtain ⟨q0, q1, q2, q3, q4⟩ := rosC_cells BK.out; obtain ⟨ALF, cLF, rfl, z1, z2⟩ := hl_; have LF : Aside0 (IntsAt wb (.slice ALF _ cLF) _) := ⟨⟨ALF, cLF, rfl, z1, z2⟩⟩; clear z1 z2; clear hb_) | (go_at_call 23; (with_reducible refine (hprs _ (hR.out.below HB.out)).mono ?_); rintro e wb ⟨qv, rfl, hl_, hb_⟩; replace HB := Aside0.mk (below_step HB.out hb_); replace BK := Aside0.mk (blk_below BK.out hb_); (try (replace LP := Aside0.mk (LP.out.below hb_))); (try (replace LF := Aside0.mk (LF.out.below hb_))); (try (replace LQ := Aside0.mk (LQ.out.below hb_))); clear q0 q1 q2 q3 q4; obtain ⟨q0, q1, q2, q3, q4⟩ := rosC_cells BK.out; obtain ⟨ALQ, cLQ, rfl, z1, z2⟩ := hl_; have LQ : Aside0 (IntsAt wb (.slice ALQ _ cLQ) _) := ⟨⟨ALQ, cLQ, rfl, z1, z2⟩⟩; clear z1 z2; clear hb_) | (go_at_call 36; (with_reducible refine (hn _ (hR.out.below HB.out) (HL.out.below HB.out)).mono ?_); rintro e wb ⟨rfl, hb_⟩; replace HB := Aside0.mk (below_step HB.out hb_); replace BK := Aside0.mk (blk_below BK.out hb_); (try (replace LP := Aside0.mk (LP.out.below hb_))); (try (replace LF := Aside0.mk (LF.out.below hb_))); (try (replace LQ := Aside0.mk (LQ.out.below hb_))); clear q0 q1 q2 q3 q4; obtain ⟨q0, q1, q2, q3, q4⟩ := rosC_cells BK.out; clear hb_) | (go_at_call 36; (with_reducible refine (hcf _ _ (hR.out.below HB.out) LF.out).mono ?_); rintro e wb ⟨rfl, hb_⟩; replace HB := Aside0.mk (below_step HB.out hb_); replace BK := Aside0.mk (blk_below BK.out hb_); (try (replace LP := Aside0.mk (LP.out.below hb_))); (try (replace LF := Aside0.mk (LF.out.below hb_))); (try (replace LQ := Aside0.mk (LQ.out.below hb_))); clear q0 q1 q2 q3 q4; obtain ⟨q0, q1, q2, q3, q4⟩ := rosC_cells BK.out; clear hb_) | (go_at_call 28; (with_reducible refine (hcm _ (hR.out.below HB.out) (HM.out.below HB.out)).mono ?_); rintro e wb ⟨rfl, hb_⟩; replace HB := Aside0.mk (below_step HB.out hb_); replace BK := Aside0.mk (blk_below BK.out hb_); (try (replace LP := Aside0.mk (LP.out.below hb_))); (try (replace LF := Aside0.mk (LF.out.below hb_))); (try (replace LQ := Aside0.mk (LQ.out.below hb_))); clear q0 q1 q2 q3 q4; obtain ⟨q0, q1, q2, q3, q4⟩ := rosC_cells BK.out; clear hb_) | (go_at_call 28; (with_reducible refine (hcp _ _ (hR.out.below HB.out) LQ.out).mono ?_); rintro e wb ⟨rfl, hb_⟩; replace HB := Aside0.mk (below_step HB.out hb_); replace BK := Aside0.mk (blk_below BK.out hb_); (try (replace LP := Aside0.mk (LP.out.below hb_))); (try (replace LF := Aside0.mk (LF.out.below hb_))); (try (replace LQ := Aside0.mk (LQ.out.below hb_))); clear q0 q1 q2 q3 q4; obtain ⟨q0, q1, q2, q3, q4⟩ := rosC_cells BK.out; clear hb_) | (go_at_call 54; (with_reducible refine (hcl _ (hR.out.below HB.out) (HL.out.below HB.out)).mono ?_); rintro e wb ⟨rfl, hb_⟩; replace HB := Aside0.mk (below_step HB.out hb_); replace BK := Aside0.mk (blk_below BK.out hb_); (try (replace LP := Aside0.mk (LP.out.below hb_))); (try (replace LF := Aside0.mk (LF.out.below hb_))); (try (replace LQ := Aside0.mk (LQ.out.below hb_))); clear q0 q1 q2 q3 q4; obtain ⟨q0, q1, q2, q3, q4⟩ := rosC_cells BK.out; clear hb_) | (go_at_call 54; (with_reducible refine (hcx _ _ (hR.out.below HB.out) LP.out).mono ?_); rintro e wb ⟨rfl, hb_⟩; replace HB := Aside0.mk (below_step HB.out hb_); replace BK := Aside0.mk (blk_below BK.out hb_); (try (replace LP := Aside0.mk (LP.out.below hb_))); (try (replace LF := Aside0.mk (LF.out.below hb_))); (try (replace LQ := Aside0.mk (LQ.out.below hb_))); clear q0 q1 q2 q3 q4; obtain ⟨q0, q1, q2, q3, q4⟩ := rosC_cells BK.out; clear hb_) | (go_at_call 54; (with_reducible refine (hcy _ _ (hR.out.below HB.out) LF.out).mono ?_); rintro e wb ⟨rfl, hb_⟩; replace HB := Aside0.mk (below_step HB.out hb_); replace BK := Aside0.mk (blk_below BK.out hb_); (try (replace LP := Aside0.mk (LP.out.below hb_))); (try (replace LF := Aside0.mk (LF.out.below hb_))); (try (replace LQ := Aside0.mk (LQ.out.below hb_))); clear q0 q1 q2 q3 q4; obtain ⟨q0, q1, q2, q3, q4⟩ := rosC_cells BK.out; clear hb_))
        all_goals first
          | (go_ret; exact ⟨rfl, HB.out⟩)
          | (exfalso; (try simp only [beq_iff_eq, bne_iff_ne, ne_eq, beq_eq_false_iff_ne, bne_eq_false_iff_eq, decide_eq_true_eq, decide_eq_false_iff_not, Bool.not_eq_true] at *); omega)
  · skip
    go_enter Tryz.func11, Tryz.ntmps11
    go_wp2_with (first | ((with_reducible refine gate_dst (N := 5) rfl ?_); refine box_event ?hg (N := 5) ?hd (cs := (rosC r A c T d)) (t := 25) ?hr ?_; (case hd => rfl); (case hg => rfl); (case hr => first | (go_simp; done) | (go_simp; rfl)); intro g hg_ wb hbox_ hb_; have BK := Aside0.mk hbox_; have HB := Aside0.mk hb_; obtain ⟨q0, q1, q2, q3, q4⟩ := rosC_cells BK.out; clear hbox_ hb_ hg_) | (go_at_call 17; refine (sane_calls _ (HT.out.below HB.out)).mono ?_; rintro e wb ⟨rfl, hb_⟩; replace HB := Aside0.mk (below_step HB.out hb_); replace BK := Aside0.mk (blk_below BK.out hb_); (try (replace LP := Aside0.mk (LP.out.below hb_))); (try (replace LF := Aside0.mk (LF.out.below hb_))); (try (replace LQ := Aside0.mk (LQ.out.below hb_))); clear q0 q1 q2 q3 q4; obtain ⟨q0, q1, q2, q3, q4⟩ := rosC_cells BK.out; clear hb_) | (go_at_call 34; (with_reducible refine (hval _ (hR.out.below HB.out)).mono ?_); rintro e wb ⟨rfl, hb_⟩; replace HB := Aside0.mk (below_step HB.out hb_); replace BK := Aside0.mk (blk_below BK.out hb_); (try (replace LP := Aside0.mk (LP.out.below hb_))); (try (replace LF := Aside0.mk (LF.out.below hb_))); (try (replace LQ := Aside0.mk (LQ.out.below hb_))); clear q0 q1 q2 q3 q4; obtain ⟨q0, q1, q2, q3, q4⟩ := rosC_cells BK.out; clear hb_) | (go_at_call 18; (with_reducible refine (hfew _ (hR.out.below HB.out) (HL.out.below HB.out) (HM.out.below HB.out)).mono ?_); rintro e wb ⟨rfl, hb_⟩; replace hb_ := below_al hb_; replace HB := Aside0.mk (below_step HB.out hb_); replace BK := Aside0.mk (blk_below BK.out hb_); (try (replace LP := Aside0.mk (LP.out.below hb_))); (try (replace LF := Aside0.mk (LF.out.below hb_))); (try (replace LQ := Aside0.mk (LQ.out.below hb_))); clear q0 q1 q2 q3 q4; obtain ⟨q0, q1, q2, q3, q4⟩ := rosC_cells BK.out; clear hb_))
    all_goals first
      | (go_ret; exact ⟨rfl, HB.out⟩)
      | (exfalso; exact hg ⟨by assumption, by assumption, by omega, by omega⟩)
end Go.Proofs.YtflolfbkpjgjaaaGreatDoor
end
section
namespace Go.Proofs.YtflolfbkpjgjaaaGreatDoor
open Go.RowKit Go.Proofs.YtflolfbkpjgjaaaGreatDoorW.PrintWords
namespace watchLeast
open Go.ChangeShapes Go.WideShapes Go.ChangeAt
theorem own : ownKnob Tryz.prog.godebug = none := by kernel_rfl
theorem laidOut : laidOutB Tryz.prog = true := by kernel_rfl
set_option maxRecDepth 100000 in
theorem contract (H : Type) (enc : TypeId × Value → H) (W : World) (base : Nat) (args : Array Value) (ds gs : List (DataW H)) (before : List MemPlace)
    (hval : ∀ (j : Nat) t v, Tryz.f11.params[j]? = some t → args[j]? = some v → Value.okWide Tryz.prog W .any base t v)
    (hW : DataW.Whole enc Tryz.prog Tryz.f11.params.toList Rows.watchLeastSpec.vars false W args.toList ds gs before) (hL : laidMetH Tryz.prog Rows.watchLeastRow.laid W) :
    Calls Tryz.prog 11 args W fun e W' => ∃ v, e = .returned v ∧ Rows.watchLeastSpec.post enc Tryz.prog Tryz.f11 false true false false W args v W' := by
  have hW' := hW
  obtain ⟨p, q, hA0, hV, rfl, hfz, hnd⟩ := hW
  have hA : DataW.TrodAll enc Tryz.prog W 0 (fun _ => true) true Tryz.f11.params.toList args.toList ds p := hA0
  rw [Tryz.params11] at hA hval
  obtain ⟨v0, vs0, d0, ds0, p0, q0, hargs, rfl, rfl, h0, r0_⟩ := trodAll_cons hA
  obtain ⟨v1, vs1, d1, ds1, p1, q1, rfl, rfl, rfl, h1, r1_⟩ := trodAll_cons r0_
  obtain ⟨v2, vs2, d2, ds2, p2, q2, rfl, rfl, rfl, h2, r2_⟩ := trodAll_cons r1_
  obtain ⟨v3, vs3, d3, ds3, p3, q3, rfl, rfl, rfl, h3, r3_⟩ := trodAll_cons r2_
  obtain ⟨v4, vs4, d4, ds4, p4, q4, rfl, rfl, rfl, h4, r4_⟩ := trodAll_cons r3_
  obtain ⟨rfl, rfl, rfl⟩ := trodAll_nil r4_
  obtain rfl : args = #[v0, v1, v2, v3, v4] := by cases args; simp_all
  obtain ⟨rfl, rfl⟩ := trodVars_none hV
  have k0 := h0
  have lt0 : ∀ x ∈ p0, x.block < W.heap.size := by obtain ⟨m, hm⟩ := k0; exact DataW.trod_lt m _ _ _ hm
  obtain ⟨r0, hr0⟩ := open_ros (hval 0 25 v0 rfl rfl) h0
  obtain ⟨a1, rfl, rfl, rfl, w1⟩ := open_int Tryz.underlying3 (hval 1 3 v1 rfl rfl) h1
  have k2 := h2
  have lt2 : ∀ x ∈ p2, x.block < W.heap.size := by obtain ⟨m, hm⟩ := k2; exact DataW.trod_lt m _ _ _ hm
  obtain ⟨l2, hr2⟩ := open_intsAt (hval 2 26 v2 rfl rfl) h2
  obtain ⟨a3, rfl, rfl, rfl, w3⟩ := open_int Tryz.underlying3 (hval 3 3 v3 rfl rfl) h3
  have k4 := h4
  have lt4 : ∀ x ∈ p4, x.block < W.heap.size := by obtain ⟨m, hm⟩ := k4; exact DataW.trod_lt m _ _ _ hm
  obtain ⟨l4, hr4⟩ := open_intsAt (hval 4 26 v4 rfl rfl) h4
  clear hA0
  have hT : TabP W := laid_tab hL
  refine (least_calls v0 v2 v4 r0 a1 l2 a3 l4 W hT hr0 hr2 hr4).mono fun e W' ⟨he, bel⟩ => ?_
  subst he
  exact ⟨_, rfl, _, _, _, [], _, [], hW', trodAll_mk1 (shut_bool Tryz.underlying4 _), (trodAll_cons_mk (Below.trod laidOut (by kernel_rfl) (of_decide_eq_true (by kernel_rfl)) k0 bel lt0) (trodAll_cons_mk (shut_int Tryz.underlying3 w1) (trodAll_cons_mk (Below.trod laidOut (by kernel_rfl) (of_decide_eq_true (by kernel_rfl)) k2 bel lt2) (trodAll_cons_mk (shut_int Tryz.underlying3 w3) (trodAll_cons_mk (Below.trod laidOut (by kernel_rfl) (of_decide_eq_true (by kernel_rfl)) k4 bel lt4) trodAll_mk0))))), rfl, bel.frame _, fun h => by cases h⟩
noncomputable def laidWorld (os : Os) : World :=
  { World.holding Tryz.prog os ⟨#[], #[], []⟩ with heap := (((World.holding Tryz.prog os ⟨#[], #[], []⟩).heap.modify 6 (layC tab32)).modify 7 (layC tab64)).modify 2 (layC tab10) }
theorem laid_met (os : Os) : laidMet Tryz.prog Rows.watchLeastRow.laid ((laidWorld os).forCall (fun _ _ => 0) ⟨#[], #[.agg #[.int .i64 0, .int .i64 0, .int .i64 0, .slice none 0 0, .slice none 0 0], .int .i64 0, .slice none 0 0, .int .i64 0, .slice none 0 0], []⟩).memory :=
  laidMet_of_run3 8 (by kernel_rfl) (by kernel_rfl) (by kernel_rfl)
theorem reads (os : Os) {H : Type} (enc : TypeId × Value → H) : ∃ places, DataW.whole enc Tryz.prog ((laidWorld os).forCall (fun _ _ => 0) ⟨#[], #[.agg #[.int .i64 0, .int .i64 0, .int .i64 0, .slice none 0 0, .slice none 0 0], .int .i64 0, .slice none 0 0, .int .i64 0, .slice none 0 0], []⟩).memory Tryz.f11.params.toList Rows.watchLeastSpec.vars false #[Value.agg #[.int .i64 0, .int .i64 0, .int .i64 0, .slice none 0 0, .slice none 0 0], .int .i64 0, .slice none 0 0, .int .i64 0, .slice none 0 0].toList 8 = some ([.agg [.lit (.int .i64 0), .lit (.int .i64 0), .lit (.int .i64 0), .nil, .nil], .lit (.int .i64 0), .nil, .lit (.int .i64 0), .nil], [], places) :=
  ⟨[], by kernel_rfl⟩
set_option maxRecDepth 100000 in
theorem lifted (os : Os) (started : os.Started) (H : Type) (enc : TypeId × Value → H) (F : Stop.Interp) :
    ReturnsInHanded {} Tryz.checked os 11 .any ((OpenSpec.ofChange Rows.watchLeastSpec).preRow enc Tryz.prog Tryz.f11 Rows.watchLeastRow.domain false Rows.watchLeastRow.laid) (((OpenSpec.ofChange Rows.watchLeastSpec).at F).post enc Tryz.prog Tryz.f11 false true false false) := by
  obtain ⟨places, hx⟩ := reads os enc
  refine returnsInHanded_of_row (C := Tryz.checked) (s := OpenSpec.ofChange Rows.watchLeastSpec) own started (by kernel_rfl) Tryz.func11
    (witness_row_at (enc := enc) (C := Tryz.checked) false (laidWorld os) #[.agg #[.int .i64 0, .int .i64 0, .int .i64 0, .slice none 0 0, .slice none 0 0], .int .i64 0, .slice none 0 0, .int .i64 0, .slice none 0 0] rfl (by kernel_rfl) (by kernel_rfl) (by kernel_rfl)
      (OpenSpec.preRow_of_cond 8 hx (by kernel_rfl) (fun k hk => by cases hk) (by kernel_rfl) (laid_met os))) ?_
  intro W base args ds gs before hval hW _ _ _ hL _ _
  exact contract H enc W base args ds gs before hval hW hL
theorem named : Tryz.pinned.checked.prog.funcNamed Rows.watchLeastRow.func = some 11 := by kernel_rfl
set_option maxHeartbeats 8000000 in
theorem closed : joinedFacts Tryz.pinned.checked.prog 11 Tryz.f11 (OpenSpec.ofChange Rows.watchLeastSpec).bare Rows.watchLeastRow = true := by
  unfold joinedFacts
  repeat' (with_reducible refine band ?_ ?_)
  all_goals (as_aux_lemma => kernel_rfl)
theorem inst : Tryz.f11.isInstance Tryz.pinned.checked.prog Rows.watchLeastRow.origin Rows.watchLeastRow.targs := of_decide_eq_true (by kernel_rfl)
theorem said : Rows.WatchLeastSaid :=
  OpenClaim.holds_of_cond 11 Tryz.f11 rfl rfl rfl rfl rfl rfl rfl ⟨rfl, rfl, rfl, rfl, rfl⟩ rfl rfl rfl rfl rfl named Tryz.func11 closed
    inst (by unfold Func.isWrapper; first | (rw [if_pos (by decide +kernel)]; kernel_rfl) | (rw [if_neg (by decide +kernel)]; exact ⟨rfl, rfl⟩))
    (fun os started H enc _ F => by rw [OpenClaim.pre_eq_preRow]; exact lifted os started H enc F)
theorem plain (f : FuncId) (fn : Func) (hf : Tryz.pinned.checked.prog.funcNamed "waterhour/waterhourlaw07.WatchLeast" = some f) (hfn : Tryz.pinned.checked.prog.funcs[f]? = some fn) :
    true = Tryz.pinned.checked.prog.looks [] ∧ ∀ (j : Nat) t, fn.params[j]? = some t → Tryz.pinned.checked.prog.wantsStandIn t = false := by
  obtain rfl : f = 11 := Option.some.inj ((show Tryz.prog.funcNamed "waterhour/waterhourlaw07.WatchLeast" = some 11 by kernel_rfl).symm.trans hf) |>.symm
  obtain rfl : fn = Tryz.f11 := (Option.some.inj (Tryz.func11.symm.trans hfn)).symm
  refine ⟨by kernel_rfl, fun j t ht => ?_⟩
  rw [Tryz.params11] at ht
  have hm := Array.mem_of_getElem? ht
  have hm2 : t ∈ ([25, 3, 26, 3, 26] : List Nat) := by simpa using hm
  have hall : ([25, 3, 26, 3, 26] : List Nat).all (fun t => Tryz.prog.wantsStandIn t == false) = true := by kernel_rfl
  rw [List.all_eq_true] at hall
  exact beq_iff_eq.1 (hall t hm2)
end watchLeast
theorem watchLeast_card : Rows.WatchLeastCardSaid :=
  Claim7.holds_tied_plain_at .later [] _ _ _ _ watchLeast.said (fun _ h => by cases h) (by kernel_rfl) (fun _ h => by cases h) watchLeast_row_tie rfl ⟨rfl, rfl⟩ (by kernel_rfl) rfl watchLeast.plain (by kernel_rfl)
end Go.Proofs.YtflolfbkpjgjaaaGreatDoor
end
