/- WatchLacking holds: the law returns true for every input, and each argument reads behind the call as it read before. Conditions: the tables of the library that the row lists hold what their text lays. -/
import Derived.Below
import Derived.Deep.Draws
import Derived.Deep.AppendLies
import Derived.Maps.AppendAt
import Derived.OwnWalk
import Derived.Laws.BytesArg
import Derived.Laws.MakeOwn
import Derived.Laws.OwnMore
import Derived.Deep.OwnRows
import Derived.Tactics
import Derived.Lib.ConvBytes
import Derived.Laws.Slices
import Derived.WalkKit
import Derived.KernelRfl
import Derived.RowKit3
import Derived.Deep.LoopGhost
import Derived.Deep.QuietTactic
import Derived.BigQuiet
import Derived.WideLaws
import Derived.Deep.DeepCutAuto
import Derived.Deep.CutBlock
import Derived.Deep.RegionHeld3
import Derived.Laws.Rows
import Derived.Lib.AppendStr
import Derived.ArgAppend
import Derived.Laws.IdiomCopy
import Derived.RowKit
import Derived.OrdersHeld
import Derived.Laws.BitsLemmas
import Derived.Deep.CutRange
import Derived.Test.YtflolfbkpjgjaaaGreatDoorCards
import Derived.Test.YtflolfbkpjgjaaaGreatDoorTie
import Derived.Test.YtflolfbkpjgjaaaGreatDoorY8
set_option linter.unusedVariables false
set_option linter.unusedSimpArgs false
section
namespace Go.Proofs.YtflolfbkpjgjaaaGreatDoorW.PrintWords
open Go.RowKit
section
variable {P : Program} {ops : Array Oper} {rest : List Oper} {o : Oper} {a : Act} {Q : Exit → Act → World → Prop}
end
section
variable {P : Program}
end
section
variable {P : Program} {ops : Array Oper} {rest : List Oper} {o : Oper} {a : Act} {Q : Exit → Act → World → Prop}
end
section
variable {P : Program} {ops : Array Oper} {rest : List Oper} {o : Oper} {a : Act} {Q : Exit → Act → World → Prop}
end
section
variable {P : Program} {ops : Array Oper} {o : Oper} {a : Act} {Q : Exit → Act → World → Prop} {K : Act → World → Prop}
end
section
variable {α : Type} {enc : α → Value} {d : α}
end
section
variable {α : Type} {P : Program} {ops : Array Oper} {rest : List Oper} {o : Oper} {a : Act} {Q : Exit → Act → World → Prop}
end
section
variable {P : Program}
end
section
variable {α : Type} {R R' : α → List Value → Prop} {e : TypeId} {size : Nat} {w w1 : World} {base : Nat} {v : Value} {ps : List α}
theorem OwnRow.none_ (R : α → List Value → Prop) (e : TypeId) (size : Nat) (w : World) (base : Nat) : OwnRow R e size w base (.slice none 0 0) [] := ⟨[], own_nil _ _ _ _, Reps.none _ _⟩
end
section
variable {P : Program} {ops : Array Oper} {rest : List Oper} {o : Oper} {a : Act} {Q : Exit → Act → World → Prop} {α : Type} {R : α → List Value → Prop}
end
section
variable {P : Program} {ops : Array Oper} {o : Oper} {a : Act} {Q : Exit → Act → World → Prop} {K : Act → World → Prop} {α : Type} {R : α → List Value → Prop}
end
theorem ReadsRow.inner_ {α : Type} {R : α → List Value → Prop} {size : Nat} {w : World} {ad : Addr} {n : Nat} {ps : List α} (h : ReadsRow R size w (some ad) n ps) :
    ∃ inner, Reps R size ps inner ∧ ∀ j u, inner[j]? = some u → w.cell? (ad.add j) = some u := by
  have key : ∀ m, m ≤ ps.length → ∃ inner, Reps R size (ps.take m) inner ∧ ∀ j u, inner[j]? = some u → w.cell? (ad.add j) = some u := by
    intro m
    induction m with
    | zero => exact fun _ => ⟨[], Reps.none _ _, fun j u hu => by simp at hu⟩
    | succ m ih =>
      intro hm
      obtain ⟨inner, hr, hc⟩ := ih (by omega)
      obtain ⟨ad', he, hcell⟩ := h.2.2 (by have := h.1; omega)
      injection he with he
      subst he
      obtain ⟨c, hcl, hp, hcc⟩ := hcell m _ (List.getElem?_eq_getElem (show m < ps.length by omega))
      refine ⟨inner ++ c, ?_, fun j u hu => ?_⟩
      · rw [List.take_succ_eq_append_getElem (show m < ps.length by omega)]
        exact hr.snoc hp hcl
      · have hil : inner.length = m * size := by rw [hr.1, List.length_take, Nat.min_eq_left (by omega)]
        rcases Nat.lt_or_ge j inner.length with hj | hj
        · rw [List.getElem?_append_left hj] at hu
          exact hc j u hu
        · rw [List.getElem?_append_right hj] at hu
          have := hcc (j - inner.length) u hu
          rwa [hil, Nat.add_sub_cancel' (by omega)] at this
  obtain ⟨inner, hr, hc⟩ := key ps.length (Nat.le_refl _)
  rw [List.take_length] at hr
  exact ⟨inner, hr, hc⟩
section
variable {α : Type} {P : Program}
end
section
variable {P : Program} {ops : Array Oper} {rest : List Oper} {o : Oper} {a : Act} {Q : Exit → Act → World → Prop}
end
namespace Kd
section
variable {α : Type} {d : Kd α} {e : Nat} {w w1 : World} {base : Nat} {ok ok' : Nat → Prop} {v : Value} {xs : List α}
theorem R_nil (d : Kd α) (e : Nat) (w : World) (base : Nat) (ok : Nat → Prop) : d.R e w base ok (.slice none 0 0) [] := ⟨fun k hk => by simp [Value.ownBlock] at hk, OwnRow.none_ _ _ _ _ _⟩
theorem R_far (h : d.R e w base ok v xs) {p : Addr} (hok : ∀ k, ok k → k ≠ p.block) (u : Value) : d.R e (w.setCell p u) base ok v xs := R_step h (fun k ho _ => Below.heap_setCell w p u k (hok k ho))
end
section
variable {P : Program} {ops : Array Oper} {rest : List Oper} {o : Oper} {a : Act} {Q : Exit → Act → World → Prop} {α : Type}
end
section
variable {P : Program} {ops : Array Oper} {o : Oper} {a : Act} {Q : Exit → Act → World → Prop} {Kc : Act → World → Prop} {α : Type}
end
end Kd
namespace Kd
section
variable {α : Type} {F : Kd α → Kd α} {sz : Nat} {E : List Nat} {hs : ∀ n, (upto F sz E n).sz = sz} {hE : ∀ n q, q ∈ (upto F sz E n).E → q ∈ E}
end
end Kd
namespace Kd
end Kd
namespace Kd
section
variable {α β : Type} {d : Kd α} {d' : Kd β} {e e' : Nat} {w w1 W : World} {base b b' : Nat} {ok ok' okv oku : Nat → Prop} {v u : Value} {xs : List α} {ys : List β}
theorem R_form (h : d.R e w base ok v xs) (hp : 0 < xs.length) : ∃ g cap, v = .slice (some ⟨g, 0, none⟩) xs.length cap ∧ base ≤ g ∧ g < w.heap.size ∧ ∃ cells, w.heap[g]? = some (.cells cells e (0, 0)) := by
  obtain ⟨inner, ho⟩ := R_own h
  obtain ⟨g, cap, he, hb, hl⟩ := ho.form hp
  obtain ⟨cells, hc⟩ := own_typed ho g (by rw [he]; simp [Value.ownBlock])
  exact ⟨g, cap, he, hb, hl, cells, hc⟩
end
section
variable {w W : World} {A : Option Addr} {n : Nat}
variable {α : Type} {enc : α → Value} {h1 : ∀ x, (enc x).oneCell' = true} {e base g cap : Nat} {ok : Nat → Prop} {xs : List α}
end
section
variable {P : Program} {ops : Array Oper} {rest : List Oper} {o : Oper} {a : Act} {Q : Exit → Act → World → Prop}
variable {α : Type}
end
end Kd
section
variable {P : Program}
end
section
variable {w w1 : World} {base n size : Nat} {e : TypeId} {v : Value} {xs : List Value}
theorem setCells_far {g : Nat} : ∀ (vs : List Value) (o : Nat) {w : World} (k : Nat), k ≠ g → (w.setCells g o vs).heap[k]? = w.heap[k]?
  | [], _, _, _, _ => rfl
  | v :: r, o, w, k, hk => by
    rw [World.setCells, setCells_far r (o + 1) k hk]
    exact Below.heap_setCell w ⟨g, o, none⟩ v k hk
theorem setCells_same (g : Nat) : ∀ (vs : List Value) (o : Nat) (w : World), (w.setCells g o vs).os = w.os ∧ (w.setCells g o vs).tape = w.tape ∧ (w.setCells g o vs).output = w.output ∧ (w.setCells g o vs).heap.size = w.heap.size
  | [], _, _ => ⟨rfl, rfl, rfl, rfl⟩
  | v :: r, o, w => by
    obtain ⟨h1, h2, h3, h4⟩ := setCells_same g r (o + 1) (w.setCell ⟨g, o, none⟩ v)
    rw [World.setCells]
    exact ⟨h1, h2, h3, by rw [h4]; simp [World.setCell]⟩
theorem setCells_row {g : Nat} {e : TypeId} : ∀ (vs : List Value) (o : Nat) (w : World) (cur : Array Value), w.heap[g]? = some (.cells cur e (0, 0)) → o + vs.length ≤ cur.size →
    ∃ cur', (w.setCells g o vs).heap[g]? = some (.cells cur' e (0, 0)) ∧ cur'.size = cur.size ∧ cur'.toList = cur.toList.take o ++ vs ++ cur.toList.drop (o + vs.length)
  | [], o, w, cur, h, _ => ⟨cur, h, rfl, by simp⟩
  | v :: r, o, w, cur, h, hl => by
    have h2 := blk_set h o v
    simp only [List.length_cons] at hl
    obtain ⟨cur', h3, h4, h5⟩ := setCells_row r (o + 1) (w.setCell ⟨g, o, none⟩ v) _ h2 (by simp; omega)
    refine ⟨cur', h3, by rw [h4]; simp, ?_⟩
    rw [h5, Array.toList_setIfInBounds]
    have ho : o < cur.toList.length := by rw [Array.length_toList]; omega
    rw [List.take_set, List.drop_set_of_lt (by omega)]
    simp only [List.length_cons]
    rw [show o + 1 + r.length = o + (r.length + 1) by omega]
    congr 1
    rw [List.take_succ_eq_append_getElem ho, List.set_append_right _ _ (by rw [List.length_take]; omega)]
    have ho' : o < cur.size := by omega
    simp [Nat.min_eq_left (Nat.le_of_lt ho')]
end
section
variable {P : Program}
end
namespace Kd
section
variable {α : Type} {d : Kd α} {e : Nat} {w w1 W : World} {base : Nat} {ok ok' : Nat → Prop} {v : Value} {xs : List α}
end
section
variable {P : Program} {ops : Array Oper} {rest : List Oper} {o : Oper} {a : Act} {Q' : Exit → Act → World → Prop} {Kc : Act → World → Prop} {α : Type}
end
end Kd
namespace Kd
section
variable {α : Type} {d : Kd α} {e e' : Nat} {w w1 W : World} {base : Nat} {ok : Nat → Prop} {u v : Value} {xs : List α}
end
end Kd
theorem seg_get {α : Type} (a seg : List α) (o : Nat) (h : o + seg.length ≤ a.length) (q : Nat) :
    (a.take o ++ seg ++ a.drop (o + seg.length))[q]? = if q < o then a[q]? else if q < o + seg.length then seg[q - o]? else a[q]? := by
  have hl : (a.take o).length = o := by rw [List.length_take]; omega
  rw [List.append_assoc]
  by_cases h1 : q < o
  · rw [if_pos h1, List.getElem?_append_left (by omega), List.getElem?_take, if_pos h1]
  · rw [if_neg h1, List.getElem?_append_right (by omega), hl]
    by_cases h2 : q < o + seg.length
    · rw [if_pos h2, List.getElem?_append_left (by omega)]
    · rw [if_neg h2, List.getElem?_append_right (by omega), List.getElem?_drop]
      congr 1
      omega
namespace Kd
section
variable {α : Type} {d : Kd α} {e base g n cap : Nat} {ok okp : Nat → Prop} {W : World} {xs : List α}
theorem R_elem (h : d.R e W base ok (.slice (some ⟨g, 0, none⟩) n cap) xs) (z : α) (i : Int) (h0 : 0 ≤ i) (h1 : i < n) :
    ∃ c, c.length = d.sz ∧ d.M W base (fun k => ok k ∧ k ≠ g) (xs.getD i.toNat z) c ∧ (∀ j u, c[j]? = some u → W.cell? ⟨g, i.toNat * d.sz + j, none⟩ = some u) ∧ ∀ j, W.frozen? ⟨g, i.toNat * d.sz + j, none⟩ = false := by
  obtain ⟨hn, hnc, hC⟩ := R_reads' h
  obtain ⟨_, inner, ho, hr⟩ := h
  have hil : i.toNat < xs.length := by omega
  have hseg : i.toNat * d.sz + d.sz ≤ inner.length := by rw [hr.1, ← Nat.succ_mul]; exact Nat.mul_le_mul_right _ hil
  have hM := hr.2 i.toNat _ (List.getElem?_eq_getElem hil)
  refine ⟨(inner.drop (i.toNat * d.sz)).take d.sz, by rw [List.length_take, List.length_drop]; omega, ?_, fun j u hu => ?_, fun j => ?_⟩
  · rw [List.getD_eq_getElem?_getD, List.getElem?_eq_getElem hil]
    exact d.M_mono (fun k hk => ⟨hk.1, fun he => hk.2 (by rw [he]; simp [Value.ownBlock])⟩) hM
  · rw [List.getElem?_take] at hu
    split at hu
    · rw [List.getElem?_drop] at hu
      have := ho.cells (g := g) (by simp [Value.ownBlock]) _ u hu
      rwa [add_plain] at this
    · cases hu
  · obtain ⟨cells, hc⟩ := own_typed ho g (by simp [Value.ownBlock])
    exact blk_frozen hc _
theorem R_seg (h : d.R e W base ok (.slice (some ⟨g, 0, none⟩) n cap) xs) (i : Int) (h0 : 0 ≤ i) (h1 : i < n) {c seg : List Value} {j : Nat} (hcl : c.length = d.sz) (hcc : ∀ j u, c[j]? = some u → W.cell? ⟨g, i.toNat * d.sz + j, none⟩ = some u)
    (hj : j + seg.length ≤ d.sz) {x' : α} (hM : d.M W base okp x' (c.take j ++ seg ++ c.drop (j + seg.length))) (hokp : ∀ k, okp k → ok k ∧ k ≠ g) :
    d.R e (W.setCells g (i.toNat * d.sz + j) seg) base ok (.slice (some ⟨g, 0, none⟩) n cap) (xs.set i.toNat x') ∧ W.grownBy (W.setCells g (i.toNat * d.sz + j) seg) (some g) := by
  obtain ⟨hn, hnc, _⟩ := R_reads' h
  obtain ⟨hok, inner, ho, hr⟩ := h
  have hil : i.toNat < xs.length := by omega
  have hseg : i.toNat * d.sz + d.sz ≤ inner.length := by rw [hr.1, ← Nat.succ_mul]; exact Nat.mul_le_mul_right _ hil
  have hin : inner.length = n * d.sz := by rw [hr.1, hn]
  obtain ⟨ho1, ho2⟩ := ho
  rcases ho2 with ⟨hv, _⟩ | ⟨g', cap', cur, hv, hb, hh, hnc', hcm, hcs, ht⟩
  · cases hv
  injection hv with ha _ hc
  injection ha with ha
  injection ha with hg
  subst hg; subst hc
  have hfit : i.toNat * d.sz + j + seg.length ≤ cur.size := by
    have : n * d.sz ≤ cap * d.sz := Nat.mul_le_mul_right _ hnc
    omega
  obtain ⟨cur', h3, h4, h5⟩ := setCells_row seg (i.toNat * d.sz + j) W cur hh hfit
  obtain ⟨s1, s2, s3, s4⟩ := setCells_same g seg (i.toNat * d.sz + j) W
  have hfar : ∀ k, k ≠ g → (W.setCells g (i.toNat * d.sz + j) seg).heap[k]? = W.heap[k]? := fun k hk => setCells_far seg _ k hk
  have hcin : ∀ q, q < d.sz → c[q]? = inner[i.toNat * d.sz + q]? := by
    intro q hq
    have hq' : q < c.length := by omega
    have h6 := hcc q _ (List.getElem?_eq_getElem hq')
    rw [cell_of_row W g _ cur e (0, 0) hh] at h6
    rw [List.getElem?_eq_getElem hq', ← h6, ← ht, List.getElem?_take, if_pos (by rw [← hn]; omega), Array.getElem?_toList]
  refine ⟨⟨hok, inner.take (i.toNat * d.sz + j) ++ seg ++ inner.drop (i.toNat * d.sz + j + seg.length), ⟨?_, .inr ⟨g, cap, cur', by rw [List.length_set, hn], hb, h3, by rw [List.length_set, ← hn]; exact hnc, hcm, by rw [h4, hcs], ?_⟩⟩, ?_⟩,
    ⟨s1, s2, s3, by rw [s4]; exact Nat.le_refl _, fun k _ hk => hfar k (fun he => hk (by rw [he]))⟩⟩
  · rw [List.length_set]
    simp only [List.length_append, List.length_take, List.length_drop]
    rw [hr.1] at hseg ⊢
    omega
  · rw [List.length_set, ← hn]
    apply List.ext_getElem?
    intro q
    rw [List.getElem?_take, h5]
    rw [seg_get cur.toList seg (i.toNat * d.sz + j) (by rw [Array.length_toList]; omega) q, seg_get inner seg (i.toNat * d.sz + j) (by omega) q]
    have hcur : ∀ q, q < n * d.sz → cur.toList[q]? = inner[q]? := by
      intro q hq
      rw [← ht, List.getElem?_take, if_pos (by rw [← hn]; exact hq)]
    by_cases hq : q < n * d.sz
    · rw [if_pos hq, hcur q hq]
    · rw [if_neg hq, if_neg (by omega), if_neg (by omega), List.getElem?_eq_none (by omega)]
  · refine ⟨?_, fun m p hm => ?_⟩
    · rw [List.length_set]
      simp only [List.length_append, List.length_take, List.length_drop]
      rw [hr.1] at hseg ⊢
      omega
    · have hml : m < xs.length := by
        have := (List.getElem?_eq_some_iff.1 hm).1
        rwa [List.length_set] at this
      have hmfit : m * d.sz + d.sz ≤ inner.length := by rw [hr.1, ← Nat.succ_mul]; exact Nat.mul_le_mul_right _ hml
      have hgo : some g = (Value.slice (some ⟨g, 0, none⟩) n cap).ownBlock := by simp [Value.ownBlock]
      by_cases hmi : m = i.toNat
      · subst hmi
        rw [List.getElem?_set_self (by omega)] at hm
        injection hm with hm
        subst hm
        have hcells : ((inner.take (i.toNat * d.sz + j) ++ seg ++ inner.drop (i.toNat * d.sz + j + seg.length)).drop (i.toNat * d.sz)).take d.sz = c.take j ++ seg ++ c.drop (j + seg.length) := by
          apply List.ext_getElem?
          intro q
          rw [List.getElem?_take, List.getElem?_drop, seg_get inner seg _ (by omega), seg_get c seg j (by omega) q]
          by_cases hq : q < d.sz
          · rw [if_pos hq, hcin q hq]
            by_cases hq1 : q < j
            · rw [if_pos (by omega), if_pos hq1]
            · rw [if_neg (by omega), if_neg hq1]
              by_cases hq2 : q < j + seg.length
              · rw [if_pos (by omega), if_pos hq2]
                congr 1
                omega
              · rw [if_neg (by omega), if_neg hq2]
          · rw [if_neg hq, if_neg (by omega), if_neg (by omega), List.getElem?_eq_none (by omega)]
        rw [hcells]
        refine d.M_mono (fun k hk => ?_) (d.M_move (w1 := W.setCells g (i.toNat * d.sz + j) seg) (fun k hk => hfar k (hokp k hk).2) hM)
        exact ⟨(hokp k hk).1, fun he => (hokp k hk).2 (by rw [← hgo] at he; injection he)⟩
      · rw [List.getElem?_set_ne (by omega)] at hm
        have hold := hr.2 m p hm
        have hcells : ((inner.take (i.toNat * d.sz + j) ++ seg ++ inner.drop (i.toNat * d.sz + j + seg.length)).drop (m * d.sz)).take d.sz = (inner.drop (m * d.sz)).take d.sz := by
          apply List.ext_getElem?
          intro q
          rw [List.getElem?_take, List.getElem?_take, List.getElem?_drop, List.getElem?_drop, seg_get inner seg _ (by omega)]
          by_cases hq : q < d.sz
          · rw [if_pos hq, if_pos hq]
            rcases Nat.lt_or_gt_of_ne hmi with hlt | hgt
            · have : m * d.sz + d.sz ≤ i.toNat * d.sz := by rw [← Nat.succ_mul]; exact Nat.mul_le_mul_right _ hlt
              rw [if_pos (by omega)]
            · have : i.toNat * d.sz + d.sz ≤ m * d.sz := by rw [← Nat.succ_mul]; exact Nat.mul_le_mul_right _ hgt
              rw [if_neg (by omega), if_neg (by omega)]
          · rw [if_neg hq, if_neg hq]
        rw [hcells]
        refine d.M_move (fun k hk => hfar k (fun he => hk.2 (by rw [he]; exact hgo))) hold
end
end Kd
namespace Kd
section
variable {α : Type} {F : Kd α → Kd α} {sz : Nat} {E : List Nat} {hs : ∀ n, (upto F sz E n).sz = sz} {hE : ∀ n q, q ∈ (upto F sz E n).E → q ∈ E}
end
end Kd
namespace Kd
theorem reps_append {α : Type} {R : α → List Value → Prop} {size : Nat} {ps qs : List α} {cs ds : List Value} (h : Reps R size ps cs) (h' : Reps R size qs ds) : Reps R size (ps ++ qs) (cs ++ ds) := by
  refine ⟨by rw [List.length_append, List.length_append, h.1, h'.1, Nat.add_mul], fun j p hj => ?_⟩
  rcases Nat.lt_or_ge j ps.length with hlt | hge
  · rw [List.getElem?_append_left hlt] at hj
    have hle : j * size + size ≤ cs.length := by rw [h.1, ← Nat.succ_mul]; exact Nat.mul_le_mul_right _ hlt
    rw [List.drop_append_of_le_length (by omega), List.take_append_of_le_length (by rw [List.length_drop]; omega)]
    exact h.2 j p hj
  · rw [List.getElem?_append_right hge] at hj
    have h2 := h'.2 (j - ps.length) p hj
    have hle : ps.length * size ≤ j * size := Nat.mul_le_mul_right _ hge
    rw [List.drop_append, List.drop_eq_nil_of_le (by rw [h.1]; exact hle), List.nil_append, h.1, ← Nat.sub_mul]
    exact h2
section
variable {P : Program} {ops : Array Oper} {rest : List Oper} {o : Oper} {a : Act} {Q : Exit → Act → World → Prop} {α : Type}
theorem R_append_rows (d : Kd α) {Rr : α → List Value → Prop} {w0 W : World} (base : Nat) (hgd : o.guard = none) (s x : Operand) (t e : TypeId) (z : Value) (bytes : Nat)
    (ho : o.op = .call { callee := .builtin .append, args := #[s, x], argTypes := #[t, t] })
    (ht : P.underlying t = some (.slice e)) (hinfo : (P.info? e).map (fun i => (i.zero, i.size, i.bytes)) = some (some z, d.sz, bytes)) (hz : z.cells.size = d.sz) (hs0 : 0 < d.sz) (hb0 : 0 < bytes)
    (v : Value) (xs ys : List α) (A : Option Addr) (m c : Nat) (ok okp : Nat → Prop) (hs : a.eval s = v) (hx : a.eval x = .slice A m c)
    (HO : d.R e W base ok v xs) (HR : ReadsRow Rr d.sz W A m ys) (hKM : ∀ x cs, Rr x cs → d.M W base okp x cs) (hokp : ∀ k, okp k → ok k ∧ some k ≠ v.ownBlock) (hfresh : ∀ k, W.heap.size ≤ k → ok k)
    (HB : Below base w0 W) (hbase : base ≤ W.heap.size) (hl : (xs.length + m) * bytes ≤ 140737488355328)
    (h : ∀ v1 w1, d.R e w1 base ok v1 (xs ++ ys) → Below base w0 w1 → W.grownBy w1 v.ownBlock → (v1.ownBlock = v.ownBlock ∨ ∃ b, v1.ownBlock = some b ∧ W.heap.size ≤ b) → wpList P ops Q rest (a.put o.dst v1) w1) :
    wpList P ops Q (o :: rest) a W := by
  obtain ⟨i0, hi, hzz⟩ := Option.map_eq_some_iff.1 hinfo
  simp only [Prod.mk.injEq] at hzz
  obtain ⟨hz0, hz1, hz2⟩ := hzz
  have hm : ys.length = m := HR.1
  have hlen : xs.length + m ≤ 140737488355328 := Nat.le_trans (Nat.le_mul_of_pos_right _ hb0) hl
  obtain ⟨hok, inner, hown, hr⟩ := HO
  have hrun : ∃ v1 w1, (Builtin.append_ #[t, t] o.type #[v, .slice A m c]).run P W = .ok v1 w1 ∧ d.R e w1 base ok v1 (xs ++ ys) ∧ W.grownBy w1 v.ownBlock ∧ (v1.ownBlock = v.ownBlock ∨ ∃ b, v1.ownBlock = some b ∧ W.heap.size ≤ b) := by
    rcases A with _ | ad
    · have h0 : m = 0 := by
        rcases Nat.eq_zero_or_pos m with h0 | h0
        · exact h0
        · obtain ⟨ad, h, _⟩ := HR.2.2 h0
          cases h
      subst h0
      obtain rfl : ys = [] := List.eq_nil_of_length_eq_zero hm
      refine ⟨v, W, ?_, by rw [List.append_nil]; exact ⟨hok, inner, hown, hr⟩, World.grownBy.refl W _, .inl rfl⟩
      rcases hown.2 with ⟨rfl, hn⟩ | ⟨g, cap, cur, rfl, _, _, hnc, _⟩
      · simp [Builtin.append_, run_underlying ht, sizeOf, typeInfo, hi, Builtin.lenOf, Builtin.firstCells]
      · simp [Builtin.append_, run_underlying ht, sizeOf, typeInfo, hi, Builtin.lenOf, Builtin.firstCells, hnc, storeCells]
    · obtain ⟨news, hnr, hnc⟩ := ReadsRow.inner_ HR
      have hnM : Reps (d.M W base okp) d.sz ys news := hnr.imp_ (fun p c hp => hKM p c hp)
      have hone : ∀ u ∈ news, u.oneCell' = true := by
        intro u hu
        obtain ⟨q, hq, rfl⟩ := List.mem_iff_getElem.1 hu
        have hql : q / d.sz < ys.length := by
          rw [Nat.div_lt_iff_lt_mul hs0]
          rw [← hnM.1]
          exact hq
        have hc := hnM.2 (q / d.sz) _ (List.getElem?_eq_getElem hql)
        refine d.K_one (d.K_of_M hc) _ ?_
        rw [List.mem_iff_getElem?]
        refine ⟨q % d.sz, ?_⟩
        rw [List.getElem?_take, if_pos (Nat.mod_lt _ hs0), List.getElem?_drop, Nat.mul_comm, Nat.div_add_mod, List.getElem?_eq_getElem hq]
      obtain ⟨v1, w1, hrun, h2, hg, _, hat⟩ := run_append_own_at (P := P) W base t o.type e i0 z d.sz bytes ht hi hz0 hz1 hz2 hz hs0 v xs.length inner hown ad m c news (by rw [hnM.1, hm]) hnc hone (by simp only [maxLen]; omega) hl hbase
      have hat' : v1.ownBlock = v.ownBlock ∨ ∃ b, v1.ownBlock = some b ∧ W.heap.size ≤ b := by
        rcases hat with hat | hat
        · exact .inl hat
        · exact .inr ⟨_, hat, Nat.le_refl _⟩
      have hne : ∀ k, some k ≠ v.ownBlock → k < W.heap.size → some k ≠ v1.ownBlock := by
        intro k hk hlt
        rcases hat' with hat | ⟨b, hb, hle⟩
        · rw [hat]; exact hk
        · rw [hb]
          intro he
          injection he with he
          omega
      have step : ∀ {q : α} {c : List Value} {o : Nat → Prop}, d.M W base o q c → (∀ k, o k → ok k ∧ some k ≠ v.ownBlock) → d.M w1 base (fun k => ok k ∧ some k ≠ v1.ownBlock) q c := by
        intro q c o hq ho
        have h1 := d.M_move (w1 := w1) (fun k hk => hg.block k hk.2.2.1 (ho k hk.1).2) (d.M_bound hq)
        exact d.M_mono (fun k hk => ⟨(ho k hk.1).1, hne k (ho k hk.1).2 hk.2.2.1⟩) h1
      refine ⟨v1, w1, hrun, ⟨fun k hk => ?_, inner ++ news, by rw [List.length_append, hm]; exact h2, reps_append (hr.imp_ (fun _ _ hq => step hq (fun _ hk => hk))) (hnM.imp_ (fun _ _ hq => step hq hokp))⟩, hg, hat'⟩
      rcases hat' with hat | ⟨b, hb, hle⟩
      · exact hok k (hat ▸ hk)
      · rw [hb] at hk
        injection hk with hk
        exact hfresh k (by omega)
  obtain ⟨v1, w1, hr1, h1, hg, hat⟩ := hrun
  refine wpList_plain hgd fun K hK => ?_
  unfold Oper.wp execOp
  simp only [ho, resolve, invoke, builtin, Sem.run_bind, Sem.run_pure, Result.andThen_ok, List.map_toArray, List.map_cons, List.map_nil, hs, hx, hr1]
  exact hK _ _ (h v1 w1 h1 (HB.grown hg hbase (own_base hown)) hg hat)
end
end Kd
namespace Kd
section
variable {P : Program} {ops : Array Oper} {rest : List Oper} {o : Oper} {a : Act} {Q : Exit → Act → World → Prop} {α : Type}
end
end Kd
namespace Kd
section
variable {α : Type} {k : Kd α} {w : World} {A : Option Addr} {xs : List α} {m c : Nat}
end
end Kd
section
variable {P : Program}
end
namespace Kd
section
variable {α β : Type} {d : Kd α} {d' : Kd β} {e e' base base' n : Nat} {ok ok' : Nat → Prop} {w W w1 W1 : World} {v u : Value} {xs : List α} {ys : List β} {A : Option Addr} {c : Nat}
end
section
variable {α : Type} {enc : α → Value} {h1 : ∀ x, (enc x).oneCell' = true} {w W : World} {A : Option Addr} {n g : Nat} {xs : List α}
end
end Kd
namespace Kd
section
variable {α : Type} {d : Kd α} {e base g : Nat} {ok : Nat → Prop} {w w1 : World} {v : Value} {xs : List α} {o : Obj}
end
end Kd
section
variable {P : Program} {ops : Array Oper} {rest : List Oper} {o : Oper} {a : Act} {Q : Exit → Act → World → Prop}
end
namespace Kd
section
variable {α : Type} {enc : α → Value} {h1 : ∀ x, (enc x).oneCell' = true} {e base g n cap : Nat} {ok : Nat → Prop} {W : World} {xs : List α}
end
end Kd
section
variable {P : Program} {ops : Array Oper} {rest : List Oper} {o : Oper} {a : Act} {Q : Exit → Act → World → Prop}
end
namespace Kd
section
variable {α : Type} {enc : α → Value} {h1 : ∀ x, (enc x).oneCell' = true} {e base g n cap : Nat} {ok : Nat → Prop} {W : World} {xs : List α}
end
end Kd
section
variable {P : Program} {ops : Array Oper} {rest : List Oper} {o : Oper} {a : Act} {Q : Exit → Act → World → Prop} {W : World}
end
section
variable {P : Program} {ops : Array Oper} {o : Oper} {a : Act} {Q : Exit → Act → World → Prop} {Kc : Act → World → Prop}
namespace Kd
variable {α : Type}
end Kd
end
section
variable {P : Program} {tmps : Array Value} {w : World}
end
namespace Kd
section
variable {P : Program} {α : Type}
end
section
variable {P : Program} {ops : Array Oper} {rest : List Oper} {o : Oper} {a : Act} {Q : Exit → Act → World → Prop} {Kc : Act → World → Prop} {α : Type}
end
end Kd
end Go.Proofs.YtflolfbkpjgjaaaGreatDoorW.PrintWords
end
section
namespace Go.Proofs.YtflolfbkpjgjaaaGreatDoorW.PrintWords
open Go.RowKit
namespace Kd
def bare {α : Type} (d : Kd α) : Kd α where
  sz := d.sz
  E := d.E
  K := d.K
  M := fun w base _ x cs => d.M w base (fun _ => False) x cs
  K_len := fun h => d.K_len h
  K_one := fun h => d.K_one h
  K_below := fun hb h => d.K_below hb h
  K_of_M := fun h => d.K_of_M h
  M_mono := fun _ h => h
  M_bound := fun h => h
  M_move := fun _ h => d.M_move (fun _ hk => hk.elim) h
  M_lower := fun hb h => d.M_lower hb h
section
variable {α β : Type} {d : Kd α} {d' : Kd β} {e e' : Nat} {w w1 W : World} {base b : Nat} {ok ok' okv oku : Nat → Prop} {u v : Value} {xs : List α} {ys : List β}
end
section
variable {α β : Type} {d : Kd α} {d' : Kd β} {e e' g : Nat} {w w1 W : World} {base b : Nat} {ok ok' okv oku : Nat → Prop} {u v : Value} {xs : List α} {ys : List β}
end
section
variable {P : Program} {ops : Array Oper} {rest : List Oper} {o : Oper} {a : Act} {Q : Exit → Act → World → Prop} {Kc : Act → World → Prop} {α : Type}
end
section
variable {α β : Type} {d : Kd α} {e e' g n cap : Nat} {w w1 W : World} {base : Nat} {ok ok' oki okp : Nat → Prop} {u v : Value} {xs : List α} {i : Int} {c : List Value}
end
section
variable {P : Program} {ops : Array Oper} {rest : List Oper} {o : Oper} {a : Act} {Q : Exit → Act → World → Prop} {α : Type}
end
end Kd
end Go.Proofs.YtflolfbkpjgjaaaGreatDoorW.PrintWords
end
section
namespace Go.Proofs.YtflolfbkpjgjaaaGreatDoor
open Go.RowKit Go.Proofs.YtflolfbkpjgjaaaGreatDoorW.PrintWords
open Go.Proofs.YtflolfbkpjgjaaaGreatDoorW.PrintLast Go.Proofs.YtflolfbkpjgjaaaGreatDoorW.PrintMore
attribute [local go_sem] max2_int min2_int max_two min_two max_three min_three max_four min_four
theorem kTrn_openM {w : World} {base : Nat} {ok : Nat → Prop} {x : Trn} {cs : List Value} (h : kTrn.M w base ok x cs) : cs = [.int .i64 x.gate, .int .i64 x.clock, .int .i64 x.frm, .int .i64 x.clock2, .int .i64 x.til, .int .i64 x.cost] := by
  obtain ⟨_, _, rfl, rfl, ⟨_, _, rfl, rfl, ⟨_, _, rfl, rfl, ⟨_, _, rfl, rfl, ⟨_, _, rfl, rfl, rfl⟩⟩⟩⟩⟩ := h
  exact rfl
end Go.Proofs.YtflolfbkpjgjaaaGreatDoor
end
section
namespace Go.Proofs.YtflolfbkpjgjaaaGreatDoor
theorem mem_ints_nat {p : List Nat} {i : Nat} : (i : Int) ∈ intsN p ↔ i ∈ p := by
  rw [mem_ints]
  constructor
  · rintro ⟨k, h, e⟩
    obtain rfl : i = k := by omega
    exact h
  · exact fun h => ⟨i, h, rfl⟩
end Go.Proofs.YtflolfbkpjgjaaaGreatDoor
end
section
namespace Go.Proofs.YtflolfbkpjgjaaaGreatDoor
theorem planE_iff {r : Ros} {gate : Int} (V : Valid r) (h0 : 0 ≤ gate) (h1 : gate < r.gates) (l : List Int) : checkPlanE r gate l = 0 ↔ ∃ p, l = intsN p ∧ Plan (grOf r gate) p := by
  rw [checkPlanE_zero V h0 h1, ← planB_iff V]
  cases planB r gate l <;> simp
theorem plan_in {r : Ros} {gate : Int} {p : List Nat} (h : Plan (grOf r gate) p) : (∀ x ∈ intsN p, 0 ≤ x ∧ x < r.turns.length) ∧ diffB (intsN p) = true := by
  have hb := (planB_ints gate (fun x hx => (h.way.own x hx).1)).2 h
  refine ⟨fun x hx => ?_, ?_⟩
  · obtain ⟨i, hi, rfl⟩ := mem_ints.1 hx
    have : i < r.turns.length := (h.way.own i hi).1
    omega
  · unfold planB at hb
    simp only [Bool.and_eq_true] at hb
    exact hb.2.1
end Go.Proofs.YtflolfbkpjgjaaaGreatDoor
end
section
namespace Go.Proofs.YtflolfbkpjgjaaaGreatDoor
structure Priced (r : Ros) (gate cost : Int) (p : List Int) : Prop where
  cst : 0 ≤ cost ∧ cost ≤ 1048576
  len : p.length = r.turns.length
  bnd : ∀ x ∈ p, 0 ≤ x ∧ x ≤ 1048576
  beg : ∀ i : Nat, i < r.turns.length → (tn r (i : Int)).gate = gate → begB r (i : Int) = true → p.getD i 0 ≤ (tn r (i : Int)).cost
  fin : ∀ i : Nat, i < r.turns.length → (tn r (i : Int)).gate = gate → endB r (i : Int) = true → cost ≤ p.getD i 0
  fol : ∀ i k : Nat, i < r.turns.length → k < r.turns.length → (tn r (i : Int)).gate = gate → folB r (k : Int) (i : Int) = true → p.getD i 0 ≤ p.getD k 0 + (tn r (i : Int)).cost
theorem Priced.way {r : Ros} {gate cost : Int} {p : List Int} (h : Priced r gate cost p) : ∀ (l : List Nat) (i : Nat), Way (grOf r gate) (l ++ [i]) → p.getD i 0 ≤ costL r (intsN (l ++ [i])) := by
  intro l
  induction hn : l.length generalizing l with
  | zero =>
    intro i hw
    obtain rfl := List.eq_nil_of_length_eq_zero hn
    have ho := hw.own i (by simp)
    have hb := hw.beg i rfl
    have hg : (tn r (i : Int)).gate = gate := by have h2 : ((tn r (i : Int)).gate == gate) = true := ho.2; simpa using h2
    have := h.beg i ho.1 hg hb
    simpa [costL, intsN] using this
  | succ n ih =>
    intro i hw
    obtain ⟨q, j, rfl⟩ : ∃ q j, l = q ++ [j] := ⟨l.dropLast, l.getLast (by intro e; rw [e] at hn; simp at hn), (List.dropLast_concat_getLast (by intro e; rw [e] at hn; simp at hn)).symm⟩
    have hq : Way (grOf r gate) (q ++ [j]) := hw.front (by simp)
    have h1 := ih q (by simpa using hn) j hq
    have ho := hw.own i (by simp)
    have hoj := hw.own j (by simp)
    have hg : (tn r (i : Int)).gate = gate := by have h2 : ((tn r (i : Int)).gate == gate) = true := ho.2; simpa using h2
    have hf : folB r (j : Int) (i : Int) = true := hw.chn.last2
    have h2 := h.fol i j ho.1 hoj.1 hg hf
    have e : costL r (intsN (q ++ [j] ++ [i])) = costL r (intsN (q ++ [j])) + (tn r (i : Int)).cost := by
      unfold costL intsN
      simp
      omega
    rw [e]
    omega
theorem Priced.plan {r : Ros} {gate cost : Int} {p : List Int} (h : Priced r gate cost p) {q : List Nat} (hq : Plan (grOf r gate) q) : cost ≤ costL r (intsN q) := by
  obtain ⟨l, i, rfl⟩ : ∃ l i, q = l ++ [i] := ⟨q.dropLast, q.getLast hq.way.ne, (List.dropLast_concat_getLast hq.way.ne).symm⟩
  have h1 := h.way l i hq.way
  have ho := hq.way.own i (by simp)
  have hg : (tn r (i : Int)).gate = gate := by have h2 : ((tn r (i : Int)).gate == gate) = true := ho.2; simpa using h2
  have h2 := h.fin i ho.1 hg (hq.fin i (by simp))
  omega
end Go.Proofs.YtflolfbkpjgjaaaGreatDoor
end
section
namespace Go.Proofs.YtflolfbkpjgjaaaGreatDoor
theorem best_cost {r : Ros} {gate : Int} (V : Valid r) {P q : List Nat} (hB : Best (grOf r gate) (wtBy r) P) (hq : Plan (grOf r gate) q) : P ≠ [] ∧ costL r (intsN P) ≤ costL r (intsN q) := by
  obtain ⟨h1, h2⟩ := hB.least q hq
  exact ⟨h1, key_costs V (hB.plan.resolve_left h1).way hq.way h2⟩
end Go.Proofs.YtflolfbkpjgjaaaGreatDoor
end
section
namespace Go.Proofs.YtflolfbkpjgjaaaGreatDoor
theorem chn_on {f g : Nat → Nat → Bool} : ∀ p : List Nat, (∀ x ∈ p, ∀ y ∈ p, f x y = true → g x y = true) → Chn f p → Chn g p
  | [], _, _ => trivial
  | [a], _, _ => trivial
  | a :: b :: l, h, hc => ⟨h a (by simp) b (by simp) hc.1, chn_on (b :: l) (fun x hx y hy => h x (List.mem_cons_of_mem _ hx) y (List.mem_cons_of_mem _ hy)) hc.2⟩
theorem head_in {p : List Nat} {x : Nat} (h : p.head? = some x) : x ∈ p := by
  cases p with
  | nil => simp at h
  | cons a p => (obtain rfl : a = x := by simpa using h); exact List.mem_cons_self ..
theorem plan_on {r s : Ros} {gate gate2 : Int} {p : List Nat} (hn : ∀ x ∈ p, x < r.turns.length → (tn r (x : Int)).gate = gate → x < s.turns.length ∧ (tn s (x : Int)).gate = gate2)
    (hb : ∀ x ∈ p, begB r (x : Int) = true → begB s (x : Int) = true) (he : ∀ x ∈ p, endB r (x : Int) = true → endB s (x : Int) = true)
    (hf : ∀ x ∈ p, ∀ y ∈ p, folB r (x : Int) (y : Int) = true → folB s (x : Int) (y : Int) = true) (h : Plan (grOf r gate) p) : Plan (grOf s gate2) p := by
  refine ⟨⟨h.way.ne, fun x hx => ?_, h.way.nd, fun x hx => hb x (head_in hx) (h.way.beg x hx), chn_on p hf h.way.chn⟩, fun x hx => he x (List.mem_of_getLast? hx) (h.fin x hx)⟩
  obtain ⟨h1, h2⟩ := h.way.own x hx
  have h2' : ((tn r (x : Int)).gate == gate) = true := h2
  obtain ⟨a, b⟩ := hn x hx h1 (beq_iff_eq.1 h2')
  exact ⟨a, beq_iff_eq.2 b⟩
theorem plan_own {r : Ros} {gate : Int} {p : List Nat} (h : Plan (grOf r gate) p) {x : Nat} (hx : x ∈ p) : x < r.turns.length ∧ (tn r (x : Int)).gate = gate := by
  obtain ⟨h1, h2⟩ := h.way.own x hx
  have h2' : ((tn r (x : Int)).gate == gate) = true := h2
  exact ⟨h1, beq_iff_eq.1 h2'⟩
def laT (r : Ros) (t : Nat) : Trn := ⟨r.gates, (tn r (t : Int)).clock, (tn r (t : Int)).frm, (tn r (t : Int)).clock2, (tn r (t : Int)).til, (tn r (t : Int)).cost⟩
def laR (r : Ros) (t : Nat) : Ros := ⟨r.gates + 1, r.frm, r.til, r.ahead, r.turns.set t (laT r t)⟩
theorem la_len (r : Ros) (t : Nat) : (laR r t).turns.length = r.turns.length := by simp [laR]
theorem la_tn {r : Ros} {t : Nat} (ht : t < r.turns.length) (i : Nat) : tn (laR r t) (i : Int) = if i = t then laT r t else tn r (i : Int) := by
  show (r.turns.set t (laT r t)).getD i Trn.z = _
  rw [getD_set]
  by_cases h : i = t
  · subst h
    rw [if_pos ⟨rfl, ht⟩, if_pos rfl]
  · rw [if_neg (fun e => h e.1.symm), if_neg h]
    rfl
theorem la_same {r : Ros} {t : Nat} (ht : t < r.turns.length) (i : Nat) :
    (tn (laR r t) (i : Int)).clock = (tn r (i : Int)).clock ∧ (tn (laR r t) (i : Int)).frm = (tn r (i : Int)).frm ∧ (tn (laR r t) (i : Int)).clock2 = (tn r (i : Int)).clock2 ∧
    (tn (laR r t) (i : Int)).til = (tn r (i : Int)).til ∧ (tn (laR r t) (i : Int)).cost = (tn r (i : Int)).cost := by
  rw [la_tn ht]
  split
  · rename_i h
    subst h
    exact ⟨rfl, rfl, rfl, rfl, rfl⟩
  · exact ⟨rfl, rfl, rfl, rfl, rfl⟩
theorem la_gate {r : Ros} {t : Nat} (ht : t < r.turns.length) {i : Nat} (h : i ≠ t) : (tn (laR r t) (i : Int)).gate = (tn r (i : Int)).gate := by rw [la_tn ht, if_neg h]
theorem la_gate_t {r : Ros} {t : Nat} (ht : t < r.turns.length) : (tn (laR r t) (t : Int)).gate = r.gates := by rw [la_tn ht, if_pos rfl]; rfl
theorem la_beg {r : Ros} {t : Nat} (ht : t < r.turns.length) (i : Nat) : begB (laR r t) (i : Int) = begB r (i : Int) := by
  obtain ⟨h1, h2, h3, h4, h5⟩ := la_same ht i
  unfold begB begLate
  rw [h1, h2]
  rfl
theorem la_end {r : Ros} {t : Nat} (ht : t < r.turns.length) (i : Nat) : endB (laR r t) (i : Int) = endB r (i : Int) := by
  obtain ⟨h1, h2, h3, h4, h5⟩ := la_same ht i
  unfold endB endLate
  rw [h3, h4]
  rfl
theorem la_meet {r : Ros} {t : Nat} (ht : t < r.turns.length) (i j : Nat) : meetLate (laR r t) (i : Int) (j : Int) = meetLate r (i : Int) (j : Int) := by
  obtain ⟨h1, h2, h3, h4, h5⟩ := la_same ht i
  obtain ⟨k1, k2, k3, k4, k5⟩ := la_same ht j
  unfold meetLate
  rw [h3, h4, k1, k2]
  rfl
theorem la_fol {r : Ros} {t : Nat} (ht : t < r.turns.length) {i j : Nat} (hi : i ≠ t) (hj : j ≠ t) : folB (laR r t) (i : Int) (j : Int) = folB r (i : Int) (j : Int) := by
  unfold folB
  rw [la_gate ht hi, la_gate ht hj, la_meet ht]
theorem la_valid {r : Ros} (V : Valid r) {t : Nat} (ht : t < r.turns.length) (h8 : r.gates ≠ 8) : Valid (laR r t) where
  gates := by have := V.gates; show 1 ≤ r.gates + 1 ∧ r.gates + 1 ≤ 8; omega
  frm := V.frm
  frmtil := V.frmtil
  til := V.til
  clocks := V.clocks
  turns := by rw [la_len]; exact V.turns
  row := V.row
  zero := V.zero
  bnd := V.bnd
  tri := V.tri
  turn := fun i i0 i1 => by
    rw [la_len] at i1
    obtain ⟨i, rfl⟩ := Int.eq_ofNat_of_zero_le i0
    obtain ⟨h1, h2, h3, h4, h5⟩ := la_same ht i
    have hv := V.turn (i : Int) (by omega) i1
    rw [h1, h2, h3, h4, h5]
    refine ⟨?_, hv.2⟩
    show _ ∧ _ < r.gates + 1
    by_cases e : i = t
    · subst e
      have := V.gates
      rw [la_gate_t ht]
      omega
    · rw [la_gate ht e]
      omega
theorem la_plan {r : Ros} {t : Nat} (ht : t < r.turns.length) {gate : Int} (hg : gate < r.gates) {p : List Nat} : Plan (grOf (laR r t) gate) p ↔ Plan (grOf r gate) p ∧ t ∉ p := by
  constructor
  · intro h
    have hne : ∀ x ∈ p, x ≠ t := fun x hx e => by
      subst e
      have := (plan_own h hx).2
      rw [la_gate_t ht] at this
      omega
    refine ⟨plan_on (fun x hx h1 h2 => ?_) (fun x hx h => by rwa [la_beg ht] at h) (fun x hx h => by rwa [la_end ht] at h) (fun x hx y hy h => by rwa [la_fol ht (hne x hx) (hne y hy)] at h) h, fun hm => hne t hm rfl⟩
    rw [la_len] at h1
    rw [la_gate ht (hne x hx)] at h2
    exact ⟨h1, h2⟩
  · rintro ⟨h, hn⟩
    have hne : ∀ x ∈ p, x ≠ t := fun x hx e => hn (e ▸ hx)
    refine plan_on (fun x hx h1 h2 => ?_) (fun x hx h => by rwa [la_beg ht]) (fun x hx h => by rwa [la_end ht]) (fun x hx y hy h => by rwa [la_fol ht (hne x hx) (hne y hy)]) h
    rw [la_len, la_gate ht (hne x hx)]
    exact ⟨h1, h2⟩
theorem la_wt {r : Ros} {t : Nat} (ht : t < r.turns.length) : wtBy (laR r t) = wtBy r := by
  funext i
  unfold wtBy cst
  rw [(la_same ht i).2.2.2.2]
theorem la_best {r : Ros} {t : Nat} (ht : t < r.turns.length) {gate : Int} (hg : gate < r.gates) {P : List Nat} (h : Best (grOf r gate) (wtBy r) P) (hn : t ∉ P) : Best (grOf (laR r t) gate) (wtBy (laR r t)) P := by
  refine ⟨h.plan.imp id fun hp => (la_plan ht hg).2 ⟨hp, hn⟩, fun p hp => ?_⟩
  rw [la_wt ht]
  exact h.least p ((la_plan ht hg).1 hp).1
def inL (l : List Int) (x : Int) : Bool := l.any fun y => x == y
theorem inL_iff {l : List Int} {x : Int} : inL l x = true ↔ x ∈ l := by
  unfold inL
  rw [List.any_eq_true]
  exact ⟨fun ⟨y, hy, e⟩ => by rw [beq_iff_eq.1 e]; exact hy, fun h => ⟨x, h, beq_iff_eq.2 rfl⟩⟩
theorem inL_no {l : List Int} {x : Int} : inL l x = false ↔ x ∉ l := by rw [← inL_iff, Bool.not_eq_true]
theorem needed_iff {r : Ros} (V : Valid r) {gate : Int} (h0 : 0 ≤ gate) (h1 : gate < r.gates) (x : Int) : x ∈ neededO r gate ↔ planR r gate ≠ [] ∧ (0 ≤ x ∧ x < r.turns.length) ∧ (tn r x).gate = gate ∧ ¬ ∃ p, Plan (grOf r gate) p ∧ ∀ y ∈ p, (y : Int) ≠ x := by
  unfold neededO
  rw [gatedE_good V h0 h1, if_neg (by simp)]
  have hb : withoutB r gate (-1) = true ↔ planR r gate ≠ [] := by
    unfold withoutB
    rw [reach_late_all V, best_ne (planR_best V gate)]
  by_cases h : planR r gate = []
  · have : withoutB r gate (-1) = false := by rw [← Bool.not_eq_true, hb]; exact fun e => e h
    rw [this]
    simp [h]
  · rw [hb.2 h, if_pos rfl]
    unfold neededL
    rw [mem_ownL, Bool.not_eq_true', ← Bool.not_eq_true]
    unfold withoutB
    rw [reach_late V]
    simp [h]
theorem neededE_is {r : Ros} (V : Valid r) {gate : Int} (h0 : 0 ≤ gate) (h1 : gate < r.gates) : neededE r gate = if decide (planR r gate ≠ []) then 0 else 4 := by
  have hb : withoutB r gate (-1) = true ↔ planR r gate ≠ [] := by
    unfold withoutB
    rw [reach_late_all V, best_ne (planR_best V gate)]
  unfold neededE
  rw [gatedE_good V h0 h1, if_neg (by simp)]
  by_cases h : planR r gate = []
  · have : withoutB r gate (-1) = false := by rw [← Bool.not_eq_true, hb]; exact fun e => e h
    rw [this, decide_eq_false (fun e => e h)]
  · rw [hb.2 h, decide_eq_true h]
structure Lacks (r : Ros) (gate : Int) (t : Nat) : Prop where
  both : gapB (laR r t) gate = !decide (planR (laR r t) gate ≠ [])
  gapped : gapB (laR r t) gate = true → checkGapE (laR r t) gate (gapO (laR r t) gate) = 0
  none : planR r gate = [] → planR (laR r t) gate = [] ∧ neededO r gate = []
  all : ∀ l, checkPlanE r gate l = 0 → ((neededO r gate).any fun x => !inL l x) = false
  need : inL (neededO r gate) (t : Int) = true → planR (laR r t) gate = []
  other : planR r gate ≠ [] → inL (neededO r gate) (t : Int) = false → planR (laR r t) gate ≠ []
  cost : planR (laR r t) gate ≠ [] → costL r (intsN (planR r gate)) ≤ costL r (intsN (planR (laR r t) gate)) ∧ (∀ x ∈ intsN (planR (laR r t) gate), 0 ≤ x ∧ x < r.turns.length) ∧ diffB (intsN (planR (laR r t) gate)) = true
  same : planR r gate ≠ [] → inL (intsN (planR r gate)) (t : Int) = false → planR (laR r t) gate = planR r gate
theorem lacks_law {r : Ros} (V : Valid r) {gate : Int} (h0 : 0 ≤ gate) (h1 : gate < r.gates) {t : Nat} (ht : t < r.turns.length) (h8 : r.gates ≠ 8) : Lacks r gate t := by
  have VL := la_valid V ht h8
  have B := planR_best V gate
  have BL := planR_best VL gate
  have h1' : gate < (laR r t).gates := by show gate < r.gates + 1; omega
  have E := either_law VL h0 h1' BL [] []
  have hex : planR (laR r t) gate ≠ [] ↔ ∃ p, Plan (grOf r gate) p ∧ t ∉ p := by
    rw [best_ne BL]
    exact exists_congr fun p => la_plan ht h1
  refine ⟨E.gap, E.gapped, fun h => ⟨?_, ?_⟩, fun l hl => ?_, fun h => ?_, fun h hn => ?_, fun h => ?_, fun h hn => ?_⟩
  · apply Classical.byContradiction
    intro hc
    obtain ⟨p, hp, _⟩ := hex.1 hc
    exact (best_ne B).2 ⟨p, hp⟩ h
  · rw [List.eq_nil_iff_forall_not_mem]
    intro x hx
    exact ((needed_iff V h0 h1 x).1 hx).1 h
  · obtain ⟨p, rfl, hp⟩ := (planE_iff V h0 h1 l).1 hl
    rw [List.any_eq_false]
    intro x hx
    obtain ⟨_, _, _, hno⟩ := (needed_iff V h0 h1 x).1 hx
    rw [Bool.not_eq_true, Bool.not_eq_false', inL_iff]
    apply Classical.byContradiction
    intro hn
    exact hno ⟨p, hp, fun y hy e => hn (mem_ints.2 ⟨y, hy, e.symm⟩)⟩
  · obtain ⟨_, _, _, hno⟩ := (needed_iff V h0 h1 _).1 (inL_iff.1 h)
    apply Classical.byContradiction
    intro hc
    obtain ⟨p, hp, hm⟩ := hex.1 hc
    exact hno ⟨p, hp, fun y hy e => hm (by have : y = t := by omega
                                           exact this ▸ hy)⟩
  · rw [hex]
    have hP := B.plan.resolve_left h
    by_cases hg : (tn r (t : Int)).gate = gate
    · apply Classical.byContradiction
      intro hc
      refine inL_no.1 hn ((needed_iff V h0 h1 _).2 ⟨h, ⟨by omega, by omega⟩, hg, fun ⟨p, hp, hy⟩ => hc ⟨p, hp, fun hm => hy t hm rfl⟩⟩)
    · exact ⟨_, hP, fun hm => hg (plan_own hP hm).2⟩
  · obtain ⟨hp, _⟩ := (la_plan ht h1).1 (BL.plan.resolve_left h)
    exact ⟨(best_cost V B hp).2, plan_in hp⟩
  · have hn' : t ∉ planR r gate := fun hm => inL_no.1 hn (mem_ints_nat.2 hm)
    exact Best.same (by_ord VL gate) BL (la_best ht h1 B hn')
end Go.Proofs.YtflolfbkpjgjaaaGreatDoor
end
section
namespace Go.Proofs.YtflolfbkpjgjaaaGreatDoor
open Go.RowKit Go.Proofs.YtflolfbkpjgjaaaGreatDoorW.PrintWords
open Go.Proofs.YtflolfbkpjgjaaaGreatDoorW.PrintLast Go.Proofs.YtflolfbkpjgjaaaGreatDoorW.PrintMore
set_option maxHeartbeats 2000000 in
set_option maxRecDepth 100000 in
theorem cloneT_calls (A : Option Addr) (c : Nat) (xs : List Trn) (w : World) (hA : CT w A xs.length xs) (hbig : xs.length ≤ 1000000) :
    Calls Tryz.prog 62 #[.slice A xs.length c] w fun e w' => ∃ lv, e = .returned lv ∧ Kd.R kTrn 45 w' w.heap.size (fun k => w.heap.size ≤ k) lv xs ∧ Below w.heap.size w w' := by
  generalize hPost : (fun (e : Ending) (w' : World) => ∃ lv, e = .returned lv ∧ Kd.R kTrn 45 w' w.heap.size (fun k => w.heap.size ≤ k) lv xs ∧ Below w.heap.size w w') = Post
  have HQ : Aside0 (∀ lv w', Kd.R kTrn 45 w' w.heap.size (fun k => w.heap.size ≤ k) lv xs → Below w.heap.size w w' → Post (.returned lv) w') := ⟨fun lv w' a b => hPost ▸ ⟨lv, rfl, a, b⟩⟩
  clear hPost
  have HA := Aside0.mk hA
  cases A with
  | none =>
    have h0 : xs = [] := by
      cases xs with
      | nil => rfl
      | cons x xs => obtain ⟨ad, e, _⟩ := hA.2.2 (by simp); cases e
    subst h0
    have hen : ∀ w n c, (binOp .eql 23 (.slice none n c) (.slice none 0 0)).run Tryz.prog w = .ok (.bool true) w := fun w n c => by kernel_rfl
    clear hA
    go_enter Tryz.func62, Tryz.ntmps62
    go_wp2
    exact HQ.out _ _ (Kd.R_nil _ _ _ _ _) (Below.refl _ _)
  | some ad =>
    have hen : ∀ w n c, (binOp .eql 23 (.slice (some ad) n c) (.slice none 0 0)).run Tryz.prog w = .ok (.bool false) w := fun w n c => by kernel_rfl
    clear hA
    go_enter Tryz.func62, Tryz.ntmps62
    go_wp2_with (first | ((with_reducible refine gate_dst (N := 5) rfl ?_); refine Kd.R_lit kTrn (w0 := w) w.heap.size 45 ?hg (N := 5) ?hd (xs := ([] : List Trn)) (inner := []) (ok := (fun k => w.heap.size ≤ k)) (okp := fun _ => False) ?hr ?hp (fun _ hk => hk.elim) (Nat.le_refl _) (Below.refl _ _) (Nat.le_refl _) (by simp) ?_; (case hd => rfl); (case hg => rfl); (case hr => first | (go_simp; done) | (go_simp; rfl)); (case hp => exact (Reps.none _ _)); intro v5 w5 ho5 hb5 hg5 hnew5; have HO5 := Aside0.mk ho5; have HB5 := Aside0.mk hb5; obtain ⟨A5, c5, e5⟩ := Kd.R_slice ho5; subst e5; clear ho5 hb5 hg5 hnew5) | (at_builtin; refine Kd.R_append_rows kTrn (w0 := w) w.heap.size rfl (.tmp 5) (.tmp 6) 23 45 (.agg #[(.int .i64 0), (.int .i64 0), (.int .i64 0), (.int .i64 0), (.int .i64 0), (.int .i64 0)]) 48 rfl Tryz.underlying23 info45 rfl (by decide) (by omega) _ [] xs _ _ _ (fun k => w.heap.size ≤ k) (fun _ => False) rfl rfl HO5.out (Kd.C_below HA.out HB5.out) (fun _ _ h => h) (fun _ h => h.elim) (fun k hk => Nat.le_trans HB5.out.size hk) HB5.out HB5.out.size (by simp; omega) ?_; intro v1 w1 ho hb hg hat; have HO1 := Aside0.mk ho; have HB1 := Aside0.mk hb; clear ho hb hg hat))
    exact HQ.out _ _ HO1.out HB1.out
theorem bset6 {base g : Nat} {w0 w : World} (h : Below base w0 w) (hg : base ≤ g) (i : Nat) (v : Value) : Below base w0 (w.setCell ⟨g, i, none⟩ v) := h.setCell hg v
theorem alloc_at2' (w : World) (o p : Obj) : ((w.alloc o).alloc p).heap[w.heap.size + 1]? = some p := by
  have := alloc_at (w.alloc o) p
  rwa [alloc_sz] at this
theorem alloc_at3' (w : World) (o p q : Obj) : (((w.alloc o).alloc p).alloc q).heap[w.heap.size + 1 + 1]? = some q := by
  have := alloc_at ((w.alloc o).alloc p) q
  rwa [alloc_sz, alloc_sz] at this
theorem results_cs {P : Program} {fn : Func} {p s : Tmp} {ty : TypeId} (h : fn.results = #[.cell p ty, .tmp s]) (tmps : Array Value) (w : World) (g : Nat) (t : TypeId) (cs : Array Value) (fr : Nat × Nat) (d : TypeDesc) (u : Value)
    (hp : tmps.getD p undef = .pointer (some ⟨g, 0, none⟩)) (hs : tmps.getD s undef = u) (hg : w.heap[g]? = some (.cells cs t fr))
    (hu : P.underlying ty = some d) (hd : (match d with | .struct _ | .array _ _ => true | _ => false) = true) (hi : (P.info? ty).map (·.size) = some cs.size) :
    (results fn tmps).run P w = .ok (.tuple #[.agg cs, u]) w := by
  have hp' : tmps[p]?.getD undef = .pointer (some ⟨g, 0, none⟩) := by simpa using hp
  have hs' : tmps[s]?.getD undef = u := by simpa using hs
  simp [results, h, hp', hs', asAddr, run_loadVar_row w g t ty cs fr d hg hu hd hi]
theorem turns_put {wd : World} {base g6 g4 gc cc n : Nat} {ts : List Trn} {c6 c4 : Array Value} (HR : Kd.R kTrn 45 wd base (fun k => base ≤ k) (.slice (some ⟨gc, 0, none⟩) n cc) ts) (h6 : wd.heap[g6]? = some (.cells c6 25 (0, 0))) (h4 : wd.heap[g4]? = some (.cells c4 25 (0, 0)))
    (i : Int) (i0 : 0 ≤ i) (i1 : i < n) (q : Int) (a0 a4 b0 b1 b2 b3 b4 : Value) :
    CT ((((((((wd.setCell ⟨g6, 4, none⟩ a4).setCell ⟨g6, 0, none⟩ a0).setCell ⟨gc, i.toNat * 6, none⟩ (.int .i64 q)).setCell ⟨g4, 0, none⟩ b0).setCell ⟨g4, 1, none⟩ b1).setCell ⟨g4, 2, none⟩ b2).setCell ⟨g4, 3, none⟩ b3).setCell ⟨g4, 4, none⟩ b4) (some ⟨gc, 0, none⟩) n
      (ts.set i.toNat ⟨q, (ts.getD i.toNat Trn.z).clock, (ts.getD i.toNat Trn.z).frm, (ts.getD i.toNat Trn.z).clock2, (ts.getD i.toNat Trn.z).til, (ts.getD i.toNat Trn.z).cost⟩) := by
  have R0 := Kd.R_types (Kd.R_types HR h6 (by decide)) h4 (by decide)
  have R1 := Kd.R_far (p := ⟨g6, 4, none⟩) R0 (fun _ hk => hk.1.2) a4
  have R2 := Kd.R_far (p := ⟨g6, 0, none⟩) R1 (fun _ hk => hk.1.2) a0
  obtain ⟨ce, hcl, hM, hcc, _⟩ := Kd.R_elem R2 Trn.z i i0 i1
  obtain rfl := kTrn_openM hM
  have R3 := (Kd.R_seg R2 i i0 i1 (seg := [.int .i64 q]) (j := 0) hcl hcc (show 1 ≤ 6 from by decide) (okp := fun _ => False) (x' := ⟨q, (ts.getD i.toNat Trn.z).clock, (ts.getD i.toNat Trn.z).frm, (ts.getD i.toNat Trn.z).clock2, (ts.getD i.toNat Trn.z).til, (ts.getD i.toNat Trn.z).cost⟩) (kTrn_mkM _ _ _ _) (fun _ h => h.elim)).1
  have R4 := Kd.R_far (p := ⟨g4, 0, none⟩) R3 (fun _ hk => hk.2) b0
  have R5 := Kd.R_far (p := ⟨g4, 1, none⟩) R4 (fun _ hk => hk.2) b1
  have R6 := Kd.R_far (p := ⟨g4, 2, none⟩) R5 (fun _ hk => hk.2) b2
  have R7 := Kd.R_far (p := ⟨g4, 3, none⟩) R6 (fun _ hk => hk.2) b3
  have R8 := Kd.R_far (p := ⟨g4, 4, none⟩) R7 (fun _ hk => hk.2) b4
  obtain ⟨e, _, hC⟩ := Kd.R_reads' R8
  rw [e]
  exact hC
set_option maxHeartbeats 4000000 in
set_option maxRecDepth 100000 in
theorem lacking_calls (v : Value) (r : Ros) (t : Int) (w : World) (V : Valid r) (hv : RosAt w v r) (t0 : 0 ≤ t) (t1 : t < r.turns.length) (h8 : r.gates ≠ 8) :
    Calls Tryz.prog 64 #[v, .int .i64 t] w fun e w' => ∃ rv, e = .returned (.tuple #[rv, .bool true]) ∧ RosAt w' rv (laR r t.toNat) ∧ Below w.heap.size w w' := by
  obtain ⟨A, c, T, d, rfl, h1, h2, h3, h4⟩ := hv
  have H3 := Aside0.mk h3
  have H4 := Aside0.mk h4
  have H1 := Aside0.mk h1
  have hm := V.turns
  have hg := V.gates
  have hpos : 0 < r.turns.length := by omega
  have d8 : (r.gates == 8) = false := beq_eq_false_iff_ne.2 h8
  have hwr : IntKind.i64.wrap (r.gates + 1) = r.gates + 1 := IntWalk.i64_in _ (by omega)
  clear h3 h4 h1 h2 V h8
  go_enter Tryz.func64, Tryz.ntmps64
  go_wp2_with (go_at_call 62; have BK : Aside0 ((((w.alloc (.cells #[.int .i64 r.gates, .int .i64 r.frm, .int .i64 r.til, .slice A r.ahead.length c, .slice T r.turns.length d] 25)).alloc (.cells #[.int .i64 0, .int .i64 0, .int .i64 0, .slice none 0 0, .slice none 0 0] 25)).alloc (.cells #[.int .i64 r.gates, .int .i64 r.frm, .int .i64 r.til, .slice A r.ahead.length c, .slice T r.turns.length d] 25)).heap[w.heap.size]? = some (.cells #[.int .i64 r.gates, .int .i64 r.frm, .int .i64 r.til, .slice A r.ahead.length c, .slice T r.turns.length d] 25 (0, 0))) := ⟨blk_alloc (blk_alloc (alloc_at _ _) _) _⟩; have B4 : Aside0 ((((w.alloc (.cells #[.int .i64 r.gates, .int .i64 r.frm, .int .i64 r.til, .slice A r.ahead.length c, .slice T r.turns.length d] 25)).alloc (.cells #[.int .i64 0, .int .i64 0, .int .i64 0, .slice none 0 0, .slice none 0 0] 25)).alloc (.cells #[.int .i64 r.gates, .int .i64 r.frm, .int .i64 r.til, .slice A r.ahead.length c, .slice T r.turns.length d] 25)).heap[w.heap.size + 1]? = some (.cells #[.int .i64 0, .int .i64 0, .int .i64 0, .slice none 0 0, .slice none 0 0] 25 (0, 0))) := ⟨blk_alloc (alloc_at2' _ _ _) _⟩; have B6 : Aside0 ((((w.alloc (.cells #[.int .i64 r.gates, .int .i64 r.frm, .int .i64 r.til, .slice A r.ahead.length c, .slice T r.turns.length d] 25)).alloc (.cells #[.int .i64 0, .int .i64 0, .int .i64 0, .slice none 0 0, .slice none 0 0] 25)).alloc (.cells #[.int .i64 r.gates, .int .i64 r.frm, .int .i64 r.til, .slice A r.ahead.length c, .slice T r.turns.length d] 25)).heap[w.heap.size + 1 + 1]? = some (.cells #[.int .i64 r.gates, .int .i64 r.frm, .int .i64 r.til, .slice A r.ahead.length c, .slice T r.turns.length d] 25 (0, 0))) := ⟨alloc_at3' _ _ _ _⟩; have HB : Aside0 (Below w.heap.size w (((w.alloc (.cells #[.int .i64 r.gates, .int .i64 r.frm, .int .i64 r.til, .slice A r.ahead.length c, .slice T r.turns.length d] 25)).alloc (.cells #[.int .i64 0, .int .i64 0, .int .i64 0, .slice none 0 0, .slice none 0 0] 25)).alloc (.cells #[.int .i64 r.gates, .int .i64 r.frm, .int .i64 r.til, .slice A r.ahead.length c, .slice T r.turns.length d] 25))) := ⟨below_alloc (below_alloc (below_alloc (Below.refl _ _) _) _) _⟩; have hsz0 : Aside0 (w.heap.size + 1 + 1 < (((w.alloc (.cells #[.int .i64 r.gates, .int .i64 r.frm, .int .i64 r.til, .slice A r.ahead.length c, .slice T r.turns.length d] 25)).alloc (.cells #[.int .i64 0, .int .i64 0, .int .i64 0, .slice none 0 0, .slice none 0 0] 25)).alloc (.cells #[.int .i64 r.gates, .int .i64 r.frm, .int .i64 r.til, .slice A r.ahead.length c, .slice T r.turns.length d] 25)).heap.size) := ⟨blk_lt B6.out⟩; generalize (((w.alloc (.cells #[.int .i64 r.gates, .int .i64 r.frm, .int .i64 r.til, .slice A r.ahead.length c, .slice T r.turns.length d] 25)).alloc (.cells #[.int .i64 0, .int .i64 0, .int .i64 0, .slice none 0 0, .slice none 0 0] 25)).alloc (.cells #[.int .i64 r.gates, .int .i64 r.frm, .int .i64 r.til, .slice A r.ahead.length c, .slice T r.turns.length d] 25)) = wb at *; refine (cloneT_calls T d r.turns _ (Kd.C_below H4.out HB.out) (by omega)).mono ?_; rintro e wd ⟨lv, rfl, hr_, hb_⟩; have HR0 := Aside0.mk (Kd.R_mono (Kd.R_lower hr_ (below_size HB.out)) (fun k hk => Nat.le_trans (below_size HB.out) hk : ∀ k, wb.heap.size ≤ k → w.heap.size ≤ k)); obtain ⟨gc, cc, rfl, hgc, hgc2, _⟩ := Kd.R_form HR0.out hpos; have NG : Aside0 (wb.heap.size ≤ gc) := ⟨Nat.le_trans (Nat.le_refl _) (by obtain ⟨g', c', e', h', _⟩ := Kd.R_form hr_ hpos; cases e'; exact h')⟩; replace BK := Aside0.mk (blk_below BK.out hb_); replace B4 := Aside0.mk (blk_below B4.out hb_); replace B6 := Aside0.mk (blk_below B6.out hb_); replace HB := Aside0.mk (below_step HB.out hb_); have hsz : Aside0 (w.heap.size + 1 + 1 < wb.heap.size) := ⟨hsz0.out⟩; clear hr_ hb_ hgc2 hsz0; have hs6 := blk_lt B6.out; have HGC := Aside0.mk hgc; have HW : Aside0 (w.heap.size + 1 + 1 < wb.heap.size) := ⟨hsz.out⟩; have NG4 : Aside0 (w.heap.size + 1 ≠ gc) := ⟨by have := NG.out; have := HW.out; omega⟩; have NG46 : Aside0 (w.heap.size + 1 ≠ w.heap.size + 1 + 1) := ⟨by omega⟩; have n1 : w.heap.size + 1 ≠ gc := NG4.out; have n2 : gc ≠ w.heap.size + 1 := fun e => NG4.out e.symm; have n3 : w.heap.size + 1 + 1 ≠ gc := (by have := NG.out; have := HW.out; omega); have n4 : gc ≠ w.heap.size + 1 + 1 := fun e => n3 e.symm; have n5 : w.heap.size ≠ gc := (by have := NG.out; have := HW.out; omega); have n6 : gc ≠ w.heap.size := fun e => n5 e.symm; obtain ⟨q0, q1, q2, q3, q4⟩ := rosC_cells BK.out; have z0 : wd.cell? ⟨w.heap.size + 1 + 1, 0, none⟩ = some (.int .i64 r.gates) := (blk_cell B6.out 0).trans rfl; have y0 := blk_frozen B6.out 0; have z1 : wd.cell? ⟨w.heap.size + 1 + 1, 1, none⟩ = some (.int .i64 r.frm) := (blk_cell B6.out 1).trans rfl; have y1 := blk_frozen B6.out 1; have z2 : wd.cell? ⟨w.heap.size + 1 + 1, 2, none⟩ = some (.int .i64 r.til) := (blk_cell B6.out 2).trans rfl; have y2 := blk_frozen B6.out 2; have z3 : wd.cell? ⟨w.heap.size + 1 + 1, 3, none⟩ = some (.slice A r.ahead.length c) := (blk_cell B6.out 3).trans rfl; have y3 := blk_frozen B6.out 3; have z4 : wd.cell? ⟨w.heap.size + 1 + 1, 4, none⟩ = some (.slice T r.turns.length d) := (blk_cell B6.out 4).trans rfl; have y4 := blk_frozen B6.out 4; have c0 : wd.cell? ⟨w.heap.size + 1, 0, none⟩ = some (.int .i64 0) := (blk_cell B4.out 0).trans rfl; have f0 := blk_frozen B4.out 0; have c1 : wd.cell? ⟨w.heap.size + 1, 1, none⟩ = some (.int .i64 0) := (blk_cell B4.out 1).trans rfl; have f1 := blk_frozen B4.out 1; have c2 : wd.cell? ⟨w.heap.size + 1, 2, none⟩ = some (.int .i64 0) := (blk_cell B4.out 2).trans rfl; have f2 := blk_frozen B4.out 2; have c3 : wd.cell? ⟨w.heap.size + 1, 3, none⟩ = some (.slice none 0 0) := (blk_cell B4.out 3).trans rfl; have f3 := blk_frozen B4.out 3; have c4 : wd.cell? ⟨w.heap.size + 1, 4, none⟩ = some (.slice none 0 0) := (blk_cell B4.out 4).trans rfl; have f4 := blk_frozen B4.out 4; obtain ⟨ce, hcl, hM, hcc, hfr⟩ := Kd.R_elem HR0.out Trn.z t t0 t1; obtain rfl := kTrn_openM hM; have e0 : wd.cell? ⟨gc, t.toNat * 6, none⟩ = some (.int .i64 (r.turns.getD t.toNat Trn.z).gate) := hcc 0 _ rfl; have e1 : wd.frozen? ⟨gc, t.toNat * 6, none⟩ = false := hfr 0; clear hcl hM hcc hfr)
  have HFIN : Aside0 (∀ W, W = ((((((((wd.setCell ⟨(w.heap.size + 1 + 1), 4, none⟩ (.slice (some ⟨gc, 0, none⟩) r.turns.length cc)).setCell ⟨(w.heap.size + 1 + 1), 0, none⟩ (.int .i64 (r.gates + 1))).setCell ⟨gc, t.toNat * 6, none⟩ (.int .i64 r.gates)).setCell ⟨(w.heap.size + 1), 0, none⟩ (.int .i64 (r.gates + 1))).setCell ⟨(w.heap.size + 1), 1, none⟩ (.int .i64 r.frm)).setCell ⟨(w.heap.size + 1), 2, none⟩ (.int .i64 r.til)).setCell ⟨(w.heap.size + 1), 3, none⟩ (.slice A r.ahead.length c)).setCell ⟨(w.heap.size + 1), 4, none⟩ (.slice (some ⟨gc, 0, none⟩) r.turns.length cc)) → RosAt W (.agg #[.int .i64 (r.gates + 1), .int .i64 r.frm, .int .i64 r.til, .slice A r.ahead.length c, .slice (some ⟨gc, 0, none⟩) r.turns.length cc]) (laR r t.toNat) ∧ Below w.heap.size w W ∧ W.heap[w.heap.size + 1]? = some (.cells #[.int .i64 (r.gates + 1), .int .i64 r.frm, .int .i64 r.til, .slice A r.ahead.length c, .slice (some ⟨gc, 0, none⟩) r.turns.length cc] 25 (0, 0))) := ⟨fun W hW => by
    subst hW
    have HBL : Below w.heap.size w ((((((((wd.setCell ⟨(w.heap.size + 1 + 1), 4, none⟩ (.slice (some ⟨gc, 0, none⟩) r.turns.length cc)).setCell ⟨(w.heap.size + 1 + 1), 0, none⟩ (.int .i64 (r.gates + 1))).setCell ⟨gc, t.toNat * 6, none⟩ (.int .i64 r.gates)).setCell ⟨(w.heap.size + 1), 0, none⟩ (.int .i64 (r.gates + 1))).setCell ⟨(w.heap.size + 1), 1, none⟩ (.int .i64 r.frm)).setCell ⟨(w.heap.size + 1), 2, none⟩ (.int .i64 r.til)).setCell ⟨(w.heap.size + 1), 3, none⟩ (.slice A r.ahead.length c)).setCell ⟨(w.heap.size + 1), 4, none⟩ (.slice (some ⟨gc, 0, none⟩) r.turns.length cc)) := (bset6 (bset6 (bset6 (bset6 (bset6 (bset6 (bset6 (bset6 HB.out (by omega) (4) (.slice (some ⟨gc, 0, none⟩) r.turns.length cc)) (by omega) (0) (.int .i64 (r.gates + 1))) HGC.out (t.toNat * 6) (.int .i64 r.gates)) (by omega) (0) (.int .i64 (r.gates + 1))) (by omega) (1) (.int .i64 r.frm)) (by omega) (2) (.int .i64 r.til)) (by omega) (3) (.slice A r.ahead.length c)) (by omega) (4) (.slice (some ⟨gc, 0, none⟩) r.turns.length cc))
    exact ⟨⟨A, c, some ⟨gc, 0, none⟩, cc, by rw [la_len]; rfl, H1.out, by rw [la_len]; exact (Kd.R_reads' HR0.out).2.1, Kd.C_below H3.out HBL, by rw [la_len]; exact turns_put HR0.out B6.out B4.out t t0 t1 _ _ _ _ _ _ _ _⟩, HBL, (blk_set (blk_set (blk_set (blk_set (blk_set (blk_far (p := ⟨gc, t.toNat * 6, none⟩) (blk_far (p := ⟨(w.heap.size + 1 + 1), 0, none⟩) (blk_far (p := ⟨(w.heap.size + 1 + 1), 4, none⟩) B4.out NG46.out (.slice (some ⟨gc, 0, none⟩) r.turns.length cc)) NG46.out (.int .i64 (r.gates + 1))) NG4.out (.int .i64 r.gates)) 0 (.int .i64 (r.gates + 1))) 1 (.int .i64 r.frm)) 2 (.int .i64 r.til)) 3 (.slice A r.ahead.length c)) 4 (.slice (some ⟨gc, 0, none⟩) r.turns.length cc))⟩⟩
  go_wp2
  obtain ⟨k1, k2, k3⟩ := HFIN.out _ rfl
  refine bodyPost_ret (results_cs rfl _ _ (w.heap.size + 1) 25 #[.int .i64 (r.gates + 1), .int .i64 r.frm, .int .i64 r.til, .slice A r.ahead.length c, .slice (some ⟨gc, 0, none⟩) r.turns.length cc] (0, 0) _ (.bool true) rfl rfl k3 Tryz.underlying25 rfl (by kernel_rfl)) rfl ?_
  exact ⟨_, rfl, k1, k2⟩
set_option maxHeartbeats 4000000 in
set_option maxRecDepth 100000 in
theorem lacking8_calls (v : Value) (r : Ros) (t : Int) (w : World) (V : Valid r) (hv : RosAt w v r) (t0 : 0 ≤ t) (t1 : t < r.turns.length) (h8 : r.gates = 8) :
    Calls Tryz.prog 64 #[v, .int .i64 t] w fun e w' => ∃ A c T d, e = .returned (.tuple #[.agg #[.int .i64 r.gates, .int .i64 r.frm, .int .i64 r.til, .slice A r.ahead.length c, .slice T r.turns.length d], .bool false]) ∧ Below w.heap.size w w' := by
  obtain ⟨A, c, T, d, rfl, h1, h2, h3, h4⟩ := hv
  have H4 := Aside0.mk h4
  have hm := V.turns
  have hpos : 0 < r.turns.length := by omega
  have d8 : (r.gates == 8) = true := beq_iff_eq.2 h8
  clear h3 h4 h1 h2 V h8
  go_enter Tryz.func64, Tryz.ntmps64
  go_wp2_with (go_at_call 62; have BK : Aside0 ((((w.alloc (.cells #[.int .i64 r.gates, .int .i64 r.frm, .int .i64 r.til, .slice A r.ahead.length c, .slice T r.turns.length d] 25)).alloc (.cells #[.int .i64 0, .int .i64 0, .int .i64 0, .slice none 0 0, .slice none 0 0] 25)).alloc (.cells #[.int .i64 r.gates, .int .i64 r.frm, .int .i64 r.til, .slice A r.ahead.length c, .slice T r.turns.length d] 25)).heap[w.heap.size]? = some (.cells #[.int .i64 r.gates, .int .i64 r.frm, .int .i64 r.til, .slice A r.ahead.length c, .slice T r.turns.length d] 25 (0, 0))) := ⟨blk_alloc (blk_alloc (alloc_at _ _) _) _⟩; have B4 : Aside0 ((((w.alloc (.cells #[.int .i64 r.gates, .int .i64 r.frm, .int .i64 r.til, .slice A r.ahead.length c, .slice T r.turns.length d] 25)).alloc (.cells #[.int .i64 0, .int .i64 0, .int .i64 0, .slice none 0 0, .slice none 0 0] 25)).alloc (.cells #[.int .i64 r.gates, .int .i64 r.frm, .int .i64 r.til, .slice A r.ahead.length c, .slice T r.turns.length d] 25)).heap[w.heap.size + 1]? = some (.cells #[.int .i64 0, .int .i64 0, .int .i64 0, .slice none 0 0, .slice none 0 0] 25 (0, 0))) := ⟨blk_alloc (alloc_at2' _ _ _) _⟩; have B6 : Aside0 ((((w.alloc (.cells #[.int .i64 r.gates, .int .i64 r.frm, .int .i64 r.til, .slice A r.ahead.length c, .slice T r.turns.length d] 25)).alloc (.cells #[.int .i64 0, .int .i64 0, .int .i64 0, .slice none 0 0, .slice none 0 0] 25)).alloc (.cells #[.int .i64 r.gates, .int .i64 r.frm, .int .i64 r.til, .slice A r.ahead.length c, .slice T r.turns.length d] 25)).heap[w.heap.size + 1 + 1]? = some (.cells #[.int .i64 r.gates, .int .i64 r.frm, .int .i64 r.til, .slice A r.ahead.length c, .slice T r.turns.length d] 25 (0, 0))) := ⟨alloc_at3' _ _ _ _⟩; have HB : Aside0 (Below w.heap.size w (((w.alloc (.cells #[.int .i64 r.gates, .int .i64 r.frm, .int .i64 r.til, .slice A r.ahead.length c, .slice T r.turns.length d] 25)).alloc (.cells #[.int .i64 0, .int .i64 0, .int .i64 0, .slice none 0 0, .slice none 0 0] 25)).alloc (.cells #[.int .i64 r.gates, .int .i64 r.frm, .int .i64 r.til, .slice A r.ahead.length c, .slice T r.turns.length d] 25))) := ⟨below_alloc (below_alloc (below_alloc (Below.refl _ _) _) _) _⟩; have hsz0 : Aside0 (w.heap.size + 1 + 1 < (((w.alloc (.cells #[.int .i64 r.gates, .int .i64 r.frm, .int .i64 r.til, .slice A r.ahead.length c, .slice T r.turns.length d] 25)).alloc (.cells #[.int .i64 0, .int .i64 0, .int .i64 0, .slice none 0 0, .slice none 0 0] 25)).alloc (.cells #[.int .i64 r.gates, .int .i64 r.frm, .int .i64 r.til, .slice A r.ahead.length c, .slice T r.turns.length d] 25)).heap.size) := ⟨blk_lt B6.out⟩; generalize (((w.alloc (.cells #[.int .i64 r.gates, .int .i64 r.frm, .int .i64 r.til, .slice A r.ahead.length c, .slice T r.turns.length d] 25)).alloc (.cells #[.int .i64 0, .int .i64 0, .int .i64 0, .slice none 0 0, .slice none 0 0] 25)).alloc (.cells #[.int .i64 r.gates, .int .i64 r.frm, .int .i64 r.til, .slice A r.ahead.length c, .slice T r.turns.length d] 25)) = wb at *; refine (cloneT_calls T d r.turns _ (Kd.C_below H4.out HB.out) (by omega)).mono ?_; rintro e wd ⟨lv, rfl, hr_, hb_⟩; have HR0 := Aside0.mk (Kd.R_mono (Kd.R_lower hr_ (below_size HB.out)) (fun k hk => Nat.le_trans (below_size HB.out) hk : ∀ k, wb.heap.size ≤ k → w.heap.size ≤ k)); obtain ⟨gc, cc, rfl, hgc, hgc2, _⟩ := Kd.R_form HR0.out hpos; have NG : Aside0 (wb.heap.size ≤ gc) := ⟨Nat.le_trans (Nat.le_refl _) (by obtain ⟨g', c', e', h', _⟩ := Kd.R_form hr_ hpos; cases e'; exact h')⟩; replace BK := Aside0.mk (blk_below BK.out hb_); replace B4 := Aside0.mk (blk_below B4.out hb_); replace B6 := Aside0.mk (blk_below B6.out hb_); replace HB := Aside0.mk (below_step HB.out hb_); have hsz : Aside0 (w.heap.size + 1 + 1 < wb.heap.size) := ⟨hsz0.out⟩; clear hr_ hb_ hgc2 hsz0; have hs6 := blk_lt B6.out; have HGC := Aside0.mk hgc; have HW : Aside0 (w.heap.size + 1 + 1 < wb.heap.size) := ⟨hsz.out⟩; have NG4 : Aside0 (w.heap.size + 1 ≠ gc) := ⟨by have := NG.out; have := HW.out; omega⟩; have NG46 : Aside0 (w.heap.size + 1 ≠ w.heap.size + 1 + 1) := ⟨by omega⟩; have n1 : w.heap.size + 1 ≠ gc := NG4.out; have n2 : gc ≠ w.heap.size + 1 := fun e => NG4.out e.symm; have n3 : w.heap.size + 1 + 1 ≠ gc := (by have := NG.out; have := HW.out; omega); have n4 : gc ≠ w.heap.size + 1 + 1 := fun e => n3 e.symm; have n5 : w.heap.size ≠ gc := (by have := NG.out; have := HW.out; omega); have n6 : gc ≠ w.heap.size := fun e => n5 e.symm; obtain ⟨q0, q1, q2, q3, q4⟩ := rosC_cells BK.out; have z0 : wd.cell? ⟨w.heap.size + 1 + 1, 0, none⟩ = some (.int .i64 r.gates) := (blk_cell B6.out 0).trans rfl; have y0 := blk_frozen B6.out 0; have z1 : wd.cell? ⟨w.heap.size + 1 + 1, 1, none⟩ = some (.int .i64 r.frm) := (blk_cell B6.out 1).trans rfl; have y1 := blk_frozen B6.out 1; have z2 : wd.cell? ⟨w.heap.size + 1 + 1, 2, none⟩ = some (.int .i64 r.til) := (blk_cell B6.out 2).trans rfl; have y2 := blk_frozen B6.out 2; have z3 : wd.cell? ⟨w.heap.size + 1 + 1, 3, none⟩ = some (.slice A r.ahead.length c) := (blk_cell B6.out 3).trans rfl; have y3 := blk_frozen B6.out 3; have z4 : wd.cell? ⟨w.heap.size + 1 + 1, 4, none⟩ = some (.slice T r.turns.length d) := (blk_cell B6.out 4).trans rfl; have y4 := blk_frozen B6.out 4; have c0 : wd.cell? ⟨w.heap.size + 1, 0, none⟩ = some (.int .i64 0) := (blk_cell B4.out 0).trans rfl; have f0 := blk_frozen B4.out 0; have c1 : wd.cell? ⟨w.heap.size + 1, 1, none⟩ = some (.int .i64 0) := (blk_cell B4.out 1).trans rfl; have f1 := blk_frozen B4.out 1; have c2 : wd.cell? ⟨w.heap.size + 1, 2, none⟩ = some (.int .i64 0) := (blk_cell B4.out 2).trans rfl; have f2 := blk_frozen B4.out 2; have c3 : wd.cell? ⟨w.heap.size + 1, 3, none⟩ = some (.slice none 0 0) := (blk_cell B4.out 3).trans rfl; have f3 := blk_frozen B4.out 3; have c4 : wd.cell? ⟨w.heap.size + 1, 4, none⟩ = some (.slice none 0 0) := (blk_cell B4.out 4).trans rfl; have f4 := blk_frozen B4.out 4; obtain ⟨ce, hcl, hM, hcc, hfr⟩ := Kd.R_elem HR0.out Trn.z t t0 t1; obtain rfl := kTrn_openM hM; have e0 : wd.cell? ⟨gc, t.toNat * 6, none⟩ = some (.int .i64 (r.turns.getD t.toNat Trn.z).gate) := hcc 0 _ rfl; have e1 : wd.frozen? ⟨gc, t.toNat * 6, none⟩ = false := hfr 0; clear hcl hM hcc hfr)
  have HFIN : Aside0 (∀ W, W = ((((((wd.setCell ⟨(w.heap.size + 1 + 1), 4, none⟩ (.slice (some ⟨gc, 0, none⟩) r.turns.length cc)).setCell ⟨(w.heap.size + 1), 0, none⟩ (.int .i64 r.gates)).setCell ⟨(w.heap.size + 1), 1, none⟩ (.int .i64 r.frm)).setCell ⟨(w.heap.size + 1), 2, none⟩ (.int .i64 r.til)).setCell ⟨(w.heap.size + 1), 3, none⟩ (.slice A r.ahead.length c)).setCell ⟨(w.heap.size + 1), 4, none⟩ (.slice (some ⟨gc, 0, none⟩) r.turns.length cc)) → Below w.heap.size w W ∧ W.heap[w.heap.size + 1]? = some (.cells #[.int .i64 r.gates, .int .i64 r.frm, .int .i64 r.til, .slice A r.ahead.length c, .slice (some ⟨gc, 0, none⟩) r.turns.length cc] 25 (0, 0))) := ⟨fun W hW => by
    subst hW
    exact ⟨(bset6 (bset6 (bset6 (bset6 (bset6 (bset6 HB.out (by omega) (4) (.slice (some ⟨gc, 0, none⟩) r.turns.length cc)) (by omega) (0) (.int .i64 r.gates)) (by omega) (1) (.int .i64 r.frm)) (by omega) (2) (.int .i64 r.til)) (by omega) (3) (.slice A r.ahead.length c)) (by omega) (4) (.slice (some ⟨gc, 0, none⟩) r.turns.length cc)), (blk_set (blk_set (blk_set (blk_set (blk_set (blk_far (p := ⟨(w.heap.size + 1 + 1), 4, none⟩) B4.out NG46.out (.slice (some ⟨gc, 0, none⟩) r.turns.length cc)) 0 (.int .i64 r.gates)) 1 (.int .i64 r.frm)) 2 (.int .i64 r.til)) 3 (.slice A r.ahead.length c)) 4 (.slice (some ⟨gc, 0, none⟩) r.turns.length cc))⟩⟩
  go_wp2
  obtain ⟨k2, k3⟩ := HFIN.out _ rfl
  refine bodyPost_ret (results_cs rfl _ _ (w.heap.size + 1) 25 #[.int .i64 r.gates, .int .i64 r.frm, .int .i64 r.til, .slice A r.ahead.length c, .slice (some ⟨gc, 0, none⟩) r.turns.length cc] (0, 0) _ (.bool false) rfl rfl k3 Tryz.underlying25 rfl (by kernel_rfl)) rfl ?_
  exact ⟨_, _, _, _, rfl, k2⟩
end Go.Proofs.YtflolfbkpjgjaaaGreatDoor
end
section
namespace Go.Proofs.YtflolfbkpjgjaaaGreatDoor
open Go.RowKit Go.Proofs.YtflolfbkpjgjaaaGreatDoorW.PrintWords
open Go.Proofs.YtflolfbkpjgjaaaGreatDoorW.PrintMore
theorem inL_calls {w : World} {A : Option Addr} {c : Nat} {xs : List Int} {v : Int} {b : Bool} (h : IntsAt w (.slice A xs.length c) xs) (hb : inL xs v = b) :
    Calls Tryz.prog 45 #[.slice A xs.length c, .int .i64 v] w fun e w' => e = .returned (.bool b) ∧ Below w.heap.size w w' := by
  have h2 := (intsAt_ci h).2.2
  refine (contains_calls A c xs v w h2 h2.2.1).mono ?_
  rintro e w' ⟨rfl, rfl⟩
  exact ⟨by rw [← hb]; rfl, Below.refl _ _⟩
set_option maxHeartbeats 2000000 in
set_option maxRecDepth 100000 in
theorem in65_calls (x : Int) (bs : Nat) (lv : Value) (xs : List Int) (w : World) (hs : w.heap[bs]? = some (.cells #[lv] 26 (0, 0))) (hl : IntsAt w lv xs) :
    Calls Tryz.prog 65 #[.int .i64 x, .pointer (some ⟨bs, 0, none⟩)] w fun e w' => e = .returned (.bool (!inL xs x)) ∧ Below w.heap.size w w' := by
  obtain ⟨A, c, rfl, h1, h2⟩ := hl
  have q : w.cell? ⟨bs, 0, none⟩ = some (.slice A xs.length c) := (blk_cell hs 0).trans rfl
  have H2 : Aside0 (IntsAt w (.slice A xs.length c) xs) := ⟨⟨A, c, rfl, h1, h2⟩⟩
  clear h2 h1
  generalize hb : inL xs x = b
  go_enter Tryz.func65, Tryz.ntmps65
  go_wp2_with (go_at_call 45; refine (inL_calls H2.out hb).mono ?_; rintro e w' ⟨rfl, hb_⟩; have HB := Aside0.mk hb_; clear hb_)
  go_ret
  exact ⟨rfl, HB.out⟩
theorem enter65 : CanEnter 65 := Go.Proofs.enters_of Tryz.func65 (by kernel_rfl) rfl
theorem in65_all {w : World} {A : Option Addr} {c bs : Nat} {lv : Value} {xs nd : List Int} (h : IntsAt w (.slice A nd.length c) nd) (hs : w.heap[bs]? = some (.cells #[lv] 26 (0, 0))) (hl : IntsAt w lv xs) (ha : (nd.any fun x => !inL xs x) = false) :
    Calls Tryz.prog 43 #[.slice A nd.length c, .func (.func 65) #[] #[.pointer (some ⟨bs, 0, none⟩)]] w fun e w' => e = .returned (.bool false) ∧ Below w.heap.size w w' := by
  have := containsL_calls (.slice A nd.length c) nd 65 #[.pointer (some ⟨bs, 0, none⟩)] (fun x => !inL xs x) w enter65 h (fun W x _ hW => in65_calls x bs lv xs W (blk_below hs hW) (hl.below hW))
  rw [ha] at this
  exact this
theorem needed0_calls {v : Value} {r : Ros} {gate : Int} {w : World} (hv : RosAt w v r) : Calls Tryz.prog 56 #[v, .int .i64 gate] w fun e w' => ∃ lv, e = .returned (.tuple #[lv, .int .i64 (neededE r gate)]) ∧ IntsAt w' lv (neededO r gate) ∧ Below w.heap.size w w' := by
  refine (needed_calls v r gate w hv).mono ?_
  rintro e w' ⟨lv, rfl, ho, hb⟩
  exact ⟨lv, rfl, intsAt_of_own ho, hb⟩
set_option maxHeartbeats 60000000 in
set_option maxRecDepth 100000 in
theorem lacks_calls (v lv : Value) (r : Ros) (gate : Int) (l : List Int) (t : Int) (w : World) (hT : TabP w) (hv : RosAt w v r) (hl : IntsAt w lv l) :
    Calls Tryz.prog 14 #[v, .int .i64 gate, lv, .int .i64 t] w fun e w' => e = .returned (.bool true) ∧ Below w.heap.size w w' := by
  have HT := Aside0.mk hT
  obtain ⟨A, c, T, d, rfl, h1, h2, h3, h4⟩ := hv
  have hR : Aside0 (RosAt w (.agg #[.int .i64 r.gates, .int .i64 r.frm, .int .i64 r.til, .slice A r.ahead.length c, .slice T r.turns.length d]) r) := ⟨⟨A, c, T, d, rfl, h1, h2, h3, h4⟩⟩
  obtain ⟨A1, c1, rfl, i1, i2⟩ := hl
  have HL : Aside0 (IntsAt w (.slice A1 l.length c1) l) := ⟨⟨A1, c1, rfl, i1, i2⟩⟩
  clear i1 i2
  clear hT h1 h2 h3 h4
  have hmf : ∀ (fn : Fn) (first cap : Array Value) (w : World), (Instr.makeFunc fn first cap).run Tryz.prog w = .ok (.func fn first cap) w := fun _ _ _ _ => rfl
  have hval := fun W (h : RosAt W (.agg #[.int .i64 r.gates, .int .i64 r.frm, .int .i64 r.til, .slice A r.ahead.length c, .slice T r.turns.length d]) r) => valid_calls (.agg #[.int .i64 r.gates, .int .i64 r.frm, .int .i64 r.til, .slice A r.ahead.length c, .slice T r.turns.length d]) r W h
  have hfew := fun W (h : RosAt W (.agg #[.int .i64 r.gates, .int .i64 r.frm, .int .i64 r.til, .slice A r.ahead.length c, .slice T r.turns.length d]) r) (h2 : IntsAt W (.slice A1 l.length c1) l) => few1_calls (.agg #[.int .i64 r.gates, .int .i64 r.frm, .int .i64 r.til, .slice A r.ahead.length c, .slice T r.turns.length d]) _ r l W h h2
  by_cases hg : checkB r = true ∧ fewB r [l] = true ∧ 0 ≤ gate ∧ gate < r.gates ∧ 0 ≤ t ∧ t < r.turns.length
  · obtain ⟨g1, g2, g3, g4, t0, t1⟩ := hg
    simp only [g1] at hval
    simp only [g2] at hfew
    have V := (checkB_iff r).1 g1
    have d1 : decide (gate < 0) = false := decide_eq_false (by omega)
    have d2 : decide (r.gates ≤ gate) = false := decide_eq_false (by omega)
    have d3 : decide (t < 0) = false := decide_eq_false (by omega)
    have d4 : decide ((r.turns.length : Int) ≤ t) = false := decide_eq_false (by omega)
    have hplan := fun W (h : RosAt W (.agg #[.int .i64 r.gates, .int .i64 r.frm, .int .i64 r.til, .slice A r.ahead.length c, .slice T r.turns.length d]) r) => plan0_calls V g3 g4 h
    have hneed := fun W (h : RosAt W (.agg #[.int .i64 r.gates, .int .i64 r.frm, .int .i64 r.til, .slice A r.ahead.length c, .slice T r.turns.length d]) r) => needed0_calls (gate := gate) h
    by_cases h8 : r.gates = 8
    · have hlac8 := fun W (h : RosAt W (.agg #[.int .i64 r.gates, .int .i64 r.frm, .int .i64 r.til, .slice A r.ahead.length c, .slice T r.turns.length d]) r) => lacking8_calls (.agg #[.int .i64 r.gates, .int .i64 r.frm, .int .i64 r.til, .slice A r.ahead.length c, .slice T r.turns.length d]) r t W V h t0 t1 h8
      have hne := neededE_is V g3 g4
      cases hd : decide (planR r gate ≠ [])
      all_goals
        simp only [hd] at hplan
        rw [hd] at hne
        simp only [hne] at hneed
        clear hne V g1 g2 g3 g4 t0 t1 h8 hd
        go_enter Tryz.func14, Tryz.ntmps14
        go_upto_region 9 with (first | ((with_reducible refine gate_dst (N := 4) rfl ?_); refine box_event ?hg (N := 4) ?hd (cs := (rosC r A c T d)) (t := 25) ?hr ?_; (case hd => rfl); (case hg => rfl); (case hr => first | (go_simp; done) | (go_simp; rfl)); intro g hg_ wb hbox_ hb_; have BK := Aside0.mk hbox_; have HB := Aside0.mk hb_; obtain ⟨q0, q1, q2, q3, q4⟩ := rosC_cells BK.out; clear hbox_ hb_ hg_) | (go_at_call 17; refine (sane_calls _ (HT.out.below HB.out)).mono ?_; rintro e wb ⟨rfl, hb_⟩; replace HB := Aside0.mk (below_step HB.out hb_); replace BK := Aside0.mk (blk_below BK.out hb_); (try (replace LP := Aside0.mk (LP.out.below hb_))); (try (replace LN := Aside0.mk (LN.out.below hb_))); clear q0 q1 q2 q3 q4; obtain ⟨q0, q1, q2, q3, q4⟩ := rosC_cells BK.out; clear hb_) | (go_at_call 34; (with_reducible refine (hval _ (hR.out.below HB.out)).mono ?_); rintro e wb ⟨rfl, hb_⟩; replace HB := Aside0.mk (below_step HB.out hb_); replace BK := Aside0.mk (blk_below BK.out hb_); (try (replace LP := Aside0.mk (LP.out.below hb_))); (try (replace LN := Aside0.mk (LN.out.below hb_))); clear q0 q1 q2 q3 q4; obtain ⟨q0, q1, q2, q3, q4⟩ := rosC_cells BK.out; clear hb_) | (go_at_call 18; (with_reducible refine (hfew _ (hR.out.below HB.out) (HL.out.below HB.out)).mono ?_); rintro e wb ⟨rfl, hb_⟩; replace hb_ := below_al hb_; replace HB := Aside0.mk (below_step HB.out hb_); replace BK := Aside0.mk (blk_below BK.out hb_); (try (replace LP := Aside0.mk (LP.out.below hb_))); (try (replace LN := Aside0.mk (LN.out.below hb_))); clear q0 q1 q2 q3 q4; obtain ⟨q0, q1, q2, q3, q4⟩ := rosC_cells BK.out; clear hb_) | (go_at_call 35; (with_reducible refine (hplan _ (hR.out.below HB.out)).mono ?_); rintro e wb ⟨pv, rfl, hl_, hb_⟩; replace HB := Aside0.mk (below_step HB.out hb_); replace BK := Aside0.mk (blk_below BK.out hb_); (try (replace LP := Aside0.mk (LP.out.below hb_))); (try (replace LN := Aside0.mk (LN.out.below hb_))); clear q0 q1 q2 q3 q4; obtain ⟨q0, q1, q2, q3, q4⟩ := rosC_cells BK.out; obtain ⟨ALP, cLP, rfl, z1, z2⟩ := hl_; have LP : Aside0 (IntsAt wb (.slice ALP _ cLP) _) := ⟨⟨ALP, cLP, rfl, z1, z2⟩⟩; clear z1 z2; clear hb_) | (go_at_call 56; (with_reducible refine (hneed _ (hR.out.below HB.out)).mono ?_); rintro e wb ⟨nv, rfl, hl_, hb_⟩; replace HB := Aside0.mk (below_step HB.out hb_); replace BK := Aside0.mk (blk_below BK.out hb_); (try (replace LP := Aside0.mk (LP.out.below hb_))); (try (replace LN := Aside0.mk (LN.out.below hb_))); clear q0 q1 q2 q3 q4; obtain ⟨q0, q1, q2, q3, q4⟩ := rosC_cells BK.out; obtain ⟨ALN, cLN, rfl, z1, z2⟩ := hl_; have LN : Aside0 (IntsAt wb (.slice ALN _ cLN) _) := ⟨⟨ALN, cLN, rfl, z1, z2⟩⟩; clear z1 z2; clear hb_))
        go_wp2_with (first | (go_at_call 64; refine (hlac8 _ (hR.out.below HB.out)).mono ?_; rintro e wb ⟨A6, c6, T6, d6, rfl, hb_⟩; replace HB := Aside0.mk (below_step HB.out hb_); replace BK := Aside0.mk (blk_below BK.out hb_); (try (replace LP := Aside0.mk (LP.out.below hb_))); (try (replace LN := Aside0.mk (LN.out.below hb_))); clear q0 q1 q2 q3 q4; obtain ⟨q0, q1, q2, q3, q4⟩ := rosC_cells BK.out; clear hb_))
        go_ret
        exact ⟨rfl, by first | exact HB.out | exact below_alloc HB.out _⟩
    have ht : t.toNat < r.turns.length := by omega
    have hlac := fun W (h : RosAt W (.agg #[.int .i64 r.gates, .int .i64 r.frm, .int .i64 r.til, .slice A r.ahead.length c, .slice T r.turns.length d]) r) => lacking_calls (.agg #[.int .i64 r.gates, .int .i64 r.frm, .int .i64 r.til, .slice A r.ahead.length c, .slice T r.turns.length d]) r t W V h t0 t1 h8
    have VL := la_valid V ht h8
    obtain ⟨l1, l2, l3, l4, l5, l6, l7, l8⟩ := lacks_law V g3 g4 ht h8
    have et : ((t.toNat : Nat) : Int) = t := by omega
    rw [et] at l5 l6 l8
    have g4' : gate < (laR r t.toNat).gates := by show gate < r.gates + 1; omega
    have HVL := Aside0.mk VL
    have HG0 := Aside0.mk g3
    have HG1 := Aside0.mk g4'
    have hne := neededE_is V g3 g4
    have HALL := Aside0.mk l4
    by_cases hp : planR r gate = []
    · have hd : decide (planR r gate ≠ []) = false := decide_eq_false (fun e => e hp)
      obtain ⟨l3a, l3b⟩ := l3 hp
      have hd2 : decide (planR (laR r t.toNat) gate ≠ []) = false := decide_eq_false (fun e => e l3a)
      rw [hd2] at l1
      have hgb : gapB (laR r t.toNat) gate = true := l1
      rw [hd] at hne
      have hndl : (neededO r gate).length = 0 := by rw [l3b]; rfl
      simp only [hd] at hplan
      simp only [hne] at hneed
      have HD2 := Aside0.mk hd2
      have HGB := Aside0.mk hgb
      have HCG := Aside0.mk (l2 hgb)
      clear hne V VL g1 g2 g3 g4 g4' t0 t1 h8 hd hp l1 l2 l3 l4 l5 l6 l7 l8 l3a l3b hd2 hgb et ht
      go_enter Tryz.func14, Tryz.ntmps14
      go_upto_region 9 with (first | ((with_reducible refine gate_dst (N := 4) rfl ?_); refine box_event ?hg (N := 4) ?hd (cs := (rosC r A c T d)) (t := 25) ?hr ?_; (case hd => rfl); (case hg => rfl); (case hr => first | (go_simp; done) | (go_simp; rfl)); intro g hg_ wb hbox_ hb_; have BK := Aside0.mk hbox_; have HB := Aside0.mk hb_; obtain ⟨q0, q1, q2, q3, q4⟩ := rosC_cells BK.out; clear hbox_ hb_ hg_) | (go_at_call 17; refine (sane_calls _ (HT.out.below HB.out)).mono ?_; rintro e wb ⟨rfl, hb_⟩; replace HB := Aside0.mk (below_step HB.out hb_); replace BK := Aside0.mk (blk_below BK.out hb_); (try (replace LP := Aside0.mk (LP.out.below hb_))); (try (replace LN := Aside0.mk (LN.out.below hb_))); clear q0 q1 q2 q3 q4; obtain ⟨q0, q1, q2, q3, q4⟩ := rosC_cells BK.out; clear hb_) | (go_at_call 34; (with_reducible refine (hval _ (hR.out.below HB.out)).mono ?_); rintro e wb ⟨rfl, hb_⟩; replace HB := Aside0.mk (below_step HB.out hb_); replace BK := Aside0.mk (blk_below BK.out hb_); (try (replace LP := Aside0.mk (LP.out.below hb_))); (try (replace LN := Aside0.mk (LN.out.below hb_))); clear q0 q1 q2 q3 q4; obtain ⟨q0, q1, q2, q3, q4⟩ := rosC_cells BK.out; clear hb_) | (go_at_call 18; (with_reducible refine (hfew _ (hR.out.below HB.out) (HL.out.below HB.out)).mono ?_); rintro e wb ⟨rfl, hb_⟩; replace hb_ := below_al hb_; replace HB := Aside0.mk (below_step HB.out hb_); replace BK := Aside0.mk (blk_below BK.out hb_); (try (replace LP := Aside0.mk (LP.out.below hb_))); (try (replace LN := Aside0.mk (LN.out.below hb_))); clear q0 q1 q2 q3 q4; obtain ⟨q0, q1, q2, q3, q4⟩ := rosC_cells BK.out; clear hb_) | (go_at_call 35; (with_reducible refine (hplan _ (hR.out.below HB.out)).mono ?_); rintro e wb ⟨pv, rfl, hl_, hb_⟩; replace HB := Aside0.mk (below_step HB.out hb_); replace BK := Aside0.mk (blk_below BK.out hb_); (try (replace LP := Aside0.mk (LP.out.below hb_))); (try (replace LN := Aside0.mk (LN.out.below hb_))); clear q0 q1 q2 q3 q4; obtain ⟨q0, q1, q2, q3, q4⟩ := rosC_cells BK.out; obtain ⟨ALP, cLP, rfl, z1, z2⟩ := hl_; have LP : Aside0 (IntsAt wb (.slice ALP _ cLP) _) := ⟨⟨ALP, cLP, rfl, z1, z2⟩⟩; clear z1 z2; clear hb_) | (go_at_call 56; (with_reducible refine (hneed _ (hR.out.below HB.out)).mono ?_); rintro e wb ⟨nv, rfl, hl_, hb_⟩; replace HB := Aside0.mk (below_step HB.out hb_); replace BK := Aside0.mk (blk_below BK.out hb_); (try (replace LP := Aside0.mk (LP.out.below hb_))); (try (replace LN := Aside0.mk (LN.out.below hb_))); clear q0 q1 q2 q3 q4; obtain ⟨q0, q1, q2, q3, q4⟩ := rosC_cells BK.out; obtain ⟨ALN, cLN, rfl, z1, z2⟩ := hl_; have LN : Aside0 (IntsAt wb (.slice ALN _ cLN) _) := ⟨⟨ALN, cLN, rfl, z1, z2⟩⟩; clear z1 z2; clear hb_))
      go_cut [14, 15] from 87 to 92 (fun s1 s2 wx => ∃ (g2 : Nat) (As : Option Addr) (cs : Nat) (Ts : Option Addr) (ds : Nat), s1 = .pointer (some ⟨g2, 0, none⟩) ∧ s2 = .bool true ∧ Aside0 (wx.heap[g2]? = some (.cells (rosC (laR r t.toNat) As cs Ts ds) 25 (0, 0))) ∧ Aside0 (RosAt wx (.agg (rosC (laR r t.toNat) As cs Ts ds)) (laR r t.toNat)) ∧ Aside0 (Below w.heap.size w wx) ∧ Aside0 (wx.heap[g]? = some (.cells (rosC r A c T d) 25 (0, 0))) ∧ Aside0 (IntsAt wx (.slice ALP (intsN (planR r gate)).length cLP) (intsN (planR r gate))) ∧ Aside0 (IntsAt wx (.slice ALN (neededO r gate).length cLN) (neededO r gate)))
      case first =>
        go_wp2_with (first | (go_at_call 64; refine (hlac _ (hR.out.below HB.out)).mono ?_; rintro e wb ⟨rv, rfl, hs_, hb_⟩; replace HB := Aside0.mk (below_step HB.out hb_); replace BK := Aside0.mk (blk_below BK.out hb_); (try (replace LP := Aside0.mk (LP.out.below hb_))); (try (replace LN := Aside0.mk (LN.out.below hb_))); clear q0 q1 q2 q3 q4; obtain ⟨q0, q1, q2, q3, q4⟩ := rosC_cells BK.out; obtain ⟨As, cs, Ts, ds, rfl, i1, i2, i3, i4⟩ := hs_; have hS : Aside0 (RosAt wb (.agg #[.int .i64 (laR r t.toNat).gates, .int .i64 (laR r t.toNat).frm, .int .i64 (laR r t.toNat).til, .slice As (laR r t.toNat).ahead.length cs, .slice Ts (laR r t.toNat).turns.length ds]) (laR r t.toNat)) := ⟨⟨As, cs, Ts, ds, rfl, i1, i2, i3, i4⟩⟩; clear i1 i2 i3 i4; clear hb_))
        go_meet
        case rel => exact ⟨_, As, cs, Ts, ds, rfl, rfl, ⟨alloc_at _ _⟩, ⟨hS.out.below (below_alloc (Below.refl _ _) _)⟩, ⟨below_alloc HB.out _⟩, ⟨blk_alloc BK.out _⟩, ⟨LP.out.below (below_alloc (Below.refl _ _) _)⟩, ⟨LN.out.below (below_alloc (Below.refl _ _) _)⟩⟩
      case rest =>
        clear q0 q1 q2 q3 q4 HB BK LP LN hlac hneed hplan hval hfew
        obtain ⟨g2, As, cs, Ts, ds, rfl, rfl, BS, hS0, HB, BK, LP, LN⟩ := hcut
        have hS : Aside0 (RosAt wc (.agg #[.int .i64 (laR r t.toNat).gates, .int .i64 (laR r t.toNat).frm, .int .i64 (laR r t.toNat).til, .slice As (laR r t.toNat).ahead.length cs, .slice Ts (laR r t.toNat).turns.length ds]) (laR r t.toNat)) := ⟨hS0.out⟩
        clear hS0
        have hplan2 := fun W (h : RosAt W (.agg #[.int .i64 (laR r t.toNat).gates, .int .i64 (laR r t.toNat).frm, .int .i64 (laR r t.toNat).til, .slice As (laR r t.toNat).ahead.length cs, .slice Ts (laR r t.toNat).turns.length ds]) (laR r t.toNat)) => plan0_calls HVL.out HG0.out HG1.out h
        have hgap2 := fun W (h : RosAt W (.agg #[.int .i64 (laR r t.toNat).gates, .int .i64 (laR r t.toNat).frm, .int .i64 (laR r t.toNat).til, .slice As (laR r t.toNat).ahead.length cs, .slice Ts (laR r t.toNat).turns.length ds]) (laR r t.toNat)) => gap0_calls HVL.out HG0.out HG1.out h
        have hcg2 := fun W x (h : RosAt W (.agg #[.int .i64 (laR r t.toNat).gates, .int .i64 (laR r t.toNat).frm, .int .i64 (laR r t.toNat).til, .slice As (laR r t.toNat).ahead.length cs, .slice Ts (laR r t.toNat).turns.length ds]) (laR r t.toNat)) (h2 : IntsAt W x (gapO (laR r t.toNat) gate)) => checkGap_calls (.agg #[.int .i64 (laR r t.toNat).gates, .int .i64 (laR r t.toNat).frm, .int .i64 (laR r t.toNat).til, .slice As (laR r t.toNat).ahead.length cs, .slice Ts (laR r t.toNat).turns.length ds]) x (laR r t.toNat) gate (gapO (laR r t.toNat) gate) W h h2
        simp only [HD2.out] at hplan2
        simp only [HGB.out] at hgap2
        (try simp only [HCG.out] at hcg2)
        clear HVL HG0 HG1 HD2 HGB
        generalize hs_ : laR r t.toNat = s at *
        clear hs_
        obtain ⟨q0, q1, q2, q3, q4⟩ := rosC_cells BK.out
        obtain ⟨p0, p1, p2, p3, p4⟩ := rosC_cells BS.out
        generalize intsN (planR r gate) = P at *
        generalize neededO r gate = ND at *
        generalize intsN (planR s gate) = S at *
        go_wp2_with (first | (go_at_call 35; (with_reducible refine (hplan2 _ hS.out).mono ?_); rintro e wb ⟨sv, rfl, hl_, hb_⟩; replace HB := Aside0.mk (below_step HB.out hb_); replace BK := Aside0.mk (blk_below BK.out hb_); (try (replace BS := Aside0.mk (blk_below BS.out hb_))); (try (replace BG := Aside0.mk (blk_below BG.out hb_))); (try (replace LP := Aside0.mk (LP.out.below hb_))); (try (replace LN := Aside0.mk (LN.out.below hb_))); (try (replace LS := Aside0.mk (LS.out.below hb_))); (try (replace LG := Aside0.mk (LG.out.below hb_))); (try (replace hS := Aside0.mk (hS.out.below hb_))); clear q0 q1 q2 q3 q4; obtain ⟨q0, q1, q2, q3, q4⟩ := rosC_cells BK.out; clear p0 p1 p2 p3 p4; obtain ⟨p0, p1, p2, p3, p4⟩ := rosC_cells BS.out; obtain ⟨ALS, cLS, rfl, z1, z2⟩ := hl_; have LS : Aside0 (IntsAt wb (.slice ALS _ cLS) _) := ⟨⟨ALS, cLS, rfl, z1, z2⟩⟩; clear z1 z2; clear hb_) | (go_at_call 21; (with_reducible refine (hgap2 _ hS.out).mono ?_); rintro e wb ⟨gv, rfl, hl_, hb_⟩; replace HB := Aside0.mk (below_step HB.out hb_); replace BK := Aside0.mk (blk_below BK.out hb_); (try (replace BS := Aside0.mk (blk_below BS.out hb_))); (try (replace BG := Aside0.mk (blk_below BG.out hb_))); (try (replace LP := Aside0.mk (LP.out.below hb_))); (try (replace LN := Aside0.mk (LN.out.below hb_))); (try (replace LS := Aside0.mk (LS.out.below hb_))); (try (replace LG := Aside0.mk (LG.out.below hb_))); (try (replace hS := Aside0.mk (hS.out.below hb_))); clear q0 q1 q2 q3 q4; obtain ⟨q0, q1, q2, q3, q4⟩ := rosC_cells BK.out; clear p0 p1 p2 p3 p4; obtain ⟨p0, p1, p2, p3, p4⟩ := rosC_cells BS.out; obtain ⟨ALG, cLG, rfl, z1, z2⟩ := hl_; have LG : Aside0 (IntsAt wb (.slice ALG _ cLG) _) := ⟨⟨ALG, cLG, rfl, z1, z2⟩⟩; clear z1 z2; clear hb_) | (go_at_call 26; refine (hcg2 _ _ hS.out LG.out).mono ?_; rintro e wb ⟨rfl, hb_⟩; replace HB := Aside0.mk (below_step HB.out hb_); replace BK := Aside0.mk (blk_below BK.out hb_); (try (replace BS := Aside0.mk (blk_below BS.out hb_))); (try (replace BG := Aside0.mk (blk_below BG.out hb_))); (try (replace LP := Aside0.mk (LP.out.below hb_))); (try (replace LN := Aside0.mk (LN.out.below hb_))); (try (replace LS := Aside0.mk (LS.out.below hb_))); (try (replace LG := Aside0.mk (LG.out.below hb_))); (try (replace hS := Aside0.mk (hS.out.below hb_))); clear q0 q1 q2 q3 q4; obtain ⟨q0, q1, q2, q3, q4⟩ := rosC_cells BK.out; clear p0 p1 p2 p3 p4; obtain ⟨p0, p1, p2, p3, p4⟩ := rosC_cells BS.out; clear hb_))
        go_ret
        exact ⟨rfl, by first | exact HB.out | exact below_alloc HB.out _⟩
    · have hd : decide (planR r gate ≠ []) = true := decide_eq_true hp
      have P1 := plan_in ((planR_best V gate).plan.resolve_left hp)
      have hcx := fun W x (h : RosAt W (.agg #[.int .i64 r.gates, .int .i64 r.frm, .int .i64 r.til, .slice A r.ahead.length c, .slice T r.turns.length d]) r) (h2 : IntsAt W x (intsN (planR r gate))) => cost0_calls (v := (.agg #[.int .i64 r.gates, .int .i64 r.frm, .int .i64 r.til, .slice A r.ahead.length c, .slice T r.turns.length d])) (lv := x) (w := W) V P1.1 P1.2 h h2
      rw [hd] at hne
      simp only [hd] at hplan
      simp only [hne] at hneed
      by_cases hn : inL (neededO r gate) t = true
      · have l5a := l5 hn
        have hd2 : decide (planR (laR r t.toNat) gate ≠ []) = false := decide_eq_false (fun e => e l5a)
        rw [hd2] at l1
        have hgb : gapB (laR r t.toNat) gate = true := l1
        have HD2 := Aside0.mk hd2
        have HGB := Aside0.mk hgb
        have HCG := Aside0.mk (l2 hgb)
        have HN := Aside0.mk hn
        have HN2 : True := trivial
        have HEQ : True := trivial
        have hcy : True := trivial
        clear hne V VL g1 g2 g3 g4 g4' t0 t1 h8 hd hp l1 l2 l3 l4 l5 l6 l7 l8 l5a hd2 hgb et ht P1 hn
        go_enter Tryz.func14, Tryz.ntmps14
        go_upto_region 9 with (first | ((with_reducible refine gate_dst (N := 4) rfl ?_); refine box_event ?hg (N := 4) ?hd (cs := (rosC r A c T d)) (t := 25) ?hr ?_; (case hd => rfl); (case hg => rfl); (case hr => first | (go_simp; done) | (go_simp; rfl)); intro g hg_ wb hbox_ hb_; have BK := Aside0.mk hbox_; have HB := Aside0.mk hb_; obtain ⟨q0, q1, q2, q3, q4⟩ := rosC_cells BK.out; clear hbox_ hb_ hg_) | (go_at_call 17; refine (sane_calls _ (HT.out.below HB.out)).mono ?_; rintro e wb ⟨rfl, hb_⟩; replace HB := Aside0.mk (below_step HB.out hb_); replace BK := Aside0.mk (blk_below BK.out hb_); (try (replace LP := Aside0.mk (LP.out.below hb_))); (try (replace LN := Aside0.mk (LN.out.below hb_))); clear q0 q1 q2 q3 q4; obtain ⟨q0, q1, q2, q3, q4⟩ := rosC_cells BK.out; clear hb_) | (go_at_call 34; (with_reducible refine (hval _ (hR.out.below HB.out)).mono ?_); rintro e wb ⟨rfl, hb_⟩; replace HB := Aside0.mk (below_step HB.out hb_); replace BK := Aside0.mk (blk_below BK.out hb_); (try (replace LP := Aside0.mk (LP.out.below hb_))); (try (replace LN := Aside0.mk (LN.out.below hb_))); clear q0 q1 q2 q3 q4; obtain ⟨q0, q1, q2, q3, q4⟩ := rosC_cells BK.out; clear hb_) | (go_at_call 18; (with_reducible refine (hfew _ (hR.out.below HB.out) (HL.out.below HB.out)).mono ?_); rintro e wb ⟨rfl, hb_⟩; replace hb_ := below_al hb_; replace HB := Aside0.mk (below_step HB.out hb_); replace BK := Aside0.mk (blk_below BK.out hb_); (try (replace LP := Aside0.mk (LP.out.below hb_))); (try (replace LN := Aside0.mk (LN.out.below hb_))); clear q0 q1 q2 q3 q4; obtain ⟨q0, q1, q2, q3, q4⟩ := rosC_cells BK.out; clear hb_) | (go_at_call 35; (with_reducible refine (hplan _ (hR.out.below HB.out)).mono ?_); rintro e wb ⟨pv, rfl, hl_, hb_⟩; replace HB := Aside0.mk (below_step HB.out hb_); replace BK := Aside0.mk (blk_below BK.out hb_); (try (replace LP := Aside0.mk (LP.out.below hb_))); (try (replace LN := Aside0.mk (LN.out.below hb_))); clear q0 q1 q2 q3 q4; obtain ⟨q0, q1, q2, q3, q4⟩ := rosC_cells BK.out; obtain ⟨ALP, cLP, rfl, z1, z2⟩ := hl_; have LP : Aside0 (IntsAt wb (.slice ALP _ cLP) _) := ⟨⟨ALP, cLP, rfl, z1, z2⟩⟩; clear z1 z2; clear hb_) | (go_at_call 56; (with_reducible refine (hneed _ (hR.out.below HB.out)).mono ?_); rintro e wb ⟨nv, rfl, hl_, hb_⟩; replace HB := Aside0.mk (below_step HB.out hb_); replace BK := Aside0.mk (blk_below BK.out hb_); (try (replace LP := Aside0.mk (LP.out.below hb_))); (try (replace LN := Aside0.mk (LN.out.below hb_))); clear q0 q1 q2 q3 q4; obtain ⟨q0, q1, q2, q3, q4⟩ := rosC_cells BK.out; obtain ⟨ALN, cLN, rfl, z1, z2⟩ := hl_; have LN : Aside0 (IntsAt wb (.slice ALN _ cLN) _) := ⟨⟨ALN, cLN, rfl, z1, z2⟩⟩; clear z1 z2; clear hb_))
        go_cut [14, 15] from 87 to 92 (fun s1 s2 wx => ∃ (g2 : Nat) (As : Option Addr) (cs : Nat) (Ts : Option Addr) (ds : Nat), s1 = .pointer (some ⟨g2, 0, none⟩) ∧ s2 = .bool true ∧ Aside0 (wx.heap[g2]? = some (.cells (rosC (laR r t.toNat) As cs Ts ds) 25 (0, 0))) ∧ Aside0 (RosAt wx (.agg (rosC (laR r t.toNat) As cs Ts ds)) (laR r t.toNat)) ∧ Aside0 (Below w.heap.size w wx) ∧ Aside0 (wx.heap[g]? = some (.cells (rosC r A c T d) 25 (0, 0))) ∧ Aside0 (IntsAt wx (.slice ALP (intsN (planR r gate)).length cLP) (intsN (planR r gate))) ∧ Aside0 (IntsAt wx (.slice ALN (neededO r gate).length cLN) (neededO r gate)))
        case first =>
          go_wp2_with (first | (go_at_call 64; refine (hlac _ (hR.out.below HB.out)).mono ?_; rintro e wb ⟨rv, rfl, hs_, hb_⟩; replace HB := Aside0.mk (below_step HB.out hb_); replace BK := Aside0.mk (blk_below BK.out hb_); (try (replace LP := Aside0.mk (LP.out.below hb_))); (try (replace LN := Aside0.mk (LN.out.below hb_))); clear q0 q1 q2 q3 q4; obtain ⟨q0, q1, q2, q3, q4⟩ := rosC_cells BK.out; obtain ⟨As, cs, Ts, ds, rfl, i1, i2, i3, i4⟩ := hs_; have hS : Aside0 (RosAt wb (.agg #[.int .i64 (laR r t.toNat).gates, .int .i64 (laR r t.toNat).frm, .int .i64 (laR r t.toNat).til, .slice As (laR r t.toNat).ahead.length cs, .slice Ts (laR r t.toNat).turns.length ds]) (laR r t.toNat)) := ⟨⟨As, cs, Ts, ds, rfl, i1, i2, i3, i4⟩⟩; clear i1 i2 i3 i4; clear hb_))
          go_meet
          case rel => exact ⟨_, As, cs, Ts, ds, rfl, rfl, ⟨alloc_at _ _⟩, ⟨hS.out.below (below_alloc (Below.refl _ _) _)⟩, ⟨below_alloc HB.out _⟩, ⟨blk_alloc BK.out _⟩, ⟨LP.out.below (below_alloc (Below.refl _ _) _)⟩, ⟨LN.out.below (below_alloc (Below.refl _ _) _)⟩⟩
        case rest =>
          clear q0 q1 q2 q3 q4 HB BK LP LN hlac hneed hplan hval hfew
          obtain ⟨g2, As, cs, Ts, ds, rfl, rfl, BS, hS0, HB, BK, LP, LN⟩ := hcut
          have hS : Aside0 (RosAt wc (.agg #[.int .i64 (laR r t.toNat).gates, .int .i64 (laR r t.toNat).frm, .int .i64 (laR r t.toNat).til, .slice As (laR r t.toNat).ahead.length cs, .slice Ts (laR r t.toNat).turns.length ds]) (laR r t.toNat)) := ⟨hS0.out⟩
          clear hS0
          have hplan2 := fun W (h : RosAt W (.agg #[.int .i64 (laR r t.toNat).gates, .int .i64 (laR r t.toNat).frm, .int .i64 (laR r t.toNat).til, .slice As (laR r t.toNat).ahead.length cs, .slice Ts (laR r t.toNat).turns.length ds]) (laR r t.toNat)) => plan0_calls HVL.out HG0.out HG1.out h
          have hgap2 := fun W (h : RosAt W (.agg #[.int .i64 (laR r t.toNat).gates, .int .i64 (laR r t.toNat).frm, .int .i64 (laR r t.toNat).til, .slice As (laR r t.toNat).ahead.length cs, .slice Ts (laR r t.toNat).turns.length ds]) (laR r t.toNat)) => gap0_calls HVL.out HG0.out HG1.out h
          have hcg2 := fun W x (h : RosAt W (.agg #[.int .i64 (laR r t.toNat).gates, .int .i64 (laR r t.toNat).frm, .int .i64 (laR r t.toNat).til, .slice As (laR r t.toNat).ahead.length cs, .slice Ts (laR r t.toNat).turns.length ds]) (laR r t.toNat)) (h2 : IntsAt W x (gapO (laR r t.toNat) gate)) => checkGap_calls (.agg #[.int .i64 (laR r t.toNat).gates, .int .i64 (laR r t.toNat).frm, .int .i64 (laR r t.toNat).til, .slice As (laR r t.toNat).ahead.length cs, .slice Ts (laR r t.toNat).turns.length ds]) x (laR r t.toNat) gate (gapO (laR r t.toNat) gate) W h h2
          simp only [HD2.out] at hplan2
          simp only [HGB.out] at hgap2
          (try simp only [HCG.out] at hcg2)
          clear HVL HG0 HG1 HD2 HGB
          generalize hs_ : laR r t.toNat = s at *
          clear hs_
          obtain ⟨q0, q1, q2, q3, q4⟩ := rosC_cells BK.out
          obtain ⟨p0, p1, p2, p3, p4⟩ := rosC_cells BS.out
          generalize intsN (planR r gate) = P at *
          generalize neededO r gate = ND at *
          generalize intsN (planR s gate) = S at *
          go_wp2_with (first | (go_at_call 35; (with_reducible refine (hplan2 _ hS.out).mono ?_); rintro e wb ⟨sv, rfl, hl_, hb_⟩; replace HB := Aside0.mk (below_step HB.out hb_); replace BK := Aside0.mk (blk_below BK.out hb_); (try (replace BS := Aside0.mk (blk_below BS.out hb_))); (try (replace BG := Aside0.mk (blk_below BG.out hb_))); (try (replace LP := Aside0.mk (LP.out.below hb_))); (try (replace LN := Aside0.mk (LN.out.below hb_))); (try (replace LS := Aside0.mk (LS.out.below hb_))); (try (replace LG := Aside0.mk (LG.out.below hb_))); (try (replace hS := Aside0.mk (hS.out.below hb_))); clear q0 q1 q2 q3 q4; obtain ⟨q0, q1, q2, q3, q4⟩ := rosC_cells BK.out; clear p0 p1 p2 p3 p4; obtain ⟨p0, p1, p2, p3, p4⟩ := rosC_cells BS.out; obtain ⟨ALS, cLS, rfl, z1, z2⟩ := hl_; have LS : Aside0 (IntsAt wb (.slice ALS _ cLS) _) := ⟨⟨ALS, cLS, rfl, z1, z2⟩⟩; clear z1 z2; clear hb_) | (go_at_call 21; (with_reducible refine (hgap2 _ hS.out).mono ?_); rintro e wb ⟨gv, rfl, hl_, hb_⟩; replace HB := Aside0.mk (below_step HB.out hb_); replace BK := Aside0.mk (blk_below BK.out hb_); (try (replace BS := Aside0.mk (blk_below BS.out hb_))); (try (replace BG := Aside0.mk (blk_below BG.out hb_))); (try (replace LP := Aside0.mk (LP.out.below hb_))); (try (replace LN := Aside0.mk (LN.out.below hb_))); (try (replace LS := Aside0.mk (LS.out.below hb_))); (try (replace LG := Aside0.mk (LG.out.below hb_))); (try (replace hS := Aside0.mk (hS.out.below hb_))); clear q0 q1 q2 q3 q4; obtain ⟨q0, q1, q2, q3, q4⟩ := rosC_cells BK.out; clear p0 p1 p2 p3 p4; obtain ⟨p0, p1, p2, p3, p4⟩ := rosC_cells BS.out; obtain ⟨ALG, cLG, rfl, z1, z2⟩ := hl_; have LG : Aside0 (IntsAt wb (.slice ALG _ cLG) _) := ⟨⟨ALG, cLG, rfl, z1, z2⟩⟩; clear z1 z2; clear hb_) | (go_at_call 26; refine (hcg2 _ _ hS.out LG.out).mono ?_; rintro e wb ⟨rfl, hb_⟩; replace HB := Aside0.mk (below_step HB.out hb_); replace BK := Aside0.mk (blk_below BK.out hb_); (try (replace BS := Aside0.mk (blk_below BS.out hb_))); (try (replace BG := Aside0.mk (blk_below BG.out hb_))); (try (replace LP := Aside0.mk (LP.out.below hb_))); (try (replace LN := Aside0.mk (LN.out.below hb_))); (try (replace LS := Aside0.mk (LS.out.below hb_))); (try (replace LG := Aside0.mk (LG.out.below hb_))); (try (replace hS := Aside0.mk (hS.out.below hb_))); clear q0 q1 q2 q3 q4; obtain ⟨q0, q1, q2, q3, q4⟩ := rosC_cells BK.out; clear p0 p1 p2 p3 p4; obtain ⟨p0, p1, p2, p3, p4⟩ := rosC_cells BS.out; clear hb_))
          have GS := alloc_at wb (.cells #[.slice ALP P.length cLP, .slice A1 l.length c1] 26)
          generalize hgs : wb.heap.size = gs at GS
          clear q0 q1 q2 q3 q4 p0 p1 p2 p3 p4 hplan2 hgap2 hcg2
          go_loopw [142] (fun i wx => ∃ k : Nat, k ≤ 2 ∧ i = .int .i64 k ∧ Aside0 (wx.heap[gs]? = some (.cells #[.slice ALP P.length cLP, .slice A1 l.length c1] 26 (0, 0))) ∧ Aside0 (Below w.heap.size w wx) ∧ Aside0 (wx.heap[g]? = some (.cells (rosC r A c T d) 25 (0, 0))) ∧ Aside0 (wx.heap[g2]? = some (.cells (rosC s As cs Ts ds) 25 (0, 0))) ∧ Aside0 (IntsAt wx (.slice ALP P.length cLP) P) ∧ Aside0 (IntsAt wx (.slice ALN ND.length cLN) ND) ∧ Aside0 (IntsAt wx (.slice ALS S.length cLS) S) ∧ Aside0 (RosAt wx (.agg #[.int .i64 s.gates, .int .i64 s.frm, .int .i64 s.til, .slice As s.ahead.length cs, .slice Ts s.turns.length ds]) s)) (fun i _ => 2 - (intOf i).toNat)
          case atStart => exact ⟨0, by omega, rfl, ⟨GS⟩, ⟨below_alloc HB.out _⟩, ⟨blk_alloc BK.out _⟩, ⟨blk_alloc BS.out _⟩, ⟨LP.out.below (below_alloc (Below.refl _ _) _)⟩, ⟨LN.out.below (below_alloc (Below.refl _ _) _)⟩, ⟨LS.out.below (below_alloc (Below.refl _ _) _)⟩, ⟨hS.out.below (below_alloc (Below.refl _ _) _)⟩⟩
          clear GS
          case round =>
            clear HB BK BS LP LN LS hS
            obtain ⟨k, hk, rfl, BG, HB, BK, BS, LP, LN, LS, hS⟩ := hrel
            obtain ⟨q0, q1, q2, q3, q4⟩ := rosC_cells BK.out
            have gl0 := blk_lt BK.out
            by_cases hlt : k < 2
            · have hX : ∃ (Ax : Option Addr) (cx : Nat) (x : List Int), wr.cell? ⟨gs, k, none⟩ = some (.slice Ax x.length cx) ∧ Aside0 (IntsAt wr (.slice Ax x.length cx) x) := by
                rcases (by omega : k = 0 ∨ k = 1) with rfl | rfl
                · exact ⟨ALP, cLP, P, (blk_cell BG.out 0).trans rfl, LP⟩
                · exact ⟨A1, c1, l, (blk_cell BG.out 1).trans rfl, ⟨HL.out.below HB.out⟩⟩
              obtain ⟨Ax, cx, x, hc, LX⟩ := hX
              have hcx0 := fun W xv (h : RosAt W (.agg #[.int .i64 r.gates, .int .i64 r.frm, .int .i64 r.til, .slice A r.ahead.length c, .slice T r.turns.length d]) r) (h2 : IntsAt W xv x) => checkPlan_calls (.agg #[.int .i64 r.gates, .int .i64 r.frm, .int .i64 r.til, .slice A r.ahead.length c, .slice T r.turns.length d]) xv r gate x W h h2
              have ik0 : (0 : Int) ≤ (k : Int) := by omega
              have ik1 : (k : Int) < 2 := by omega
              by_cases hy : checkPlanE r gate x = 0
              · have hcon := fun W (h : IntsAt W (.slice ALN ND.length cLN) ND) (h2 : W.heap[wr.heap.size]? = some (.cells #[.slice Ax x.length cx] 26 (0, 0))) (h3 : IntsAt W (.slice Ax x.length cx) x) => in65_all (w := W) h h2 h3 (HALL.out x hy)
                simp only [hy] at hcx0
                clear hy
                go_wp2_with (first | (go_at_call 36; have BP : Aside0 ((wr.alloc (.cells #[.slice Ax x.length cx] 26)).heap[wr.heap.size]? = some (.cells #[.slice Ax x.length cx] 26 (0, 0))) := ⟨alloc_at _ _⟩; have hb_ : Below wr.heap.size wr (wr.alloc (.cells #[.slice Ax x.length cx] 26)) := below_alloc (Below.refl _ _) _; replace HB := Aside0.mk (below_step HB.out hb_); replace BK := Aside0.mk (blk_below BK.out hb_); replace BS := Aside0.mk (blk_below BS.out hb_); replace BG := Aside0.mk (blk_below BG.out hb_); replace LP := Aside0.mk (LP.out.below hb_); replace LN := Aside0.mk (LN.out.below hb_); (try (replace LS := Aside0.mk (LS.out.below hb_))); replace LX := Aside0.mk (LX.out.below hb_); replace hS := Aside0.mk (hS.out.below hb_); clear hb_; generalize hwp : (wr.alloc (.cells #[.slice Ax x.length cx] 26)) = wb at *; clear hwp; (with_reducible refine (hcx0 _ _ (hR.out.below HB.out) LX.out).mono ?_); rintro e wb ⟨rfl, hb_⟩; replace HB := Aside0.mk (below_step HB.out hb_); replace BK := Aside0.mk (blk_below BK.out hb_); (try (replace BS := Aside0.mk (blk_below BS.out hb_))); (try (replace BG := Aside0.mk (blk_below BG.out hb_))); (try (replace BP := Aside0.mk (blk_below BP.out hb_))); (try (replace LP := Aside0.mk (LP.out.below hb_))); (try (replace LN := Aside0.mk (LN.out.below hb_))); (try (replace LS := Aside0.mk (LS.out.below hb_))); (try (replace LX := Aside0.mk (LX.out.below hb_))); (try (replace hS := Aside0.mk (hS.out.below hb_))); clear hb_) | (go_at_call 43; (with_reducible refine (hcon _ LN.out BP.out LX.out).mono ?_); rintro e wb ⟨rfl, hb_⟩; replace HB := Aside0.mk (below_step HB.out hb_); replace BK := Aside0.mk (blk_below BK.out hb_); (try (replace BS := Aside0.mk (blk_below BS.out hb_))); (try (replace BG := Aside0.mk (blk_below BG.out hb_))); (try (replace BP := Aside0.mk (blk_below BP.out hb_))); (try (replace LP := Aside0.mk (LP.out.below hb_))); (try (replace LN := Aside0.mk (LN.out.below hb_))); (try (replace LS := Aside0.mk (LS.out.below hb_))); (try (replace LX := Aside0.mk (LX.out.below hb_))); (try (replace hS := Aside0.mk (hS.out.below hb_))); clear hb_))
                go_roundw
                case rel => exact ⟨k + 1, by omega, by go_num, BG, HB, BK, BS, LP, LN, LS, hS⟩
                case measure => simp [intOf]; omega
              · have hy' : (checkPlanE r gate x == 0) = false := beq_eq_false_iff_ne.2 hy
                generalize checkPlanE r gate x = y at *
                go_wp2_with (first | (go_at_call 36; have BP : Aside0 ((wr.alloc (.cells #[.slice Ax x.length cx] 26)).heap[wr.heap.size]? = some (.cells #[.slice Ax x.length cx] 26 (0, 0))) := ⟨alloc_at _ _⟩; have hb_ : Below wr.heap.size wr (wr.alloc (.cells #[.slice Ax x.length cx] 26)) := below_alloc (Below.refl _ _) _; replace HB := Aside0.mk (below_step HB.out hb_); replace BK := Aside0.mk (blk_below BK.out hb_); replace BS := Aside0.mk (blk_below BS.out hb_); replace BG := Aside0.mk (blk_below BG.out hb_); replace LP := Aside0.mk (LP.out.below hb_); replace LN := Aside0.mk (LN.out.below hb_); (try (replace LS := Aside0.mk (LS.out.below hb_))); replace LX := Aside0.mk (LX.out.below hb_); replace hS := Aside0.mk (hS.out.below hb_); clear hb_; generalize hwp : (wr.alloc (.cells #[.slice Ax x.length cx] 26)) = wb at *; clear hwp; (with_reducible refine (hcx0 _ _ (hR.out.below HB.out) LX.out).mono ?_); rintro e wb ⟨rfl, hb_⟩; replace HB := Aside0.mk (below_step HB.out hb_); replace BK := Aside0.mk (blk_below BK.out hb_); (try (replace BS := Aside0.mk (blk_below BS.out hb_))); (try (replace BG := Aside0.mk (blk_below BG.out hb_))); (try (replace BP := Aside0.mk (blk_below BP.out hb_))); (try (replace LP := Aside0.mk (LP.out.below hb_))); (try (replace LN := Aside0.mk (LN.out.below hb_))); (try (replace LS := Aside0.mk (LS.out.below hb_))); (try (replace LX := Aside0.mk (LX.out.below hb_))); (try (replace hS := Aside0.mk (hS.out.below hb_))); clear hb_))
                go_roundw
                case rel => exact ⟨k + 1, by omega, by go_num, BG, HB, BK, BS, LP, LN, LS, hS⟩
                case measure => simp [intOf]; omega
            · obtain rfl : k = 2 := by omega
              obtain ⟨p0, p1, p2, p3, p4⟩ := rosC_cells BS.out
              clear BG gl0
              go_wp2_with (first | (go_at_call 45; (with_reducible refine (inL_calls LN.out HN.out).mono ?_); rintro e wb ⟨rfl, hb_⟩; replace HB := Aside0.mk (below_step HB.out hb_); replace BK := Aside0.mk (blk_below BK.out hb_); (try (replace BS := Aside0.mk (blk_below BS.out hb_))); (try (replace BG := Aside0.mk (blk_below BG.out hb_))); (try (replace LP := Aside0.mk (LP.out.below hb_))); (try (replace LN := Aside0.mk (LN.out.below hb_))); (try (replace LS := Aside0.mk (LS.out.below hb_))); (try (replace LG := Aside0.mk (LG.out.below hb_))); (try (replace hS := Aside0.mk (hS.out.below hb_))); clear q0 q1 q2 q3 q4; obtain ⟨q0, q1, q2, q3, q4⟩ := rosC_cells BK.out; clear p0 p1 p2 p3 p4; obtain ⟨p0, p1, p2, p3, p4⟩ := rosC_cells BS.out; clear hb_) | (go_at_call 54; (with_reducible refine (hcx _ _ (hR.out.below HB.out) LP.out).mono ?_); rintro e wb ⟨rfl, hb_⟩; replace HB := Aside0.mk (below_step HB.out hb_); replace BK := Aside0.mk (blk_below BK.out hb_); (try (replace BS := Aside0.mk (blk_below BS.out hb_))); (try (replace BG := Aside0.mk (blk_below BG.out hb_))); (try (replace LP := Aside0.mk (LP.out.below hb_))); (try (replace LN := Aside0.mk (LN.out.below hb_))); (try (replace LS := Aside0.mk (LS.out.below hb_))); (try (replace LG := Aside0.mk (LG.out.below hb_))); (try (replace hS := Aside0.mk (hS.out.below hb_))); clear q0 q1 q2 q3 q4; obtain ⟨q0, q1, q2, q3, q4⟩ := rosC_cells BK.out; clear p0 p1 p2 p3 p4; obtain ⟨p0, p1, p2, p3, p4⟩ := rosC_cells BS.out; clear hb_) | (go_at_call 54; (with_reducible refine (hcy _ _ (hR.out.below HB.out) LS.out).mono ?_); rintro e wb ⟨rfl, hb_⟩; replace HB := Aside0.mk (below_step HB.out hb_); replace BK := Aside0.mk (blk_below BK.out hb_); (try (replace BS := Aside0.mk (blk_below BS.out hb_))); (try (replace BG := Aside0.mk (blk_below BG.out hb_))); (try (replace LP := Aside0.mk (LP.out.below hb_))); (try (replace LN := Aside0.mk (LN.out.below hb_))); (try (replace LS := Aside0.mk (LS.out.below hb_))); (try (replace LG := Aside0.mk (LG.out.below hb_))); (try (replace hS := Aside0.mk (hS.out.below hb_))); clear q0 q1 q2 q3 q4; obtain ⟨q0, q1, q2, q3, q4⟩ := rosC_cells BK.out; clear p0 p1 p2 p3 p4; obtain ⟨p0, p1, p2, p3, p4⟩ := rosC_cells BS.out; clear hb_) | (go_at_call 45; (with_reducible refine (inL_calls LP.out HN2.out).mono ?_); rintro e wb ⟨rfl, hb_⟩; replace HB := Aside0.mk (below_step HB.out hb_); replace BK := Aside0.mk (blk_below BK.out hb_); (try (replace BS := Aside0.mk (blk_below BS.out hb_))); (try (replace BG := Aside0.mk (blk_below BG.out hb_))); (try (replace LP := Aside0.mk (LP.out.below hb_))); (try (replace LN := Aside0.mk (LN.out.below hb_))); (try (replace LS := Aside0.mk (LS.out.below hb_))); (try (replace LG := Aside0.mk (LG.out.below hb_))); (try (replace hS := Aside0.mk (hS.out.below hb_))); clear q0 q1 q2 q3 q4; obtain ⟨q0, q1, q2, q3, q4⟩ := rosC_cells BK.out; clear p0 p1 p2 p3 p4; obtain ⟨p0, p1, p2, p3, p4⟩ := rosC_cells BS.out; clear hb_) | (go_at_call 25; (with_reducible refine (eqs_calls LP.out LS.out HEQ.out).mono ?_); rintro e wb ⟨rfl, hb_⟩; replace HB := Aside0.mk (below_step HB.out hb_); replace BK := Aside0.mk (blk_below BK.out hb_); (try (replace BS := Aside0.mk (blk_below BS.out hb_))); (try (replace BG := Aside0.mk (blk_below BG.out hb_))); (try (replace LP := Aside0.mk (LP.out.below hb_))); (try (replace LN := Aside0.mk (LN.out.below hb_))); (try (replace LS := Aside0.mk (LS.out.below hb_))); (try (replace LG := Aside0.mk (LG.out.below hb_))); (try (replace hS := Aside0.mk (hS.out.below hb_))); clear q0 q1 q2 q3 q4; obtain ⟨q0, q1, q2, q3, q4⟩ := rosC_cells BK.out; clear p0 p1 p2 p3 p4; obtain ⟨p0, p1, p2, p3, p4⟩ := rosC_cells BS.out; clear hb_))
              go_ret
              exact ⟨rfl, by first | exact HB.out | exact below_alloc HB.out _⟩
      · have hn' : inL (neededO r gate) t = false := by simpa using hn
        have l6a := l6 hp hn'
        have hd2 : decide (planR (laR r t.toNat) gate ≠ []) = true := decide_eq_true l6a
        rw [hd2] at l1
        have hgb : gapB (laR r t.toNat) gate = false := l1
        obtain ⟨l7a, l7b, l7c⟩ := l7 l6a
        have hcy := fun W x (h : RosAt W (.agg #[.int .i64 r.gates, .int .i64 r.frm, .int .i64 r.til, .slice A r.ahead.length c, .slice T r.turns.length d]) r) (h2 : IntsAt W x (intsN (planR (laR r t.toNat) gate))) => cost0_calls (v := (.agg #[.int .i64 r.gates, .int .i64 r.frm, .int .i64 r.til, .slice A r.ahead.length c, .slice T r.turns.length d])) (lv := x) (w := W) V l7b l7c h h2
        have hle : decide (costL r (intsN (planR (laR r t.toNat) gate)) < costL r (intsN (planR r gate))) = false := decide_eq_false (by omega)
        have HD2 := Aside0.mk hd2
        have HGB := Aside0.mk hgb
        have HCG : Aside0 True := ⟨trivial⟩
        have HN := Aside0.mk hn'
        have L8 : inL (intsN (planR r gate)) t = true ∨ (inL (intsN (planR r gate)) t = false ∧ decide (intsN (planR r gate) = intsN (planR (laR r t.toNat) gate)) = true) := by
          cases h : inL (intsN (planR r gate)) t
          · exact .inr ⟨rfl, by rw [l8 hp h]; exact decide_eq_true rfl⟩
          · exact .inl rfl
        clear hne V VL g1 g2 g3 g4 g4' t0 t1 h8 hd hp l1 l2 l3 l4 l5 l6 l7 l8 l6a hd2 hgb et ht P1 hn hn' l7a l7b l7c
        generalize costL r (intsN (planR r gate)) = cx at *
        generalize costL r (intsN (planR (laR r t.toNat) gate)) = cy at *
        replace L8 := Aside0.mk L8
        go_enter Tryz.func14, Tryz.ntmps14
        go_upto_region 9 with (first | ((with_reducible refine gate_dst (N := 4) rfl ?_); refine box_event ?hg (N := 4) ?hd (cs := (rosC r A c T d)) (t := 25) ?hr ?_; (case hd => rfl); (case hg => rfl); (case hr => first | (go_simp; done) | (go_simp; rfl)); intro g hg_ wb hbox_ hb_; have BK := Aside0.mk hbox_; have HB := Aside0.mk hb_; obtain ⟨q0, q1, q2, q3, q4⟩ := rosC_cells BK.out; clear hbox_ hb_ hg_) | (go_at_call 17; refine (sane_calls _ (HT.out.below HB.out)).mono ?_; rintro e wb ⟨rfl, hb_⟩; replace HB := Aside0.mk (below_step HB.out hb_); replace BK := Aside0.mk (blk_below BK.out hb_); (try (replace LP := Aside0.mk (LP.out.below hb_))); (try (replace LN := Aside0.mk (LN.out.below hb_))); clear q0 q1 q2 q3 q4; obtain ⟨q0, q1, q2, q3, q4⟩ := rosC_cells BK.out; clear hb_) | (go_at_call 34; (with_reducible refine (hval _ (hR.out.below HB.out)).mono ?_); rintro e wb ⟨rfl, hb_⟩; replace HB := Aside0.mk (below_step HB.out hb_); replace BK := Aside0.mk (blk_below BK.out hb_); (try (replace LP := Aside0.mk (LP.out.below hb_))); (try (replace LN := Aside0.mk (LN.out.below hb_))); clear q0 q1 q2 q3 q4; obtain ⟨q0, q1, q2, q3, q4⟩ := rosC_cells BK.out; clear hb_) | (go_at_call 18; (with_reducible refine (hfew _ (hR.out.below HB.out) (HL.out.below HB.out)).mono ?_); rintro e wb ⟨rfl, hb_⟩; replace hb_ := below_al hb_; replace HB := Aside0.mk (below_step HB.out hb_); replace BK := Aside0.mk (blk_below BK.out hb_); (try (replace LP := Aside0.mk (LP.out.below hb_))); (try (replace LN := Aside0.mk (LN.out.below hb_))); clear q0 q1 q2 q3 q4; obtain ⟨q0, q1, q2, q3, q4⟩ := rosC_cells BK.out; clear hb_) | (go_at_call 35; (with_reducible refine (hplan _ (hR.out.below HB.out)).mono ?_); rintro e wb ⟨pv, rfl, hl_, hb_⟩; replace HB := Aside0.mk (below_step HB.out hb_); replace BK := Aside0.mk (blk_below BK.out hb_); (try (replace LP := Aside0.mk (LP.out.below hb_))); (try (replace LN := Aside0.mk (LN.out.below hb_))); clear q0 q1 q2 q3 q4; obtain ⟨q0, q1, q2, q3, q4⟩ := rosC_cells BK.out; obtain ⟨ALP, cLP, rfl, z1, z2⟩ := hl_; have LP : Aside0 (IntsAt wb (.slice ALP _ cLP) _) := ⟨⟨ALP, cLP, rfl, z1, z2⟩⟩; clear z1 z2; clear hb_) | (go_at_call 56; (with_reducible refine (hneed _ (hR.out.below HB.out)).mono ?_); rintro e wb ⟨nv, rfl, hl_, hb_⟩; replace HB := Aside0.mk (below_step HB.out hb_); replace BK := Aside0.mk (blk_below BK.out hb_); (try (replace LP := Aside0.mk (LP.out.below hb_))); (try (replace LN := Aside0.mk (LN.out.below hb_))); clear q0 q1 q2 q3 q4; obtain ⟨q0, q1, q2, q3, q4⟩ := rosC_cells BK.out; obtain ⟨ALN, cLN, rfl, z1, z2⟩ := hl_; have LN : Aside0 (IntsAt wb (.slice ALN _ cLN) _) := ⟨⟨ALN, cLN, rfl, z1, z2⟩⟩; clear z1 z2; clear hb_))
        go_cut [14, 15] from 87 to 92 (fun s1 s2 wx => ∃ (g2 : Nat) (As : Option Addr) (cs : Nat) (Ts : Option Addr) (ds : Nat), s1 = .pointer (some ⟨g2, 0, none⟩) ∧ s2 = .bool true ∧ Aside0 (wx.heap[g2]? = some (.cells (rosC (laR r t.toNat) As cs Ts ds) 25 (0, 0))) ∧ Aside0 (RosAt wx (.agg (rosC (laR r t.toNat) As cs Ts ds)) (laR r t.toNat)) ∧ Aside0 (Below w.heap.size w wx) ∧ Aside0 (wx.heap[g]? = some (.cells (rosC r A c T d) 25 (0, 0))) ∧ Aside0 (IntsAt wx (.slice ALP (intsN (planR r gate)).length cLP) (intsN (planR r gate))) ∧ Aside0 (IntsAt wx (.slice ALN (neededO r gate).length cLN) (neededO r gate)))
        case first =>
          go_wp2_with (first | (go_at_call 64; refine (hlac _ (hR.out.below HB.out)).mono ?_; rintro e wb ⟨rv, rfl, hs_, hb_⟩; replace HB := Aside0.mk (below_step HB.out hb_); replace BK := Aside0.mk (blk_below BK.out hb_); (try (replace LP := Aside0.mk (LP.out.below hb_))); (try (replace LN := Aside0.mk (LN.out.below hb_))); clear q0 q1 q2 q3 q4; obtain ⟨q0, q1, q2, q3, q4⟩ := rosC_cells BK.out; obtain ⟨As, cs, Ts, ds, rfl, i1, i2, i3, i4⟩ := hs_; have hS : Aside0 (RosAt wb (.agg #[.int .i64 (laR r t.toNat).gates, .int .i64 (laR r t.toNat).frm, .int .i64 (laR r t.toNat).til, .slice As (laR r t.toNat).ahead.length cs, .slice Ts (laR r t.toNat).turns.length ds]) (laR r t.toNat)) := ⟨⟨As, cs, Ts, ds, rfl, i1, i2, i3, i4⟩⟩; clear i1 i2 i3 i4; clear hb_))
          go_meet
          case rel => exact ⟨_, As, cs, Ts, ds, rfl, rfl, ⟨alloc_at _ _⟩, ⟨hS.out.below (below_alloc (Below.refl _ _) _)⟩, ⟨below_alloc HB.out _⟩, ⟨blk_alloc BK.out _⟩, ⟨LP.out.below (below_alloc (Below.refl _ _) _)⟩, ⟨LN.out.below (below_alloc (Below.refl _ _) _)⟩⟩
        case rest =>
          clear q0 q1 q2 q3 q4 HB BK LP LN hlac hneed hplan hval hfew
          obtain ⟨g2, As, cs, Ts, ds, rfl, rfl, BS, hS0, HB, BK, LP, LN⟩ := hcut
          have hS : Aside0 (RosAt wc (.agg #[.int .i64 (laR r t.toNat).gates, .int .i64 (laR r t.toNat).frm, .int .i64 (laR r t.toNat).til, .slice As (laR r t.toNat).ahead.length cs, .slice Ts (laR r t.toNat).turns.length ds]) (laR r t.toNat)) := ⟨hS0.out⟩
          clear hS0
          have hplan2 := fun W (h : RosAt W (.agg #[.int .i64 (laR r t.toNat).gates, .int .i64 (laR r t.toNat).frm, .int .i64 (laR r t.toNat).til, .slice As (laR r t.toNat).ahead.length cs, .slice Ts (laR r t.toNat).turns.length ds]) (laR r t.toNat)) => plan0_calls HVL.out HG0.out HG1.out h
          have hgap2 := fun W (h : RosAt W (.agg #[.int .i64 (laR r t.toNat).gates, .int .i64 (laR r t.toNat).frm, .int .i64 (laR r t.toNat).til, .slice As (laR r t.toNat).ahead.length cs, .slice Ts (laR r t.toNat).turns.length ds]) (laR r t.toNat)) => gap0_calls HVL.out HG0.out HG1.out h
          have hcg2 := fun W x (h : RosAt W (.agg #[.int .i64 (laR r t.toNat).gates, .int .i64 (laR r t.toNat).frm, .int .i64 (laR r t.toNat).til, .slice As (laR r t.toNat).ahead.length cs, .slice Ts (laR r t.toNat).turns.length ds]) (laR r t.toNat)) (h2 : IntsAt W x (gapO (laR r t.toNat) gate)) => checkGap_calls (.agg #[.int .i64 (laR r t.toNat).gates, .int .i64 (laR r t.toNat).frm, .int .i64 (laR r t.toNat).til, .slice As (laR r t.toNat).ahead.length cs, .slice Ts (laR r t.toNat).turns.length ds]) x (laR r t.toNat) gate (gapO (laR r t.toNat) gate) W h h2
          simp only [HD2.out] at hplan2
          simp only [HGB.out] at hgap2
          (try simp only [HCG.out] at hcg2)
          clear HVL HG0 HG1 HD2 HGB
          generalize hs_ : laR r t.toNat = s at *
          clear hs_
          obtain ⟨q0, q1, q2, q3, q4⟩ := rosC_cells BK.out
          obtain ⟨p0, p1, p2, p3, p4⟩ := rosC_cells BS.out
          generalize intsN (planR r gate) = P at *
          generalize neededO r gate = ND at *
          generalize intsN (planR s gate) = S at *
          go_wp2_with (first | (go_at_call 35; (with_reducible refine (hplan2 _ hS.out).mono ?_); rintro e wb ⟨sv, rfl, hl_, hb_⟩; replace HB := Aside0.mk (below_step HB.out hb_); replace BK := Aside0.mk (blk_below BK.out hb_); (try (replace BS := Aside0.mk (blk_below BS.out hb_))); (try (replace BG := Aside0.mk (blk_below BG.out hb_))); (try (replace LP := Aside0.mk (LP.out.below hb_))); (try (replace LN := Aside0.mk (LN.out.below hb_))); (try (replace LS := Aside0.mk (LS.out.below hb_))); (try (replace LG := Aside0.mk (LG.out.below hb_))); (try (replace hS := Aside0.mk (hS.out.below hb_))); clear q0 q1 q2 q3 q4; obtain ⟨q0, q1, q2, q3, q4⟩ := rosC_cells BK.out; clear p0 p1 p2 p3 p4; obtain ⟨p0, p1, p2, p3, p4⟩ := rosC_cells BS.out; obtain ⟨ALS, cLS, rfl, z1, z2⟩ := hl_; have LS : Aside0 (IntsAt wb (.slice ALS _ cLS) _) := ⟨⟨ALS, cLS, rfl, z1, z2⟩⟩; clear z1 z2; clear hb_) | (go_at_call 21; (with_reducible refine (hgap2 _ hS.out).mono ?_); rintro e wb ⟨gv, rfl, hl_, hb_⟩; replace HB := Aside0.mk (below_step HB.out hb_); replace BK := Aside0.mk (blk_below BK.out hb_); (try (replace BS := Aside0.mk (blk_below BS.out hb_))); (try (replace BG := Aside0.mk (blk_below BG.out hb_))); (try (replace LP := Aside0.mk (LP.out.below hb_))); (try (replace LN := Aside0.mk (LN.out.below hb_))); (try (replace LS := Aside0.mk (LS.out.below hb_))); (try (replace LG := Aside0.mk (LG.out.below hb_))); (try (replace hS := Aside0.mk (hS.out.below hb_))); clear q0 q1 q2 q3 q4; obtain ⟨q0, q1, q2, q3, q4⟩ := rosC_cells BK.out; clear p0 p1 p2 p3 p4; obtain ⟨p0, p1, p2, p3, p4⟩ := rosC_cells BS.out; obtain ⟨ALG, cLG, rfl, z1, z2⟩ := hl_; have LG : Aside0 (IntsAt wb (.slice ALG _ cLG) _) := ⟨⟨ALG, cLG, rfl, z1, z2⟩⟩; clear z1 z2; clear hb_) | (go_at_call 26; refine (hcg2 _ _ hS.out LG.out).mono ?_; rintro e wb ⟨rfl, hb_⟩; replace HB := Aside0.mk (below_step HB.out hb_); replace BK := Aside0.mk (blk_below BK.out hb_); (try (replace BS := Aside0.mk (blk_below BS.out hb_))); (try (replace BG := Aside0.mk (blk_below BG.out hb_))); (try (replace LP := Aside0.mk (LP.out.below hb_))); (try (replace LN := Aside0.mk (LN.out.below hb_))); (try (replace LS := Aside0.mk (LS.out.below hb_))); (try (replace LG := Aside0.mk (LG.out.below hb_))); (try (replace hS := Aside0.mk (hS.out.below hb_))); clear q0 q1 q2 q3 q4; obtain ⟨q0, q1, q2, q3, q4⟩ := rosC_cells BK.out; clear p0 p1 p2 p3 p4; obtain ⟨p0, p1, p2, p3, p4⟩ := rosC_cells BS.out; clear hb_))
          have GS := alloc_at wb (.cells #[.slice ALP P.length cLP, .slice A1 l.length c1] 26)
          generalize hgs : wb.heap.size = gs at GS
          clear q0 q1 q2 q3 q4 p0 p1 p2 p3 p4 hplan2 hgap2 hcg2
          go_loopw [142] (fun i wx => ∃ k : Nat, k ≤ 2 ∧ i = .int .i64 k ∧ Aside0 (wx.heap[gs]? = some (.cells #[.slice ALP P.length cLP, .slice A1 l.length c1] 26 (0, 0))) ∧ Aside0 (Below w.heap.size w wx) ∧ Aside0 (wx.heap[g]? = some (.cells (rosC r A c T d) 25 (0, 0))) ∧ Aside0 (wx.heap[g2]? = some (.cells (rosC s As cs Ts ds) 25 (0, 0))) ∧ Aside0 (IntsAt wx (.slice ALP P.length cLP) P) ∧ Aside0 (IntsAt wx (.slice ALN ND.length cLN) ND) ∧ Aside0 (IntsAt wx (.slice ALS S.length cLS) S) ∧ Aside0 (RosAt wx (.agg #[.int .i64 s.gates, .int .i64 s.frm, .int .i64 s.til, .slice As s.ahead.length cs, .slice Ts s.turns.length ds]) s)) (fun i _ => 2 - (intOf i).toNat)
          case atStart => exact ⟨0, by omega, rfl, ⟨GS⟩, ⟨below_alloc HB.out _⟩, ⟨blk_alloc BK.out _⟩, ⟨blk_alloc BS.out _⟩, ⟨LP.out.below (below_alloc (Below.refl _ _) _)⟩, ⟨LN.out.below (below_alloc (Below.refl _ _) _)⟩, ⟨LS.out.below (below_alloc (Below.refl _ _) _)⟩, ⟨hS.out.below (below_alloc (Below.refl _ _) _)⟩⟩
          clear GS
          case round =>
            clear HB BK BS LP LN LS hS
            obtain ⟨k, hk, rfl, BG, HB, BK, BS, LP, LN, LS, hS⟩ := hrel
            obtain ⟨q0, q1, q2, q3, q4⟩ := rosC_cells BK.out
            have gl0 := blk_lt BK.out
            by_cases hlt : k < 2
            · have hX : ∃ (Ax : Option Addr) (cx : Nat) (x : List Int), wr.cell? ⟨gs, k, none⟩ = some (.slice Ax x.length cx) ∧ Aside0 (IntsAt wr (.slice Ax x.length cx) x) := by
                rcases (by omega : k = 0 ∨ k = 1) with rfl | rfl
                · exact ⟨ALP, cLP, P, (blk_cell BG.out 0).trans rfl, LP⟩
                · exact ⟨A1, c1, l, (blk_cell BG.out 1).trans rfl, ⟨HL.out.below HB.out⟩⟩
              obtain ⟨Ax, cx, x, hc, LX⟩ := hX
              have hcx0 := fun W xv (h : RosAt W (.agg #[.int .i64 r.gates, .int .i64 r.frm, .int .i64 r.til, .slice A r.ahead.length c, .slice T r.turns.length d]) r) (h2 : IntsAt W xv x) => checkPlan_calls (.agg #[.int .i64 r.gates, .int .i64 r.frm, .int .i64 r.til, .slice A r.ahead.length c, .slice T r.turns.length d]) xv r gate x W h h2
              have ik0 : (0 : Int) ≤ (k : Int) := by omega
              have ik1 : (k : Int) < 2 := by omega
              by_cases hy : checkPlanE r gate x = 0
              · have hcon := fun W (h : IntsAt W (.slice ALN ND.length cLN) ND) (h2 : W.heap[wr.heap.size]? = some (.cells #[.slice Ax x.length cx] 26 (0, 0))) (h3 : IntsAt W (.slice Ax x.length cx) x) => in65_all (w := W) h h2 h3 (HALL.out x hy)
                simp only [hy] at hcx0
                clear hy
                go_wp2_with (first | (go_at_call 36; have BP : Aside0 ((wr.alloc (.cells #[.slice Ax x.length cx] 26)).heap[wr.heap.size]? = some (.cells #[.slice Ax x.length cx] 26 (0, 0))) := ⟨alloc_at _ _⟩; have hb_ : Below wr.heap.size wr (wr.alloc (.cells #[.slice Ax x.length cx] 26)) := below_alloc (Below.refl _ _) _; replace HB := Aside0.mk (below_step HB.out hb_); replace BK := Aside0.mk (blk_below BK.out hb_); replace BS := Aside0.mk (blk_below BS.out hb_); replace BG := Aside0.mk (blk_below BG.out hb_); replace LP := Aside0.mk (LP.out.below hb_); replace LN := Aside0.mk (LN.out.below hb_); (try (replace LS := Aside0.mk (LS.out.below hb_))); replace LX := Aside0.mk (LX.out.below hb_); replace hS := Aside0.mk (hS.out.below hb_); clear hb_; generalize hwp : (wr.alloc (.cells #[.slice Ax x.length cx] 26)) = wb at *; clear hwp; (with_reducible refine (hcx0 _ _ (hR.out.below HB.out) LX.out).mono ?_); rintro e wb ⟨rfl, hb_⟩; replace HB := Aside0.mk (below_step HB.out hb_); replace BK := Aside0.mk (blk_below BK.out hb_); (try (replace BS := Aside0.mk (blk_below BS.out hb_))); (try (replace BG := Aside0.mk (blk_below BG.out hb_))); (try (replace BP := Aside0.mk (blk_below BP.out hb_))); (try (replace LP := Aside0.mk (LP.out.below hb_))); (try (replace LN := Aside0.mk (LN.out.below hb_))); (try (replace LS := Aside0.mk (LS.out.below hb_))); (try (replace LX := Aside0.mk (LX.out.below hb_))); (try (replace hS := Aside0.mk (hS.out.below hb_))); clear hb_) | (go_at_call 43; (with_reducible refine (hcon _ LN.out BP.out LX.out).mono ?_); rintro e wb ⟨rfl, hb_⟩; replace HB := Aside0.mk (below_step HB.out hb_); replace BK := Aside0.mk (blk_below BK.out hb_); (try (replace BS := Aside0.mk (blk_below BS.out hb_))); (try (replace BG := Aside0.mk (blk_below BG.out hb_))); (try (replace BP := Aside0.mk (blk_below BP.out hb_))); (try (replace LP := Aside0.mk (LP.out.below hb_))); (try (replace LN := Aside0.mk (LN.out.below hb_))); (try (replace LS := Aside0.mk (LS.out.below hb_))); (try (replace LX := Aside0.mk (LX.out.below hb_))); (try (replace hS := Aside0.mk (hS.out.below hb_))); clear hb_))
                go_roundw
                case rel => exact ⟨k + 1, by omega, by go_num, BG, HB, BK, BS, LP, LN, LS, hS⟩
                case measure => simp [intOf]; omega
              · have hy' : (checkPlanE r gate x == 0) = false := beq_eq_false_iff_ne.2 hy
                generalize checkPlanE r gate x = y at *
                go_wp2_with (first | (go_at_call 36; have BP : Aside0 ((wr.alloc (.cells #[.slice Ax x.length cx] 26)).heap[wr.heap.size]? = some (.cells #[.slice Ax x.length cx] 26 (0, 0))) := ⟨alloc_at _ _⟩; have hb_ : Below wr.heap.size wr (wr.alloc (.cells #[.slice Ax x.length cx] 26)) := below_alloc (Below.refl _ _) _; replace HB := Aside0.mk (below_step HB.out hb_); replace BK := Aside0.mk (blk_below BK.out hb_); replace BS := Aside0.mk (blk_below BS.out hb_); replace BG := Aside0.mk (blk_below BG.out hb_); replace LP := Aside0.mk (LP.out.below hb_); replace LN := Aside0.mk (LN.out.below hb_); (try (replace LS := Aside0.mk (LS.out.below hb_))); replace LX := Aside0.mk (LX.out.below hb_); replace hS := Aside0.mk (hS.out.below hb_); clear hb_; generalize hwp : (wr.alloc (.cells #[.slice Ax x.length cx] 26)) = wb at *; clear hwp; (with_reducible refine (hcx0 _ _ (hR.out.below HB.out) LX.out).mono ?_); rintro e wb ⟨rfl, hb_⟩; replace HB := Aside0.mk (below_step HB.out hb_); replace BK := Aside0.mk (blk_below BK.out hb_); (try (replace BS := Aside0.mk (blk_below BS.out hb_))); (try (replace BG := Aside0.mk (blk_below BG.out hb_))); (try (replace BP := Aside0.mk (blk_below BP.out hb_))); (try (replace LP := Aside0.mk (LP.out.below hb_))); (try (replace LN := Aside0.mk (LN.out.below hb_))); (try (replace LS := Aside0.mk (LS.out.below hb_))); (try (replace LX := Aside0.mk (LX.out.below hb_))); (try (replace hS := Aside0.mk (hS.out.below hb_))); clear hb_))
                go_roundw
                case rel => exact ⟨k + 1, by omega, by go_num, BG, HB, BK, BS, LP, LN, LS, hS⟩
                case measure => simp [intOf]; omega
            · obtain rfl : k = 2 := by omega
              obtain ⟨p0, p1, p2, p3, p4⟩ := rosC_cells BS.out
              clear BG gl0
              rcases L8.out with h | ⟨h, h2⟩
              · have HN2 := Aside0.mk h
                have HEQ : True := trivial
                clear h L8
                go_wp2_with (first | (go_at_call 45; (with_reducible refine (inL_calls LN.out HN.out).mono ?_); rintro e wb ⟨rfl, hb_⟩; replace HB := Aside0.mk (below_step HB.out hb_); replace BK := Aside0.mk (blk_below BK.out hb_); (try (replace BS := Aside0.mk (blk_below BS.out hb_))); (try (replace BG := Aside0.mk (blk_below BG.out hb_))); (try (replace LP := Aside0.mk (LP.out.below hb_))); (try (replace LN := Aside0.mk (LN.out.below hb_))); (try (replace LS := Aside0.mk (LS.out.below hb_))); (try (replace LG := Aside0.mk (LG.out.below hb_))); (try (replace hS := Aside0.mk (hS.out.below hb_))); clear q0 q1 q2 q3 q4; obtain ⟨q0, q1, q2, q3, q4⟩ := rosC_cells BK.out; clear p0 p1 p2 p3 p4; obtain ⟨p0, p1, p2, p3, p4⟩ := rosC_cells BS.out; clear hb_) | (go_at_call 54; (with_reducible refine (hcx _ _ (hR.out.below HB.out) LP.out).mono ?_); rintro e wb ⟨rfl, hb_⟩; replace HB := Aside0.mk (below_step HB.out hb_); replace BK := Aside0.mk (blk_below BK.out hb_); (try (replace BS := Aside0.mk (blk_below BS.out hb_))); (try (replace BG := Aside0.mk (blk_below BG.out hb_))); (try (replace LP := Aside0.mk (LP.out.below hb_))); (try (replace LN := Aside0.mk (LN.out.below hb_))); (try (replace LS := Aside0.mk (LS.out.below hb_))); (try (replace LG := Aside0.mk (LG.out.below hb_))); (try (replace hS := Aside0.mk (hS.out.below hb_))); clear q0 q1 q2 q3 q4; obtain ⟨q0, q1, q2, q3, q4⟩ := rosC_cells BK.out; clear p0 p1 p2 p3 p4; obtain ⟨p0, p1, p2, p3, p4⟩ := rosC_cells BS.out; clear hb_) | (go_at_call 54; (with_reducible refine (hcy _ _ (hR.out.below HB.out) LS.out).mono ?_); rintro e wb ⟨rfl, hb_⟩; replace HB := Aside0.mk (below_step HB.out hb_); replace BK := Aside0.mk (blk_below BK.out hb_); (try (replace BS := Aside0.mk (blk_below BS.out hb_))); (try (replace BG := Aside0.mk (blk_below BG.out hb_))); (try (replace LP := Aside0.mk (LP.out.below hb_))); (try (replace LN := Aside0.mk (LN.out.below hb_))); (try (replace LS := Aside0.mk (LS.out.below hb_))); (try (replace LG := Aside0.mk (LG.out.below hb_))); (try (replace hS := Aside0.mk (hS.out.below hb_))); clear q0 q1 q2 q3 q4; obtain ⟨q0, q1, q2, q3, q4⟩ := rosC_cells BK.out; clear p0 p1 p2 p3 p4; obtain ⟨p0, p1, p2, p3, p4⟩ := rosC_cells BS.out; clear hb_) | (go_at_call 45; (with_reducible refine (inL_calls LP.out HN2.out).mono ?_); rintro e wb ⟨rfl, hb_⟩; replace HB := Aside0.mk (below_step HB.out hb_); replace BK := Aside0.mk (blk_below BK.out hb_); (try (replace BS := Aside0.mk (blk_below BS.out hb_))); (try (replace BG := Aside0.mk (blk_below BG.out hb_))); (try (replace LP := Aside0.mk (LP.out.below hb_))); (try (replace LN := Aside0.mk (LN.out.below hb_))); (try (replace LS := Aside0.mk (LS.out.below hb_))); (try (replace LG := Aside0.mk (LG.out.below hb_))); (try (replace hS := Aside0.mk (hS.out.below hb_))); clear q0 q1 q2 q3 q4; obtain ⟨q0, q1, q2, q3, q4⟩ := rosC_cells BK.out; clear p0 p1 p2 p3 p4; obtain ⟨p0, p1, p2, p3, p4⟩ := rosC_cells BS.out; clear hb_) | (go_at_call 25; (with_reducible refine (eqs_calls LP.out LS.out HEQ.out).mono ?_); rintro e wb ⟨rfl, hb_⟩; replace HB := Aside0.mk (below_step HB.out hb_); replace BK := Aside0.mk (blk_below BK.out hb_); (try (replace BS := Aside0.mk (blk_below BS.out hb_))); (try (replace BG := Aside0.mk (blk_below BG.out hb_))); (try (replace LP := Aside0.mk (LP.out.below hb_))); (try (replace LN := Aside0.mk (LN.out.below hb_))); (try (replace LS := Aside0.mk (LS.out.below hb_))); (try (replace LG := Aside0.mk (LG.out.below hb_))); (try (replace hS := Aside0.mk (hS.out.below hb_))); clear q0 q1 q2 q3 q4; obtain ⟨q0, q1, q2, q3, q4⟩ := rosC_cells BK.out; clear p0 p1 p2 p3 p4; obtain ⟨p0, p1, p2, p3, p4⟩ := rosC_cells BS.out; clear hb_))
                go_ret
                exact ⟨rfl, by first | exact HB.out | exact below_alloc HB.out _⟩
              · have HN2 := Aside0.mk h
                have HEQ := Aside0.mk h2
                clear h h2 L8
                go_wp2_with (first | (go_at_call 45; (with_reducible refine (inL_calls LN.out HN.out).mono ?_); rintro e wb ⟨rfl, hb_⟩; replace HB := Aside0.mk (below_step HB.out hb_); replace BK := Aside0.mk (blk_below BK.out hb_); (try (replace BS := Aside0.mk (blk_below BS.out hb_))); (try (replace BG := Aside0.mk (blk_below BG.out hb_))); (try (replace LP := Aside0.mk (LP.out.below hb_))); (try (replace LN := Aside0.mk (LN.out.below hb_))); (try (replace LS := Aside0.mk (LS.out.below hb_))); (try (replace LG := Aside0.mk (LG.out.below hb_))); (try (replace hS := Aside0.mk (hS.out.below hb_))); clear q0 q1 q2 q3 q4; obtain ⟨q0, q1, q2, q3, q4⟩ := rosC_cells BK.out; clear p0 p1 p2 p3 p4; obtain ⟨p0, p1, p2, p3, p4⟩ := rosC_cells BS.out; clear hb_) | (go_at_call 54; (with_reducible refine (hcx _ _ (hR.out.below HB.out) LP.out).mono ?_); rintro e wb ⟨rfl, hb_⟩; replace HB := Aside0.mk (below_step HB.out hb_); replace BK := Aside0.mk (blk_below BK.out hb_); (try (replace BS := Aside0.mk (blk_below BS.out hb_))); (try (replace BG := Aside0.mk (blk_below BG.out hb_))); (try (replace LP := Aside0.mk (LP.out.below hb_))); (try (replace LN := Aside0.mk (LN.out.below hb_))); (try (replace LS := Aside0.mk (LS.out.below hb_))); (try (replace LG := Aside0.mk (LG.out.below hb_))); (try (replace hS := Aside0.mk (hS.out.below hb_))); clear q0 q1 q2 q3 q4; obtain ⟨q0, q1, q2, q3, q4⟩ := rosC_cells BK.out; clear p0 p1 p2 p3 p4; obtain ⟨p0, p1, p2, p3, p4⟩ := rosC_cells BS.out; clear hb_) | (go_at_call 54; (with_reducible refine (hcy _ _ (hR.out.below HB.out) LS.out).mono ?_); rintro e wb ⟨rfl, hb_⟩; replace HB := Aside0.mk (below_step HB.out hb_); replace BK := Aside0.mk (blk_below BK.out hb_); (try (replace BS := Aside0.mk (blk_below BS.out hb_))); (try (replace BG := Aside0.mk (blk_below BG.out hb_))); (try (replace LP := Aside0.mk (LP.out.below hb_))); (try (replace LN := Aside0.mk (LN.out.below hb_))); (try (replace LS := Aside0.mk (LS.out.below hb_))); (try (replace LG := Aside0.mk (LG.out.below hb_))); (try (replace hS := Aside0.mk (hS.out.below hb_))); clear q0 q1 q2 q3 q4; obtain ⟨q0, q1, q2, q3, q4⟩ := rosC_cells BK.out; clear p0 p1 p2 p3 p4; obtain ⟨p0, p1, p2, p3, p4⟩ := rosC_cells BS.out; clear hb_) | (go_at_call 45; (with_reducible refine (inL_calls LP.out HN2.out).mono ?_); rintro e wb ⟨rfl, hb_⟩; replace HB := Aside0.mk (below_step HB.out hb_); replace BK := Aside0.mk (blk_below BK.out hb_); (try (replace BS := Aside0.mk (blk_below BS.out hb_))); (try (replace BG := Aside0.mk (blk_below BG.out hb_))); (try (replace LP := Aside0.mk (LP.out.below hb_))); (try (replace LN := Aside0.mk (LN.out.below hb_))); (try (replace LS := Aside0.mk (LS.out.below hb_))); (try (replace LG := Aside0.mk (LG.out.below hb_))); (try (replace hS := Aside0.mk (hS.out.below hb_))); clear q0 q1 q2 q3 q4; obtain ⟨q0, q1, q2, q3, q4⟩ := rosC_cells BK.out; clear p0 p1 p2 p3 p4; obtain ⟨p0, p1, p2, p3, p4⟩ := rosC_cells BS.out; clear hb_) | (go_at_call 25; (with_reducible refine (eqs_calls LP.out LS.out HEQ.out).mono ?_); rintro e wb ⟨rfl, hb_⟩; replace HB := Aside0.mk (below_step HB.out hb_); replace BK := Aside0.mk (blk_below BK.out hb_); (try (replace BS := Aside0.mk (blk_below BS.out hb_))); (try (replace BG := Aside0.mk (blk_below BG.out hb_))); (try (replace LP := Aside0.mk (LP.out.below hb_))); (try (replace LN := Aside0.mk (LN.out.below hb_))); (try (replace LS := Aside0.mk (LS.out.below hb_))); (try (replace LG := Aside0.mk (LG.out.below hb_))); (try (replace hS := Aside0.mk (hS.out.below hb_))); clear q0 q1 q2 q3 q4; obtain ⟨q0, q1, q2, q3, q4⟩ := rosC_cells BK.out; clear p0 p1 p2 p3 p4; obtain ⟨p0, p1, p2, p3, p4⟩ := rosC_cells BS.out; clear hb_))
                go_ret
                exact ⟨rfl, by first | exact HB.out | exact below_alloc HB.out _⟩
  · skip
    go_enter Tryz.func14, Tryz.ntmps14
    go_wp2_with (first | ((with_reducible refine gate_dst (N := 4) rfl ?_); refine box_event ?hg (N := 4) ?hd (cs := (rosC r A c T d)) (t := 25) ?hr ?_; (case hd => rfl); (case hg => rfl); (case hr => first | (go_simp; done) | (go_simp; rfl)); intro g hg_ wb hbox_ hb_; have BK := Aside0.mk hbox_; have HB := Aside0.mk hb_; obtain ⟨q0, q1, q2, q3, q4⟩ := rosC_cells BK.out; clear hbox_ hb_ hg_) | (go_at_call 17; refine (sane_calls _ (HT.out.below HB.out)).mono ?_; rintro e wb ⟨rfl, hb_⟩; replace HB := Aside0.mk (below_step HB.out hb_); replace BK := Aside0.mk (blk_below BK.out hb_); (try (replace LP := Aside0.mk (LP.out.below hb_))); (try (replace LN := Aside0.mk (LN.out.below hb_))); clear q0 q1 q2 q3 q4; obtain ⟨q0, q1, q2, q3, q4⟩ := rosC_cells BK.out; clear hb_) | (go_at_call 34; (with_reducible refine (hval _ (hR.out.below HB.out)).mono ?_); rintro e wb ⟨rfl, hb_⟩; replace HB := Aside0.mk (below_step HB.out hb_); replace BK := Aside0.mk (blk_below BK.out hb_); (try (replace LP := Aside0.mk (LP.out.below hb_))); (try (replace LN := Aside0.mk (LN.out.below hb_))); clear q0 q1 q2 q3 q4; obtain ⟨q0, q1, q2, q3, q4⟩ := rosC_cells BK.out; clear hb_) | (go_at_call 18; (with_reducible refine (hfew _ (hR.out.below HB.out) (HL.out.below HB.out)).mono ?_); rintro e wb ⟨rfl, hb_⟩; replace hb_ := below_al hb_; replace HB := Aside0.mk (below_step HB.out hb_); replace BK := Aside0.mk (blk_below BK.out hb_); (try (replace LP := Aside0.mk (LP.out.below hb_))); (try (replace LN := Aside0.mk (LN.out.below hb_))); clear q0 q1 q2 q3 q4; obtain ⟨q0, q1, q2, q3, q4⟩ := rosC_cells BK.out; clear hb_))
    all_goals first
      | (go_ret; exact ⟨rfl, HB.out⟩)
      | (exfalso; exact hg ⟨by assumption, by assumption, by omega, by omega, by omega, by omega⟩)
end Go.Proofs.YtflolfbkpjgjaaaGreatDoor
end
section
namespace Go.Proofs.YtflolfbkpjgjaaaGreatDoor
open Go.RowKit Go.Proofs.YtflolfbkpjgjaaaGreatDoorW.PrintWords
namespace watchLacking
open Go.ChangeShapes Go.WideShapes Go.ChangeAt
theorem own : ownKnob Tryz.prog.godebug = none := by kernel_rfl
theorem laidOut : laidOutB Tryz.prog = true := by kernel_rfl
set_option maxRecDepth 100000 in
theorem contract (H : Type) (enc : TypeId × Value → H) (W : World) (base : Nat) (args : Array Value) (ds gs : List (DataW H)) (before : List MemPlace)
    (hval : ∀ (j : Nat) t v, Tryz.f14.params[j]? = some t → args[j]? = some v → Value.okWide Tryz.prog W .any base t v)
    (hW : DataW.Whole enc Tryz.prog Tryz.f14.params.toList Rows.watchLackingSpec.vars false W args.toList ds gs before) (hL : laidMetH Tryz.prog Rows.watchLackingRow.laid W) :
    Calls Tryz.prog 14 args W fun e W' => ∃ v, e = .returned v ∧ Rows.watchLackingSpec.post enc Tryz.prog Tryz.f14 false true false false W args v W' := by
  have hW' := hW
  obtain ⟨p, q, hA0, hV, rfl, hfz, hnd⟩ := hW
  have hA : DataW.TrodAll enc Tryz.prog W 0 (fun _ => true) true Tryz.f14.params.toList args.toList ds p := hA0
  rw [Tryz.params14] at hA hval
  obtain ⟨v0, vs0, d0, ds0, p0, q0, hargs, rfl, rfl, h0, r0_⟩ := trodAll_cons hA
  obtain ⟨v1, vs1, d1, ds1, p1, q1, rfl, rfl, rfl, h1, r1_⟩ := trodAll_cons r0_
  obtain ⟨v2, vs2, d2, ds2, p2, q2, rfl, rfl, rfl, h2, r2_⟩ := trodAll_cons r1_
  obtain ⟨v3, vs3, d3, ds3, p3, q3, rfl, rfl, rfl, h3, r3_⟩ := trodAll_cons r2_
  obtain ⟨rfl, rfl, rfl⟩ := trodAll_nil r3_
  obtain rfl : args = #[v0, v1, v2, v3] := by cases args; simp_all
  obtain ⟨rfl, rfl⟩ := trodVars_none hV
  have k0 := h0
  have lt0 : ∀ x ∈ p0, x.block < W.heap.size := by obtain ⟨m, hm⟩ := k0; exact DataW.trod_lt m _ _ _ hm
  obtain ⟨r0, hr0⟩ := open_ros (hval 0 25 v0 rfl rfl) h0
  obtain ⟨a1, rfl, rfl, rfl, w1⟩ := open_int Tryz.underlying3 (hval 1 3 v1 rfl rfl) h1
  have k2 := h2
  have lt2 : ∀ x ∈ p2, x.block < W.heap.size := by obtain ⟨m, hm⟩ := k2; exact DataW.trod_lt m _ _ _ hm
  obtain ⟨l2, hr2⟩ := open_intsAt (hval 2 26 v2 rfl rfl) h2
  obtain ⟨a3, rfl, rfl, rfl, w3⟩ := open_int Tryz.underlying3 (hval 3 3 v3 rfl rfl) h3
  clear hA0
  have hT : TabP W := laid_tab hL
  refine (lacks_calls v0 v2 r0 a1 l2 a3 W hT hr0 hr2).mono fun e W' ⟨he, bel⟩ => ?_
  subst he
  exact ⟨_, rfl, _, _, _, [], _, [], hW', trodAll_mk1 (shut_bool Tryz.underlying4 _), (trodAll_cons_mk (Below.trod laidOut (by kernel_rfl) (of_decide_eq_true (by kernel_rfl)) k0 bel lt0) (trodAll_cons_mk (shut_int Tryz.underlying3 w1) (trodAll_cons_mk (Below.trod laidOut (by kernel_rfl) (of_decide_eq_true (by kernel_rfl)) k2 bel lt2) (trodAll_cons_mk (shut_int Tryz.underlying3 w3) trodAll_mk0)))), rfl, bel.frame _, fun h => by cases h⟩
noncomputable def laidWorld (os : Os) : World :=
  { World.holding Tryz.prog os ⟨#[], #[], []⟩ with heap := (((World.holding Tryz.prog os ⟨#[], #[], []⟩).heap.modify 6 (layC tab32)).modify 7 (layC tab64)).modify 2 (layC tab10) }
theorem laid_met (os : Os) : laidMet Tryz.prog Rows.watchLackingRow.laid ((laidWorld os).forCall (fun _ _ => 0) ⟨#[], #[.agg #[.int .i64 0, .int .i64 0, .int .i64 0, .slice none 0 0, .slice none 0 0], .int .i64 0, .slice none 0 0, .int .i64 0], []⟩).memory :=
  laidMet_of_run3 8 (by kernel_rfl) (by kernel_rfl) (by kernel_rfl)
theorem reads (os : Os) {H : Type} (enc : TypeId × Value → H) : ∃ places, DataW.whole enc Tryz.prog ((laidWorld os).forCall (fun _ _ => 0) ⟨#[], #[.agg #[.int .i64 0, .int .i64 0, .int .i64 0, .slice none 0 0, .slice none 0 0], .int .i64 0, .slice none 0 0, .int .i64 0], []⟩).memory Tryz.f14.params.toList Rows.watchLackingSpec.vars false #[Value.agg #[.int .i64 0, .int .i64 0, .int .i64 0, .slice none 0 0, .slice none 0 0], .int .i64 0, .slice none 0 0, .int .i64 0].toList 8 = some ([.agg [.lit (.int .i64 0), .lit (.int .i64 0), .lit (.int .i64 0), .nil, .nil], .lit (.int .i64 0), .nil, .lit (.int .i64 0)], [], places) :=
  ⟨[], by kernel_rfl⟩
set_option maxRecDepth 100000 in
theorem lifted (os : Os) (started : os.Started) (H : Type) (enc : TypeId × Value → H) (F : Stop.Interp) :
    ReturnsInHanded {} Tryz.checked os 14 .any ((OpenSpec.ofChange Rows.watchLackingSpec).preRow enc Tryz.prog Tryz.f14 Rows.watchLackingRow.domain false Rows.watchLackingRow.laid) (((OpenSpec.ofChange Rows.watchLackingSpec).at F).post enc Tryz.prog Tryz.f14 false true false false) := by
  obtain ⟨places, hx⟩ := reads os enc
  refine returnsInHanded_of_row (C := Tryz.checked) (s := OpenSpec.ofChange Rows.watchLackingSpec) own started (by kernel_rfl) Tryz.func14
    (witness_row_at (enc := enc) (C := Tryz.checked) false (laidWorld os) #[.agg #[.int .i64 0, .int .i64 0, .int .i64 0, .slice none 0 0, .slice none 0 0], .int .i64 0, .slice none 0 0, .int .i64 0] rfl (by kernel_rfl) (by kernel_rfl) (by kernel_rfl)
      (OpenSpec.preRow_of_cond 8 hx (by kernel_rfl) (fun k hk => by cases hk) (by kernel_rfl) (laid_met os))) ?_
  intro W base args ds gs before hval hW _ _ _ hL _ _
  exact contract H enc W base args ds gs before hval hW hL
theorem named : Tryz.pinned.checked.prog.funcNamed Rows.watchLackingRow.func = some 14 := by kernel_rfl
set_option maxHeartbeats 8000000 in
theorem closed : joinedFacts Tryz.pinned.checked.prog 14 Tryz.f14 (OpenSpec.ofChange Rows.watchLackingSpec).bare Rows.watchLackingRow = true := by
  unfold joinedFacts
  repeat' (with_reducible refine band ?_ ?_)
  all_goals (as_aux_lemma => kernel_rfl)
theorem inst : Tryz.f14.isInstance Tryz.pinned.checked.prog Rows.watchLackingRow.origin Rows.watchLackingRow.targs := of_decide_eq_true (by kernel_rfl)
theorem said : Rows.WatchLackingSaid :=
  OpenClaim.holds_of_cond 14 Tryz.f14 rfl rfl rfl rfl rfl rfl rfl ⟨rfl, rfl, rfl, rfl, rfl⟩ rfl rfl rfl rfl rfl named Tryz.func14 closed
    inst (by unfold Func.isWrapper; first | (rw [if_pos (by decide +kernel)]; kernel_rfl) | (rw [if_neg (by decide +kernel)]; exact ⟨rfl, rfl⟩))
    (fun os started H enc _ F => by rw [OpenClaim.pre_eq_preRow]; exact lifted os started H enc F)
theorem plain (f : FuncId) (fn : Func) (hf : Tryz.pinned.checked.prog.funcNamed "waterhour/waterhourlaw07.WatchLacking" = some f) (hfn : Tryz.pinned.checked.prog.funcs[f]? = some fn) :
    true = Tryz.pinned.checked.prog.looks [] ∧ ∀ (j : Nat) t, fn.params[j]? = some t → Tryz.pinned.checked.prog.wantsStandIn t = false := by
  obtain rfl : f = 14 := Option.some.inj ((show Tryz.prog.funcNamed "waterhour/waterhourlaw07.WatchLacking" = some 14 by kernel_rfl).symm.trans hf) |>.symm
  obtain rfl : fn = Tryz.f14 := (Option.some.inj (Tryz.func14.symm.trans hfn)).symm
  refine ⟨by kernel_rfl, fun j t ht => ?_⟩
  rw [Tryz.params14] at ht
  have hm := Array.mem_of_getElem? ht
  have hm2 : t ∈ ([25, 3, 26, 3] : List Nat) := by simpa using hm
  have hall : ([25, 3, 26, 3] : List Nat).all (fun t => Tryz.prog.wantsStandIn t == false) = true := by kernel_rfl
  rw [List.all_eq_true] at hall
  exact beq_iff_eq.1 (hall t hm2)
end watchLacking
theorem watchLacking_card : Rows.WatchLackingCardSaid :=
  Claim7.holds_tied_plain_at .later [] _ _ _ _ watchLacking.said (fun _ h => by cases h) (by kernel_rfl) (fun _ h => by cases h) watchLacking_row_tie rfl ⟨rfl, rfl⟩ (by kernel_rfl) rfl watchLacking.plain (by kernel_rfl)
end Go.Proofs.YtflolfbkpjgjaaaGreatDoor
end
