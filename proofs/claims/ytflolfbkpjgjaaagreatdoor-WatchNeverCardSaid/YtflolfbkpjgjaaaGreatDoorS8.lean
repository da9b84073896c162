/- WatchNever holds: the law returns true for every input, and each argument reads behind the call as it read before. Conditions: the tables of the library that the row lists hold what their text lays. -/
import Derived.Shelf.Strings.OnBuilder
import Derived.Shelf.LaysM
import Derived.Shelf.Strconv.Itoa3
import Derived.Shelf.Slices.Reverse
import Derived.Shelf.Slices.Cells
import Derived.Test.YtflolfbkpjgjaaaGreatDoorProg
import Derived.Test.YtflolfbkpjgjaaaGreatDoorCards
import Derived.Test.YtflolfbkpjgjaaaGreatDoorTie
import Derived.Test.YtflolfbkpjgjaaaGreatDoorY8
set_option linter.unusedVariables false
set_option linter.unusedSimpArgs false
section
namespace Go.Proofs.YtflolfbkpjgjaaaGreatDoorW.PrintWords
open Go.RowKit
namespace Kd
def bare {α : Type} (d : Kd α) : Kd α where
  sz := d.sz
  E := d.E
  K := d.K
  M := fun w base _ x cs => d.M w base (fun _ => False) x cs
  K_len := fun h => d.K_len h
  K_one := fun h => d.K_one h
  K_below := fun hb h => d.K_below hb h
  K_of_M := fun h => d.K_of_M h
  M_mono := fun _ h => h
  M_bound := fun h => h
  M_move := fun _ h => d.M_move (fun _ hk => hk.elim) h
  M_lower := fun hb h => d.M_lower hb h
section
variable {α β : Type} {d : Kd α} {d' : Kd β} {e e' : Nat} {w w1 W : World} {base b : Nat} {ok ok' okv oku : Nat → Prop} {u v : Value} {xs : List α} {ys : List β}
end
section
variable {α β : Type} {d : Kd α} {d' : Kd β} {e e' g : Nat} {w w1 W : World} {base b : Nat} {ok ok' okv oku : Nat → Prop} {u v : Value} {xs : List α} {ys : List β}
end
section
variable {P : Program} {ops : Array Oper} {rest : List Oper} {o : Oper} {a : Act} {Q : Exit → Act → World → Prop} {Kc : Act → World → Prop} {α : Type}
end
section
variable {α β : Type} {d : Kd α} {e e' g n cap : Nat} {w w1 W : World} {base : Nat} {ok ok' oki okp : Nat → Prop} {u v : Value} {xs : List α} {i : Int} {c : List Value}
end
section
variable {P : Program} {ops : Array Oper} {rest : List Oper} {o : Oper} {a : Act} {Q : Exit → Act → World → Prop} {α : Type}
end
end Kd
end Go.Proofs.YtflolfbkpjgjaaaGreatDoorW.PrintWords
end
section
namespace Go.Proofs.YtflolfbkpjgjaaaGreatDoor
theorem mem_ints_nat {p : List Nat} {i : Nat} : (i : Int) ∈ intsN p ↔ i ∈ p := by
  rw [mem_ints]
  constructor
  · rintro ⟨k, h, e⟩
    obtain rfl : i = k := by omega
    exact h
  · exact fun h => ⟨i, h, rfl⟩
end Go.Proofs.YtflolfbkpjgjaaaGreatDoor
end
section
namespace Go.Proofs.YtflolfbkpjgjaaaGreatDoor
def Mom (A : List (List Int)) (x : Nat → Int) : Prop := ∀ a b, a < A.length → b < A.length → x a - x b ≤ ah A a b
theorem fold_max_le (f : Nat → Int) : ∀ (xs : List Nat) (s : Int), s ≤ xs.foldl (fun n a => max n (f a)) s ∧ ∀ x ∈ xs, f x ≤ xs.foldl (fun n a => max n (f a)) s
  | [], s => ⟨Int.le_refl _, by simp⟩
  | x :: xs, s => by
    obtain ⟨h1, h2⟩ := fold_max_le f xs (max s (f x))
    refine ⟨Int.le_trans (Int.le_max_left ..) h1, fun y hy => ?_⟩
    rcases List.mem_cons.1 hy with rfl | hy
    · exact Int.le_trans (Int.le_max_right ..) h1
    · exact h2 y hy
theorem fold_max_at (f : Nat → Int) : ∀ (xs : List Nat) (s : Int), xs.foldl (fun n a => max n (f a)) s = s ∨ ∃ x ∈ xs, xs.foldl (fun n a => max n (f a)) s = f x
  | [], s => .inl rfl
  | x :: xs, s => by
    rw [List.foldl_cons]
    rcases fold_max_at f xs (max s (f x)) with h | ⟨y, hy, h⟩
    · rw [h]
      by_cases hc : s ≤ f x
      · exact .inr ⟨x, List.mem_cons_self .., Int.max_eq_right hc⟩
      · exact .inl (Int.max_eq_left (by omega))
    · exact .inr ⟨y, List.mem_cons_of_mem _ hy, h⟩
theorem momP_some {A : List (List Int)} {lo hi : List Int} : ∀ (k : Nat) (out : List Int), momP A lo hi k = some out → out.length = k ∧ ∀ c, c < k → out.getD c 0 = lowest A lo c ∧ lowest A lo c ≤ hi.getD c 0
  | 0, out, h => by
    simp [momP] at h
    subst h
    exact ⟨rfl, by simp⟩
  | k + 1, out, h => by
    simp only [momP] at h
    obtain ⟨o, h1, h2⟩ := Option.bind_eq_some_iff.1 h
    split at h2
    · simp at h2
    · rename_i hc
      obtain rfl := Option.some.inj h2
      obtain ⟨a1, a2⟩ := momP_some k o h1
      refine ⟨by simp [a1], fun c hck => ?_⟩
      by_cases e : c = k
      · subst e
        refine ⟨?_, by omega⟩
        simp [List.getD_eq_getElem?_getD, ← a1]
      · have := a2 c (by omega)
        refine ⟨?_, this.2⟩
        rw [← this.1]
        simp [List.getD_eq_getElem?_getD, List.getElem?_append_left (show c < o.length by omega)]
theorem momP_none {A : List (List Int)} {lo hi : List Int} : ∀ (k : Nat), momP A lo hi k = none → ∃ c, c < k ∧ hi.getD c 0 < lowest A lo c
  | 0, h => by simp [momP] at h
  | k + 1, h => by
    simp only [momP] at h
    cases h1 : momP A lo hi k with
    | none =>
      obtain ⟨c, hc, h2⟩ := momP_none k h1
      exact ⟨c, by omega, h2⟩
    | some o =>
      rw [h1] at h
      simp only [Option.bind_some] at h
      split at h
      · rename_i hc
        exact ⟨k, by omega, by omega⟩
      · simp at h
structure Bnd (A : List (List Int)) (lo hi : List Int) (x : Nat → Int) : Prop where
  mom : Mom A x
  at_ : ∀ c, c < A.length → lo.getD c 0 ≤ x c ∧ x c ≤ hi.getD c 0
theorem momP_iff {A : List (List Int)} (T : Tri A) {lo hi : List Int} (h0 : 0 ≤ lo.getD 0 0) :
    (∀ out, momP A lo hi A.length = some out → Bnd A lo hi (fun c => out.getD c 0) ∧ out.length = A.length ∧ ∀ M, 0 ≤ M → (∀ a, a < A.length → lo.getD a 0 ≤ M) → ∀ c, c < A.length → -1048576 ≤ out.getD c 0 ∧ out.getD c 0 ≤ M + 1048576) ∧
    (momP A lo hi A.length = none → ∀ x, ¬ Bnd A lo hi x) := by
  have hlow : ∀ c, c < A.length → -1048576 ≤ lowest A lo c := by
    intro c hc
    have h1 := (fold_max_le (fun a => lo.getD a 0 - ah A a c) (List.range A.length) (-33554432)).2 0 (List.mem_range.2 T.pos)
    have h2 := T.bnd 0 c T.pos hc
    show -1048576 ≤ (List.range A.length).foldl (fun n a => max n (lo.getD a 0 - ah A a c)) (-33554432)
    omega
  have hat : ∀ c, c < A.length → ∃ a, a < A.length ∧ lowest A lo c = lo.getD a 0 - ah A a c := by
    intro c hc
    rcases fold_max_at (fun a => lo.getD a 0 - ah A a c) (List.range A.length) (-33554432) with h | ⟨a, ha, h⟩
    · have := hlow c hc
      unfold lowest at this
      omega
    · exact ⟨a, List.mem_range.1 ha, h⟩
  have hge : ∀ a c, a < A.length → lo.getD a 0 - ah A a c ≤ lowest A lo c := fun a c ha =>
    (fold_max_le (fun a => lo.getD a 0 - ah A a c) (List.range A.length) (-33554432)).2 a (List.mem_range.2 ha)
  constructor
  · intro out h
    obtain ⟨h1, h2⟩ := momP_some _ _ h
    refine ⟨⟨fun a b ha hb => ?_, fun c hc => ?_⟩, h1, fun M hM hlo c hc => ?_⟩
    · show out.getD a 0 - out.getD b 0 ≤ _
      rw [(h2 a ha).1, (h2 b hb).1]
      obtain ⟨k, hk, e⟩ := hat a ha
      have g1 := hge k b hk
      have g2 := T.tri k a b hk ha hb
      omega
    · show _ ≤ out.getD c 0 ∧ out.getD c 0 ≤ _
      rw [(h2 c hc).1]
      have g1 := hge c c hc
      rw [T.zero c hc] at g1
      exact ⟨by omega, (h2 c hc).2⟩
    · rw [(h2 c hc).1]
      refine ⟨hlow c hc, ?_⟩
      obtain ⟨k, hk, e⟩ := hat c hc
      have g1 := hlo k hk
      have g2 := T.bnd k c hk hc
      omega
  · intro h x hx
    obtain ⟨c, hc, h1⟩ := momP_none _ h
    obtain ⟨a, ha, e⟩ := hat c hc
    have g1 := hx.mom a c ha hc
    have g2 := (hx.at_ a ha).1
    have g3 := (hx.at_ c hc).2
    omega
def Idl (t : Tc) (x : Nat → Int) : Prop := ¬ (x t.c ≥ t.f ∧ x t.d < t.t)
theorem idleP_iff {A : List (List Int)} (T : Tri A) : ∀ (l : List Tc) (lo hi : List Int), lo.length = A.length → hi.length = A.length → 0 ≤ lo.getD 0 0 → (∀ a, a < A.length → lo.getD a 0 ≤ 16777216) →
    (∀ t ∈ l, t.c < A.length ∧ t.d < A.length ∧ 0 ≤ t.t ∧ t.t ≤ 16777216) →
    (∀ out, idleP A l lo hi = some out → Bnd A lo hi (fun c => out.getD c 0) ∧ (∀ t ∈ l, Idl t (fun c => out.getD c 0)) ∧ out.length = A.length ∧ ∀ c, c < A.length → -33554432 ≤ out.getD c 0 ∧ out.getD c 0 ≤ 33554432) ∧
    (idleP A l lo hi = none → ∀ x, Bnd A lo hi x → ∃ t ∈ l, ¬ Idl t x)
  | [], lo, hi, h1, h2, h3, h4, _ => by
    obtain ⟨a1, a2⟩ := momP_iff T (lo := lo) (hi := hi) h3
    refine ⟨fun out h => ?_, fun h x hx => (a2 h x hx).elim⟩
    obtain ⟨b1, b2, b3⟩ := a1 out h
    refine ⟨b1, by simp, b2, fun c hc => ?_⟩
    have := b3 16777216 (by omega) h4 c hc
    omega
  | t :: l, lo, hi, h1, h2, h3, h4, h5 => by
    obtain ⟨t1, t2, t3, t4⟩ := h5 t (List.mem_cons_self ..)
    have hl := fun u hu => h5 u (List.mem_cons_of_mem _ hu)
    have E := idleP_iff T l lo (hi.set t.c (min (hi.getD t.c 0) (t.f - 1))) h1 (by simpa using h2) h3 h4 hl
    have L := idleP_iff T l (lo.set t.d (max (lo.getD t.d 0) t.t)) hi (by simpa using h1) h2
      (by rw [getD_set_int]; split
          · rename_i e; rw [e.1]; exact Int.le_trans h3 (Int.le_max_left ..)
          · exact h3)
      (fun a ha => by
        rw [getD_set_int]; split
        · rename_i e; have := h4 t.d t2; exact Int.max_le.2 ⟨this, t4⟩
        · exact h4 a ha) hl
    have bE : ∀ x, Bnd A lo (hi.set t.c (min (hi.getD t.c 0) (t.f - 1))) x ↔ Bnd A lo hi x ∧ x t.c ≤ t.f - 1 := by
      intro x
      constructor
      · intro h
        refine ⟨⟨h.mom, fun c hc => ?_⟩, ?_⟩
        · have := h.at_ c hc
          rw [getD_set_int] at this
          split at this
          · rename_i e; obtain ⟨rfl, _⟩ := e; omega
          · exact this
        · have := h.at_ t.c t1
          rw [getD_set_int, if_pos ⟨rfl, by omega⟩] at this
          omega
      · rintro ⟨h, hx⟩
        refine ⟨h.mom, fun c hc => ?_⟩
        have := h.at_ c hc
        rw [getD_set_int]
        split
        · rename_i e; obtain ⟨rfl, _⟩ := e; omega
        · exact this
    have bL : ∀ x, Bnd A (lo.set t.d (max (lo.getD t.d 0) t.t)) hi x ↔ Bnd A lo hi x ∧ t.t ≤ x t.d := by
      intro x
      constructor
      · intro h
        refine ⟨⟨h.mom, fun c hc => ?_⟩, ?_⟩
        · have := h.at_ c hc
          rw [getD_set_int] at this
          split at this
          · rename_i e; obtain ⟨rfl, _⟩ := e; omega
          · exact this
        · have := h.at_ t.d t2
          rw [getD_set_int, if_pos ⟨rfl, by omega⟩] at this
          omega
      · rintro ⟨h, hx⟩
        refine ⟨h.mom, fun c hc => ?_⟩
        have := h.at_ c hc
        rw [getD_set_int]
        split
        · rename_i e; obtain ⟨rfl, _⟩ := e; omega
        · exact this
    simp only [idleP]
    cases he : idleP A l lo (hi.set t.c (min (hi.getD t.c 0) (t.f - 1))) with
    | some out =>
      refine ⟨fun out' h => ?_, fun h => by simp at h⟩
      obtain rfl : out = out' := by simpa using h
      obtain ⟨a1, a2, a3, a4⟩ := E.1 out he
      obtain ⟨b1, b2⟩ := (bE _).1 a1
      refine ⟨b1, fun u hu => ?_, a3, a4⟩
      rcases List.mem_cons.1 hu with rfl | hu
      · intro hn; simp only at b2 hn; omega
      · exact a2 u hu
    | none =>
      refine ⟨fun out h => ?_, fun h x hx => ?_⟩
      · obtain ⟨a1, a2, a3, a4⟩ := L.1 out h
        obtain ⟨b1, b2⟩ := (bL _).1 a1
        refine ⟨b1, fun u hu => ?_, a3, a4⟩
        rcases List.mem_cons.1 hu with rfl | hu
        · intro hn; simp only at b2 hn; omega
        · exact a2 u hu
      · by_cases c1 : x t.c ≤ t.f - 1
        · obtain ⟨u, hu, h⟩ := E.2 he x ((bE x).2 ⟨hx, c1⟩)
          exact ⟨u, List.mem_cons_of_mem _ hu, h⟩
        · by_cases c2 : t.t ≤ x t.d
          · obtain ⟨u, hu, h⟩ := L.2 h x ((bL x).2 ⟨hx, c2⟩)
            exact ⟨u, List.mem_cons_of_mem _ hu, h⟩
          · exact ⟨t, List.mem_cons_self .., fun hn => hn ⟨by omega, by omega⟩⟩
theorem guardB_iff (t : Trn) (shown : List Int) : guardB t shown = true ↔ t.frm ≤ sh shown t.clock ∧ sh shown t.clock2 < t.til := by
  unfold guardB
  simp only [Bool.and_eq_true, Bool.not_eq_true', decide_eq_false_iff_not, decide_eq_true_eq]
  omega
def MomL (r : Ros) (shown : List Int) : Prop := ∀ a b : Int, 0 ≤ a → a < r.ahead.length → 0 ≤ b → b < r.ahead.length → sh shown a - sh shown b ≤ ahd r a b
theorem momL_mom {r : Ros} {shown : List Int} : MomL r shown ↔ Mom r.ahead (fun c => shown.getD c 0) :=
  ⟨fun h a b ha hb => h (a : Int) (b : Int) (by omega) (by omega) (by omega) (by omega), fun h a b a0 a1 b0 b1 => by
    obtain ⟨a, rfl⟩ := Int.eq_ofNat_of_zero_le a0
    obtain ⟨b, rfl⟩ := Int.eq_ofNat_of_zero_le b0
    exact h a b (by omega) (by omega)⟩
theorem chain_guards {r : Ros} (V : Valid r) {shown : List Int} (M : MomL r shown) (ht : sh shown 0 < r.til) : ∀ p : List Nat, (∀ x ∈ p, x < r.turns.length) → Chn (fun i j => folB r (i : Int) (j : Int)) p → p ≠ [] →
    (∀ x, p.head? = some x → (tn r (x : Int)).frm ≤ sh shown (tn r (x : Int)).clock) → (∀ x, p.getLast? = some x → endB r (x : Int) = true) → ∃ x ∈ p, guardB (tn r (x : Int)) shown = true
  | [], _, _, h, _, _ => absurd rfl h
  | [a], hin, _, _, hb, he => by
    have ha := hin a (by simp)
    have h1 := hb a rfl
    have h2 : endLate r (a : Int) ≤ 0 := of_decide_eq_true (he a rfl)
    have vt := V.turn (a : Int) (by omega) (by omega)
    have h3 := M (tn r (a : Int)).clock2 0 vt.2.2.1.1 vt.2.2.1.2 (by omega) (by have := V.clocks.1; omega)
    refine ⟨a, by simp, (guardB_iff _ _).2 ⟨h1, ?_⟩⟩
    unfold endLate at h2
    omega
  | a :: b :: l, hin, hc, _, hb, he => by
    have ha := hin a (by simp)
    have hb' := hin b (by simp)
    have h1 := hb a rfl
    by_cases h2 : sh shown (tn r (a : Int)).clock2 < (tn r (a : Int)).til
    · exact ⟨a, by simp, (guardB_iff _ _).2 ⟨h1, h2⟩⟩
    · have vt := V.turn (a : Int) (by omega) (by omega)
      have vb := V.turn (b : Int) (by omega) (by omega)
      have h3 := M (tn r (a : Int)).clock2 (tn r (b : Int)).clock vt.2.2.1.1 vt.2.2.1.2 vb.2.1.1 vb.2.1.2
      have h4 := ((folB_iff r _ _).1 hc.1).2.2
      unfold meetLate at h4
      obtain ⟨x, hx, h5⟩ := chain_guards V M ht (b :: l) (fun x hx => hin x (List.mem_cons_of_mem _ hx)) hc.2 (by simp) (fun x hx => by
        obtain rfl : b = x := by simpa using hx
        omega) (fun x hx => he x (by rw [List.getLast?_cons_cons]; exact hx))
      exact ⟨x, List.mem_cons_of_mem _ hx, h5⟩
theorem plan_guards {r : Ros} (V : Valid r) {gate : Int} {p : List Nat} (h : Plan (grOf r gate) p) {shown : List Int} (M : MomL r shown) (hf : r.frm ≤ sh shown 0) (ht : sh shown 0 < r.til) : ∃ x ∈ p, guardB (tn r (x : Int)) shown = true := by
  refine chain_guards V M ht p (fun x hx => (h.way.own x hx).1) h.way.chn h.way.ne (fun x hx => ?_) h.fin
  have h1 : begLate r (x : Int) ≤ 0 := of_decide_eq_true (h.way.beg x hx)
  have hx' := (h.way.own x (by cases p with | nil => simp at hx | cons a p => (obtain rfl : a = x := by simpa using hx); simp)).1
  have hx' : x < r.turns.length := hx'
  have vt := V.turn (x : Int) (by omega) (by omega)
  have h2 := M 0 (tn r (x : Int)).clock (by omega) (by have := V.clocks.1; omega) vt.2.1.1 vt.2.1.2
  unfold begLate at h1
  omega
end Go.Proofs.YtflolfbkpjgjaaaGreatDoor
end
section
namespace Go.Proofs.YtflolfbkpjgjaaaGreatDoor
open Go.RowKit Go.Proofs.YtflolfbkpjgjaaaGreatDoorW.PrintWords
open Go.Proofs.YtflolfbkpjgjaaaGreatDoorW.PrintMore
theorem momB_iff (r : Ros) (shown : List Int) : momB r shown = true ↔ MomL r shown := by
  unfold momB MomL momC
  simp only [List.all_eq_true, List.mem_range, Bool.not_eq_true', decide_eq_false_iff_not]
  constructor
  · intro h a b a0 a1 b0 b1
    obtain ⟨a, rfl⟩ := Int.eq_ofNat_of_zero_le a0
    obtain ⟨b, rfl⟩ := Int.eq_ofNat_of_zero_le b0
    have := h a (by omega) b (by omega)
    omega
  · intro h a ha b hb
    have := h (a : Int) (b : Int) (by omega) (by omega) (by omega) (by omega)
    omega
end Go.Proofs.YtflolfbkpjgjaaaGreatDoor
end
section
namespace Go.Proofs.YtflolfbkpjgjaaaGreatDoor
open Go.RowKit Go.Proofs.YtflolfbkpjgjaaaGreatDoorW.PrintWords
open Go.Proofs.YtflolfbkpjgjaaaGreatDoorW.PrintMore
theorem mem_whoL {r : Ros} {shown : List Int} {x : Int} : x ∈ whoL r shown ↔ (0 ≤ x ∧ x < r.turns.length) ∧ guardB (tn r x) shown = true := by
  unfold whoL whoN
  rw [List.mem_map]
  constructor
  · rintro ⟨i, hi, rfl⟩
    rw [List.mem_filter, List.mem_range] at hi
    exact ⟨⟨by omega, by omega⟩, hi.2⟩
  · rintro ⟨⟨h1, h2⟩, h3⟩
    obtain ⟨i, rfl⟩ := Int.eq_ofNat_of_zero_le h1
    exact ⟨i, by rw [List.mem_filter, List.mem_range]; exact ⟨by omega, h3⟩, rfl⟩
end Go.Proofs.YtflolfbkpjgjaaaGreatDoor
end
section
namespace Go.Proofs.YtflolfbkpjgjaaaGreatDoor
def BareAt (A : List (List Int)) (frm til : Int) (l : List Tc) (x : Nat → Int) : Prop := Mom A x ∧ frm ≤ x 0 ∧ x 0 < til ∧ ∀ t ∈ l, Idl t x
theorem idle_bare {A : List (List Int)} (T : Tri A) {frm til : Int} (h1 : 0 ≤ frm) (h2 : frm < til) (h3 : til ≤ 16777216) (l : List Tc) (hl : ∀ t ∈ l, t.c < A.length ∧ t.d < A.length ∧ 0 ≤ t.t ∧ t.t ≤ 16777216) :
    (∀ out, idleP A l (loL A.length frm) (hiL A.length til) = some out → BareAt A frm til l (fun c => out.getD c 0) ∧ out.length = A.length ∧ ∀ c, c < A.length → -33554432 ≤ out.getD c 0 ∧ out.getD c 0 ≤ 33554432) ∧
    (idleP A l (loL A.length frm) (hiL A.length til) = none → ∀ x, ¬ BareAt A frm til l x) := by
  have hp := T.pos
  have e1 : ∀ c, (loL A.length frm).getD c 0 = if c = 0 then frm else if c < A.length then -67108864 else 0 := fun c => by
    unfold loL
    rw [getD_set_int, rep_getD, List.length_replicate]
    by_cases hc : c = 0
    · subst hc; rw [if_pos ⟨rfl, hp⟩, if_pos rfl]
    · rw [if_neg (fun h => hc h.1.symm), if_neg hc]
  have e2 : ∀ c, (hiL A.length til).getD c 0 = if c = 0 then til - 1 else if c < A.length then 67108864 else 0 := fun c => by
    unfold hiL
    rw [getD_set_int, rep_getD, List.length_replicate]
    by_cases hc : c = 0
    · subst hc; rw [if_pos ⟨rfl, hp⟩, if_pos rfl]
    · rw [if_neg (fun h => hc h.1.symm), if_neg hc]
  obtain ⟨k1, k2⟩ := idleP_iff T l (loL A.length frm) (hiL A.length til) (by simp [loL]) (by simp [hiL]) (by rw [e1, if_pos rfl]; exact h1) (fun a ha => by rw [e1]; split <;> (try split) <;> omega) hl
  constructor
  · intro out h
    obtain ⟨a1, a2, a3, a4⟩ := k1 out h
    have b0 := a1.at_ 0 hp
    rw [e1, e2, if_pos rfl, if_pos rfl] at b0
    exact ⟨⟨a1.mom, b0.1, by have h := b0.2; have h : out.getD 0 0 ≤ til - 1 := h; show out.getD 0 0 < til; omega, a2⟩, a3, a4⟩
  · rintro h x ⟨x1, x2, x3, x4⟩
    obtain ⟨t, ht, hn⟩ := k2 h x ⟨x1, fun c hc => by
      rw [e1, e2]
      by_cases e : c = 0
      · subst e; rw [if_pos rfl, if_pos rfl]; omega
      · rw [if_neg e, if_neg e, if_pos hc, if_pos hc]
        have g1 := x1 0 c hp hc
        have g2 := x1 c 0 hc hp
        have g3 := T.bnd 0 c hp hc
        have g4 := T.bnd c 0 hc hp
        omega⟩
    exact hn (x4 t ht)
end Go.Proofs.YtflolfbkpjgjaaaGreatDoor
end
section
namespace Go.Proofs
open Go.Shelf
def Tryz.lays112_ren : Go.Shelf.Ren := ⟨fun | 112 => 47 | n => n, fun | 28 => 26 | 3 => 3 | 4 => 4 | 0 => 0 | n => n, fun | n => n⟩
theorem Tryz.lays112 : Go.Proofs.Lays.n112 Tryz.prog Tryz.lays112_ren := {
  mixed := by kernel_rfl
  f112 := Tryz.func47.trans (congrArg some (by kernel_rfl))
  t0 := Tryz.underlying0
  a0 := Tryz.isAgg0
  z0 := Tryz.sizeOf0
  v0 := Tryz.zeroValue0
  t3 := Tryz.underlying3
  a3 := Tryz.isAgg3
  z3 := Tryz.sizeOf3
  v3 := Tryz.zeroValue3
  t4 := Tryz.underlying4
  a4 := Tryz.isAgg4
  z4 := Tryz.sizeOf4
  v4 := Tryz.zeroValue4
  t28 := Tryz.underlying26
  a28 := Tryz.isAgg26
  z28 := Tryz.sizeOf26
  v28 := Tryz.zeroValue26 }
open Go.RowKit Go.Lib Go.Sort in
theorem Tryz.slices_Reverse_int_empty (a : Option Addr) (cap : Nat) (w : World) :
    Calls Tryz.prog 47 #[.slice a 0 cap] w fun e w' => e = .returned (.tuple #[]) ∧ w' = w := Any.slices_Reverse_int_empty Tryz.lays112 a cap w
open Go.RowKit Go.Lib Go.Sort in
theorem Tryz.slices_Reverse_int_cells (b off n c : Nat) (zs : List Int) (w : World) (hz : n ≤ zs.length) (hbig : n ≤ 9223372036854775807) (hc : ∀ j, j < zs.length → w.cell? ⟨b, off + j, none⟩ = some (.int .i64 (zs.getD j 0))) (hf : ∀ j, j < n → w.frozen? ⟨b, off + j, none⟩ = false) :
    Calls Tryz.prog 47 #[.slice (some ⟨b, off, none⟩) n c] w fun e w' => e = .returned (.tuple #[]) ∧ ∃ q, w' = (w.drewN q).setCells b off ((zs.take n).reverse.map (Value.int .i64)) := Any.slices_Reverse_int_cells Tryz.lays112 b off n c zs w hz hbig hc hf
end Go.Proofs
end
section
namespace Go.Proofs.YtflolfbkpjgjaaaGreatDoor
theorem planE_iff {r : Ros} {gate : Int} (V : Valid r) (h0 : 0 ≤ gate) (h1 : gate < r.gates) (l : List Int) : checkPlanE r gate l = 0 ↔ ∃ p, l = intsN p ∧ Plan (grOf r gate) p := by
  rw [checkPlanE_zero V h0 h1, ← planB_iff V]
  cases planB r gate l <;> simp
theorem plan_in {r : Ros} {gate : Int} {p : List Nat} (h : Plan (grOf r gate) p) : (∀ x ∈ intsN p, 0 ≤ x ∧ x < r.turns.length) ∧ diffB (intsN p) = true := by
  have hb := (planB_ints gate (fun x hx => (h.way.own x hx).1)).2 h
  refine ⟨fun x hx => ?_, ?_⟩
  · obtain ⟨i, hi, rfl⟩ := mem_ints.1 hx
    have : i < r.turns.length := (h.way.own i hi).1
    omega
  · unfold planB at hb
    simp only [Bool.and_eq_true] at hb
    exact hb.2.1
end Go.Proofs.YtflolfbkpjgjaaaGreatDoor
end
section
namespace Go.Proofs.YtflolfbkpjgjaaaGreatDoor
theorem who_zero {r : Ros} (V : Valid r) {shown : List Int} (h : whoE r shown = 0) : shown.length = r.ahead.length ∧ MomL r shown ∧ whoO r shown = whoL r shown := by
  unfold whoE at h
  unfold whoO
  rw [checkE_valid V] at h ⊢
  rw [if_neg (by simp)] at h ⊢
  cases h1 : shownB r shown
  · rw [h1] at h
    simp at h
  · rw [h1, if_pos rfl] at h
    rw [if_pos rfl]
    cases h2 : momB r shown
    · rw [h2] at h
      simp at h
    · rw [if_pos rfl]
      exact ⟨((shownB_iff r shown).1 h1).1, (momB_iff r shown).1 h2, rfl⟩
end Go.Proofs.YtflolfbkpjgjaaaGreatDoor
end
section
namespace Go.Proofs.YtflolfbkpjgjaaaGreatDoor
open Go.RowKit Go.Proofs.YtflolfbkpjgjaaaGreatDoorW.PrintWords
open Go.Proofs.YtflolfbkpjgjaaaGreatDoorW.PrintMore
theorem who0_calls {v lv : Value} {r : Ros} {shown : List Int} {w : World} (hv : RosAt w v r) (hl : IntsAt w lv shown) : Calls Tryz.prog 41 #[v, lv] w fun e w' => ∃ ov, e = .returned (.tuple #[ov, .int .i64 (whoE r shown)]) ∧ IntsAt w' ov (whoO r shown) ∧ Below w.heap.size w w' := by
  refine (who_calls v lv r shown w hv hl).mono ?_
  rintro e w' ⟨ov, rfl, ho, hb⟩
  exact ⟨ov, rfl, intsAt_of_own ho, hb⟩
end Go.Proofs.YtflolfbkpjgjaaaGreatDoor
end
section
namespace Go.Proofs.YtflolfbkpjgjaaaGreatDoor
open Go.RowKit Go.Proofs.YtflolfbkpjgjaaaGreatDoorW.PrintWords Go.Proofs.YtflolfbkpjgjaaaGreatDoorW.PrintMore
theorem ci_of_cells2 {W : World} {ad : Addr} {xs : List Int} (hb : xs.length ≤ 9223372036854775807) (h : ∀ i, i < xs.length → W.cell? (ad.add i) = some (.int .i64 (xs.getD i 0))) : CI W (some ad) xs.length xs := by
  refine ⟨rfl, hb, fun _ => ⟨ad, rfl, fun j p hj => ⟨[.int .i64 p], rfl, rfl, fun i u hu => ?_⟩⟩⟩
  have hi : i = 0 := by
    have := (List.getElem?_eq_some_iff.1 hu).1
    simp at this
    exact this
  subst hi
  have hu' : Value.int .i64 p = u := by simpa using hu
  subst hu'
  rw [show (Kd.int .i64).sz = 1 from rfl, Nat.mul_one, Nat.add_zero]
  have hl := (List.getElem?_eq_some_iff.1 hj).1
  rw [h j hl, List.getD_eq_getElem?_getD, hj]
  rfl
theorem below_setCells {B g : Nat} {w0 : World} (hg : B ≤ g) : ∀ (vs : List Value) (o : Nat) (w : World), Below B w0 w → Below B w0 (w.setCells g o vs)
  | [], _, _, h => h
  | v :: vs, o, w, h => below_setCells hg vs (o + 1) _ (h.setCell hg v)
theorem rev_calls {w0 w : World} {lv : Value} {xs : List Int} (ho : w.ownsRow w0.heap.size 3 1 lv xs.length (nums .i64 xs)) (hb : Below w0.heap.size w0 w) :
    Calls Tryz.prog 47 #[lv] w fun e w' => e = .returned (.tuple #[]) ∧ IntsAt w' lv xs.reverse ∧ Below w0.heap.size w0 w' := by
  obtain ⟨h1, h2⟩ := ho
  rcases h2 with ⟨rfl, h0⟩ | ⟨g, cap, cur, rfl, hg, hh, hn, hm, hs, ht⟩
  · obtain rfl := List.eq_nil_of_length_eq_zero h0
    refine (Tryz.slices_Reverse_int_empty none 0 w).mono ?_
    rintro e w' ⟨rfl, rfl⟩
    exact ⟨rfl, ⟨none, 0, rfl, Nat.le_refl _, Kd.C_nil _ _⟩, hb⟩
  · have hmx : maxLen ≤ 9223372036854775807 := by decide
    have hc : ∀ j, j < xs.length → w.cell? ⟨g, 0 + j, none⟩ = some (.int .i64 (xs.getD j 0)) := fun j hj => by
      rw [Nat.zero_add, blk_cell hh, ← Array.getElem?_toList]
      have h3 : (cur.toList.take (xs.length * 1))[j]? = (nums .i64 xs)[j]? := by rw [ht]
      rw [List.getElem?_take, if_pos (by omega)] at h3
      rw [h3]
      simp [nums, List.getD_eq_getElem?_getD, List.getElem?_eq_getElem hj]
    refine (Tryz.slices_Reverse_int_cells g 0 xs.length cap xs w (Nat.le_refl _) (by omega) hc (fun j hj => blk_frozen hh _)).mono ?_
    rintro e w' ⟨rfl, q, rfl⟩
    have hv : ((xs.take xs.length).reverse.map (Value.int .i64)).length = xs.length := by simp
    refine ⟨rfl, ⟨some ⟨g, 0, none⟩, cap, by rw [List.length_reverse], by rw [List.length_reverse]; exact hn, ci_of_cells2 (by rw [List.length_reverse]; omega) (fun i hi => ?_)⟩, below_setCells hg _ _ _ (pw_below_drewN hb q)⟩
    rw [List.length_reverse] at hi
    have h4 := World.cell?_setCells_in g ((xs.take xs.length).reverse.map (Value.int .i64)) 0 (w.drewN q) (fun j hj => by
      rw [hv] at hj
      have := hc j hj
      show (w.cell? ⟨g, 0 + j, none⟩).isSome = true
      rw [this]
      rfl) i (by rw [hv]; exact hi)
    rw [show (⟨g, 0, none⟩ : Addr).add i = ⟨g, 0 + i, none⟩ from by simp [Addr.add]; exact fun h => h.symm]
    rw [h4]
    simp [List.getD_eq_getElem?_getD, List.getElem?_eq_getElem (show i < xs.reverse.length by simpa using hi)]
set_option maxHeartbeats 2000000 in
set_option maxRecDepth 100000 in
theorem in44_calls (x : Int) (bs : Nat) (lv : Value) (xs : List Int) (w : World) (hs : w.heap[bs]? = some (.cells #[lv] 26 (0, 0))) (hl : IntsAt w lv xs) :
    Calls Tryz.prog 44 #[.int .i64 x, .pointer (some ⟨bs, 0, none⟩)] w fun e w' => e = .returned (.bool (xs.any fun y => x == y)) ∧ Below w.heap.size w w' := by
  obtain ⟨A, c, rfl, h1, h2⟩ := hl
  have q : w.cell? ⟨bs, 0, none⟩ = some (.slice A xs.length c) := (blk_cell hs 0).trans rfl
  have hcon := fun W (h : CI W A xs.length xs) => contains_calls A c xs x W h h2.2.1
  have H2 := Aside0.mk h2
  clear h2 h1
  go_enter Tryz.func44, Tryz.ntmps44
  go_wp2_with (go_at_call 45; refine (hcon _ H2.out).mono ?_; rintro e w' ⟨rfl, rfl⟩)
  go_ret
  exact ⟨rfl, Below.refl _ _⟩
theorem enter44 : CanEnter 44 := Go.Proofs.enters_of Tryz.func44 (by kernel_rfl) rfl
theorem in44_pred {bs : Nat} {lv : Value} {xs : List Int} {w : World} (D : Int → Prop) (hs : w.heap[bs]? = some (.cells #[lv] 26 (0, 0))) (hl : IntsAt w lv xs) :
    PredIn 44 #[.pointer (some ⟨bs, 0, none⟩)] (fun x => xs.any fun y => x == y) D w :=
  fun W x _ hW => in44_calls x bs lv xs W (blk_below hs hW) (hl.below hW)
end Go.Proofs.YtflolfbkpjgjaaaGreatDoor
end
section
namespace Go.Proofs.YtflolfbkpjgjaaaGreatDoor
theorem never_bare {r : Ros} {gate : Int} {p : List Nat} (V : Valid r) (h0 : 0 ≤ gate) (h1 : gate < r.gates) (hp : Plan (grOf r gate) p) (hl : p.length ≤ 8) :
    bareE r gate (intsN p).reverse = 0 ∧ bareO r gate (intsN p).reverse = none := by
  have hin := plan_in hp
  have hin1 := hin.1
  have he : bareE r gate (intsN p).reverse = 0 := by
    unfold bareE bareB
    rw [gatedE_good V h0 h1]
    have e1 : (intsN p).reverse.any (outB r) = false := by
      rw [List.any_reverse, List.any_eq_false]
      intro x hx
      rw [Bool.not_eq_true]
      exact (outB_iff r x).2 (hin1 x hx)
    have e2 : diffB (intsN p).reverse = true := by
      rw [diffB_iff]
      exact List.pairwise_reverse.2 (((diffB_iff _).1 hin.2).imp fun h e => h e.symm)
    have e3 : ((intsN p).reverse.any fun i => (tn r i).gate != gate) = false := by
      rw [List.any_reverse, List.any_eq_false]
      intro x hx
      obtain ⟨i, hi, rfl⟩ := mem_ints.1 hx
      have : ((tn r (i : Int)).gate == gate) = true := (hp.way.own i hi).2
      simpa using this
    have e4 : decide ((8 : Int) < ((intsN p).reverse.length : Int)) = false := decide_eq_false (by simp [intsN]; omega)
    rw [e1, e2, e3, e4]
    rfl
  refine ⟨he, ?_⟩
  have hl2 : ∀ t ∈ (intsN p).reverse.map (tcOf r), t.c < r.ahead.length ∧ t.d < r.ahead.length ∧ 0 ≤ t.t ∧ t.t ≤ 16777216 := by
    intro t ht
    obtain ⟨x, hx, rfl⟩ := List.mem_map.1 ht
    have hx' := hin1 x (List.mem_reverse.1 hx)
    have vt := V.turn x hx'.1 hx'.2
    refine ⟨?_, ?_, vt.2.2.2.2.1.1, vt.2.2.2.2.1.2⟩
    · show (tn r x).clock.toNat < _
      omega
    · show (tn r x).clock2.toNat < _
      omega
  have hb := (idle_bare V.tri_ah V.frm V.frmtil V.til _ hl2).1
  unfold bareO
  rw [he, if_neg (by simp)]
  cases h : idleP r.ahead ((intsN p).reverse.map (tcOf r)) (loL r.ahead.length r.frm) (hiL r.ahead.length r.til) with
  | none => rfl
  | some out =>
    obtain ⟨⟨m, f1, f2, idl⟩, _, _⟩ := hb out h
    obtain ⟨x, hx, hg⟩ := plan_guards V hp (shown := out) (momL_mom.2 m) f1 f2
    exact (idl (tcOf r (x : Int)) (List.mem_map.2 ⟨_, List.mem_reverse.2 (mem_ints_nat.2 hx), rfl⟩) ((guardB_iff _ _).1 hg)).elim
theorem never_who {r : Ros} {gate : Int} {p : List Nat} (V : Valid r) (hp : Plan (grOf r gate) p) {shown : List Int} (he : whoE r shown = 0) (hf : r.frm ≤ sh shown 0) (ht : sh shown 0 < r.til) :
    ((intsN p).any fun t => (whoO r shown).any fun x => t == x) = true := by
  obtain ⟨_, M, e⟩ := who_zero V he
  obtain ⟨x, hx, hg⟩ := plan_guards V hp M hf ht
  rw [e, List.any_eq_true]
  refine ⟨(x : Int), mem_ints_nat.2 hx, List.any_eq_true.2 ⟨(x : Int), mem_whoL.2 ⟨⟨by omega, ?_⟩, hg⟩, by simp⟩⟩
  have : x < r.turns.length := (hp.way.own x hx).1
  omega
structure Nevers (r : Ros) (gate : Int) (l shown : List Int) : Prop where
  who : checkPlanE r gate l = 0 → whoE r shown = 0 → r.frm ≤ sh shown 0 → sh shown 0 < r.til → (l.any fun t => (whoO r shown).any fun x => t == x) = true
  bare : checkPlanE r gate l = 0 → l.length ≤ 8 → bareE r gate l.reverse = 0 ∧ bareO r gate l.reverse = none
  own : checkPlanE r gate l ≠ 0 → ¬ (planR r gate ≠ [] ∧ l = intsN (planR r gate))
theorem nevers_law {r : Ros} {gate : Int} (V : Valid r) (h0 : 0 ≤ gate) (h1 : gate < r.gates) (l shown : List Int) : Nevers r gate l shown := by
  refine ⟨fun h he hf ht => ?_, fun h hl => ?_, fun h he => ?_⟩
  · obtain ⟨p, rfl, hp⟩ := (planE_iff V h0 h1 l).1 h
    exact never_who V hp he hf ht
  · obtain ⟨p, rfl, hp⟩ := (planE_iff V h0 h1 l).1 h
    exact never_bare V h0 h1 hp (by simpa [intsN] using hl)
  · obtain ⟨hne, rfl⟩ := he
    exact h ((planE_iff V h0 h1 _).2 ⟨_, rfl, (planR_best V gate).plan.resolve_left hne⟩)
end Go.Proofs.YtflolfbkpjgjaaaGreatDoor
end
section
namespace Go.Proofs.YtflolfbkpjgjaaaGreatDoor
open Go.RowKit Go.Proofs.YtflolfbkpjgjaaaGreatDoorW.PrintWords
open Go.Proofs.YtflolfbkpjgjaaaGreatDoorW.PrintMore
open Go.Deep
def o8_15_0 : Oper := { dst := some 84, op := Op.move (Operand.tmp 15), type := 29, pos := "law.go:200", after := #[], guard := none }
def o8_15_1 : Oper := { dst := some 85, op := Op.binOp BinOp.eql 29 (Operand.tmp 84) (Operand.const (Value.int IntKind.i64 0)) 29, type := 4, pos := "law.go:200", after := #[{ on := 0, ground := Ground.data }], guard := none }
def o8_15_2 : Oper := { dst := some 86, op := Op.move (Operand.tmp 85), type := 4, pos := "law.go:200", after := #[{ on := 1, ground := Ground.data }], guard := none }
def o8_15_3 : Oper := { dst := some 87, op := Op.move (Operand.tmp 3), type := 26, pos := "law.go:200", after := #[{ on := 2, ground := Ground.guard }], guard := some (2, true) }
def o8_15_4 : Oper := { dst := some 88, op := Op.call { callee := Callee.builtin Builtin.len, args := #[Operand.tmp 87], argTypes := #[26] }, type := 3, pos := "law.go:200", after := #[{ on := 3, ground := Ground.data }, { on := 2, ground := Ground.guard }], guard := some (2, true) }
def o8_15_5 : Oper := { dst := some 89, op := Op.binOp BinOp.gtr 3 (Operand.tmp 88) (Operand.const (Value.int IntKind.i64 0)) 3, type := 4, pos := "law.go:200", after := #[{ on := 4, ground := Ground.data }, { on := 2, ground := Ground.guard }], guard := some (2, true) }
def o8_15_6 : Oper := { dst := some 90, op := Op.pick (Operand.tmp 86) (Operand.tmp 89) (Operand.const (Value.bool false)), type := 4, pos := "law.go:200", after := #[{ on := 2, ground := Ground.data }, { on := 5, ground := Ground.data }], guard := none }
def o8_15_7 : Oper := { dst := some 91, op := Op.move (Operand.tmp 90), type := 4, pos := "law.go:200", after := #[{ on := 6, ground := Ground.data }, { on := 2, ground := Ground.chain }], guard := none }
def o8_15_8 : Oper := { dst := some 92, op := Op.move (Operand.tmp 3), type := 26, pos := "law.go:200", after := #[{ on := 7, ground := Ground.guard }], guard := some (7, true) }
def o8_15_9 : Oper := { dst := some 93, op := Op.indexAddr 26 (Operand.tmp 92) (Operand.const (Value.int IntKind.i64 0)), type := 0, pos := "law.go:200", after := #[{ on := 8, ground := Ground.data }, { on := 7, ground := Ground.guard }], guard := some (7, true) }
def o8_15_10 : Oper := { dst := some 94, op := Op.load 3 (Operand.tmp 93), type := 3, pos := "law.go:200", after := #[{ on := 9, ground := Ground.data }, { on := 7, ground := Ground.guard }], guard := some (7, true) }
def o8_15_11 : Oper := { dst := some 95, op := Op.fieldAddr 25 (Operand.tmp 4) 1, type := 0, pos := "law.go:200", after := #[{ on := 7, ground := Ground.guard }], guard := some (7, true) }
def o8_15_12 : Oper := { dst := some 96, op := Op.load 3 (Operand.tmp 95), type := 3, pos := "law.go:200", after := #[{ on := 11, ground := Ground.data }, { on := 7, ground := Ground.guard }], guard := some (7, true) }
def o8_15_13 : Oper := { dst := some 97, op := Op.binOp BinOp.geq 3 (Operand.tmp 94) (Operand.tmp 96) 3, type := 4, pos := "law.go:200", after := #[{ on := 10, ground := Ground.data }, { on := 12, ground := Ground.data }, { on := 7, ground := Ground.guard }], guard := some (7, true) }
def o8_15_14 : Oper := { dst := some 98, op := Op.pick (Operand.tmp 91) (Operand.tmp 97) (Operand.const (Value.bool false)), type := 4, pos := "law.go:200", after := #[{ on := 7, ground := Ground.data }, { on := 13, ground := Ground.data }], guard := none }
def o8_15_15 : Oper := { dst := some 99, op := Op.move (Operand.tmp 98), type := 4, pos := "law.go:200", after := #[{ on := 14, ground := Ground.data }, { on := 7, ground := Ground.chain }], guard := none }
def o8_15_16 : Oper := { dst := some 100, op := Op.move (Operand.tmp 3), type := 26, pos := "law.go:200", after := #[{ on := 15, ground := Ground.guard }], guard := some (15, true) }
def o8_15_17 : Oper := { dst := some 101, op := Op.indexAddr 26 (Operand.tmp 100) (Operand.const (Value.int IntKind.i64 0)), type := 0, pos := "law.go:200", after := #[{ on := 16, ground := Ground.data }, { on := 15, ground := Ground.guard }], guard := some (15, true) }
def o8_15_18 : Oper := { dst := some 102, op := Op.load 3 (Operand.tmp 101), type := 3, pos := "law.go:200", after := #[{ on := 17, ground := Ground.data }, { on := 15, ground := Ground.guard }], guard := some (15, true) }
def o8_15_19 : Oper := { dst := some 103, op := Op.fieldAddr 25 (Operand.tmp 4) 2, type := 0, pos := "law.go:200", after := #[{ on := 15, ground := Ground.guard }], guard := some (15, true) }
def o8_15_20 : Oper := { dst := some 104, op := Op.load 3 (Operand.tmp 103), type := 3, pos := "law.go:200", after := #[{ on := 19, ground := Ground.data }, { on := 15, ground := Ground.guard }], guard := some (15, true) }
def o8_15_21 : Oper := { dst := some 105, op := Op.binOp BinOp.lss 3 (Operand.tmp 102) (Operand.tmp 104) 3, type := 4, pos := "law.go:200", after := #[{ on := 18, ground := Ground.data }, { on := 20, ground := Ground.data }, { on := 15, ground := Ground.guard }], guard := some (15, true) }
def o8_15_22 : Oper := { dst := some 106, op := Op.pick (Operand.tmp 99) (Operand.tmp 105) (Operand.const (Value.bool false)), type := 4, pos := "law.go:200", after := #[{ on := 15, ground := Ground.data }, { on := 21, ground := Ground.data }], guard := none }
def o8_15_23 : Oper := { dst := some 107, op := Op.move (Operand.tmp 106), type := 4, pos := "law.go:200", after := #[{ on := 22, ground := Ground.data }, { on := 15, ground := Ground.chain }], guard := none }
def o8_15_24 : Oper := { dst := some 108, op := Op.move (Operand.tmp 13), type := 26, pos := "law.go:200", after := #[{ on := 23, ground := Ground.guard }], guard := some (23, true) }
def o8_15_25 : Oper := { dst := some 109, op := Op.makeFunc (Fn.func 44) #[] #[Operand.tmp 14], type := 55, pos := "law.go:200", after := #[{ on := 23, ground := Ground.guard }], guard := some (23, true) }
def o8_15_26 : Oper := { dst := some 110, op := Op.call { callee := Callee.value (Operand.func 43), args := #[Operand.tmp 108, Operand.tmp 109], argTypes := #[26, 55] }, type := 4, pos := "law.go:200", after := #[{ on := 24, ground := Ground.data }, { on := 25, ground := Ground.data }, { on := 23, ground := Ground.chain }, { on := 23, ground := Ground.guard }], guard := some (23, true) }
def o8_15_27 : Oper := { dst := some 111, op := Op.unOp UnOp.not 4 (Operand.tmp 110), type := 4, pos := "law.go:200", after := #[{ on := 26, ground := Ground.data }, { on := 23, ground := Ground.guard }], guard := some (23, true) }
def o8_15_28 : Oper := { dst := some 112, op := Op.pick (Operand.tmp 107) (Operand.tmp 111) (Operand.const (Value.bool false)), type := 4, pos := "law.go:200", after := #[{ on := 23, ground := Ground.data }, { on := 27, ground := Ground.data }], guard := none }
theorem bareN_calls {v lv : Value} {r : Ros} {gate : Int} {l : List Int} {w : World} (he : bareE r gate l = 0) (ho : bareO r gate l = none) (hv : RosAt w v r) (hl : IntsAt w lv l) :
    Calls Tryz.prog 30 #[v, .int .i64 gate, lv] w fun e w' => ∃ A c, e = .returned (.tuple #[.slice A 0 c, .bool false, .int .i64 0]) ∧ Below w.heap.size w w' := by
  have := bare_calls v lv r gate l w hv hl
  rw [he, ho] at this
  refine this.mono ?_
  rintro e w' ⟨ov, rfl, h, hb⟩
  rcases h.2 with ⟨rfl, _⟩ | ⟨g, cap, cur, rfl, _⟩
  · exact ⟨none, 0, rfl, hb⟩
  · exact ⟨some ⟨g, 0, none⟩, cap, rfl, hb⟩
set_option maxHeartbeats 60000000 in
set_option maxRecDepth 100000 in
theorem never8_calls (v lv sv : Value) (r : Ros) (gate : Int) (l shown : List Int) (w : World) (hT : TabP w) (hv : RosAt w v r) (hl : IntsAt w lv l) (hs : IntsAt w sv shown) :
    Calls Tryz.prog 8 #[v, .int .i64 gate, lv, sv] w fun e w' => e = .returned (.bool true) ∧ Below w.heap.size w w' := by
  have HT := Aside0.mk hT
  obtain ⟨A, c, T, d, rfl, h1, h2, h3, h4⟩ := hv
  have hR : Aside0 (RosAt w (.agg #[.int .i64 r.gates, .int .i64 r.frm, .int .i64 r.til, .slice A r.ahead.length c, .slice T r.turns.length d]) r) := ⟨⟨A, c, T, d, rfl, h1, h2, h3, h4⟩⟩
  obtain ⟨A1, c1, rfl, i1, i2⟩ := hl
  have HL : Aside0 (IntsAt w (.slice A1 l.length c1) l) := ⟨⟨A1, c1, rfl, i1, i2⟩⟩
  clear i1 i2
  obtain ⟨S1, c2, rfl, i1, i2⟩ := hs
  have HS : Aside0 (IntsAt w (.slice S1 shown.length c2) shown) := ⟨⟨S1, c2, rfl, i1, i2⟩⟩
  clear i1 i2
  clear hT h1 h2 h3 h4
  have hval := fun W (h : RosAt W (.agg #[.int .i64 r.gates, .int .i64 r.frm, .int .i64 r.til, .slice A r.ahead.length c, .slice T r.turns.length d]) r) => valid_calls (.agg #[.int .i64 r.gates, .int .i64 r.frm, .int .i64 r.til, .slice A r.ahead.length c, .slice T r.turns.length d]) r W h
  have hfew := fun W (h : RosAt W (.agg #[.int .i64 r.gates, .int .i64 r.frm, .int .i64 r.til, .slice A r.ahead.length c, .slice T r.turns.length d]) r) (h2 : IntsAt W (.slice A1 l.length c1) l) (h3 : IntsAt W (.slice S1 shown.length c2) shown) => few2_calls (.agg #[.int .i64 r.gates, .int .i64 r.frm, .int .i64 r.til, .slice A r.ahead.length c, .slice T r.turns.length d]) _ _ r l shown W h h2 h3
  by_cases hg : checkB r = true ∧ fewB r [l, shown] = true ∧ 0 ≤ gate ∧ gate < r.gates
  · obtain ⟨g1, g2, g3, g4⟩ := hg
    simp only [g1] at hval
    simp only [g2] at hfew
    have V := (checkB_iff r).1 g1
    have d1 : decide (gate < 0) = false := decide_eq_false (by omega)
    have d2 : decide (r.gates ≤ gate) = false := decide_eq_false (by omega)
    have hplan := fun W (h : RosAt W (.agg #[.int .i64 r.gates, .int .i64 r.frm, .int .i64 r.til, .slice A r.ahead.length c, .slice T r.turns.length d]) r) => plan0_calls V g3 g4 h
    have hcp := fun W xv x (h : RosAt W (.agg #[.int .i64 r.gates, .int .i64 r.frm, .int .i64 r.til, .slice A r.ahead.length c, .slice T r.turns.length d]) r) (h2 : IntsAt W xv x) => checkPlan_calls (.agg #[.int .i64 r.gates, .int .i64 r.frm, .int .i64 r.til, .slice A r.ahead.length c, .slice T r.turns.length d]) xv r gate x W h h2
    have hwho := fun W (h : RosAt W (.agg #[.int .i64 r.gates, .int .i64 r.frm, .int .i64 r.til, .slice A r.ahead.length c, .slice T r.turns.length d]) r) (h2 : IntsAt W (.slice S1 shown.length c2) shown) => who0_calls h h2
    have NL := Aside0.mk (nevers_law V g3 g4 l shown)
    have NP := Aside0.mk (nevers_law V g3 g4 (intsN (planR r gate)) shown)
    obtain ⟨P, hPP⟩ : ∃ P, P = intsN (planR r gate) := ⟨_, rfl⟩
    have HP := Aside0.mk hPP
    clear hPP
    have HLEN := Aside0.mk (fun (h : whoE r shown = 0) => show 0 < shown.length by have := (who_zero V h).1; have := V.clocks; omega)
    have HIS : Aside0 (decide (planR r gate ≠ []) = true ↔ planR r gate ≠ []) := ⟨decide_eq_true_iff⟩
    have hmf : ∀ (fn : Fn) (first cap : Array Value) (w : World), (Instr.makeFunc fn first cap).run Tryz.prog w = .ok (.func fn first cap) w := fun _ _ _ _ => rfl
    clear V g1 g2 g3 g4
    generalize hisd : decide (planR r gate ≠ []) = is_ at *
    clear hisd
    go_enter Tryz.func8, Tryz.ntmps8
    go_wp2_with (first | ((with_reducible refine gate_dst (N := 4) rfl ?_); refine box_event ?hg (N := 4) ?hd (cs := (rosC r A c T d)) (t := 25) ?hr ?_; (case hd => rfl); (case hg => rfl); (case hr => first | (go_simp; done) | (go_simp; rfl)); intro g hg_ wb hbox_ hb_; have BK := Aside0.mk hbox_; have HB := Aside0.mk hb_; obtain ⟨q0, q1, q2, q3, q4⟩ := rosC_cells BK.out; clear hbox_ hb_ hg_) | (go_at_call 17; refine (sane_calls _ (HT.out.below HB.out)).mono ?_; rintro e wb ⟨rfl, hb_⟩; replace HB := Aside0.mk (below_step HB.out hb_); replace BK := Aside0.mk (blk_below BK.out hb_); clear q0 q1 q2 q3 q4; obtain ⟨q0, q1, q2, q3, q4⟩ := rosC_cells BK.out; clear hb_) | (go_at_call 34; (with_reducible refine (hval _ (hR.out.below HB.out)).mono ?_); rintro e wb ⟨rfl, hb_⟩; replace HB := Aside0.mk (below_step HB.out hb_); replace BK := Aside0.mk (blk_below BK.out hb_); clear q0 q1 q2 q3 q4; obtain ⟨q0, q1, q2, q3, q4⟩ := rosC_cells BK.out; clear hb_) | (go_at_call 18; (with_reducible refine (hfew _ (hR.out.below HB.out) (HL.out.below HB.out) (HS.out.below HB.out)).mono ?_); rintro e wb ⟨rfl, hb_⟩; replace hb_ := below_al hb_; replace HB := Aside0.mk (below_step HB.out hb_); replace BK := Aside0.mk (blk_below BK.out hb_); clear q0 q1 q2 q3 q4; obtain ⟨q0, q1, q2, q3, q4⟩ := rosC_cells BK.out; clear hb_) | (go_at_call 35; (with_reducible refine (hplan _ (hR.out.below HB.out)).mono ?_); rintro e wb ⟨pv, rfl, hl_, hb_⟩; replace HB := Aside0.mk (below_step HB.out hb_); replace BK := Aside0.mk (blk_below BK.out hb_); clear q0 q1 q2 q3 q4; obtain ⟨q0, q1, q2, q3, q4⟩ := rosC_cells BK.out; obtain ⟨ALP, cLP, rfl, z1, z2⟩ := hl_; have LP : Aside0 (IntsAt wb (.slice ALP _ cLP) _) := ⟨⟨ALP, cLP, rfl, z1, z2⟩⟩; clear z1 z2; clear hb_))
    have GS := alloc_at wb (.cells #[.slice A1 l.length c1, .slice ALP (intsN (planR r gate)).length cLP] 26)
    generalize hgs : wb.heap.size = gs at GS
    clear q0 q1 q2 q3 q4 hplan
    rw [← HP.out] at LP NP GS ⊢
    go_loopw [56] (fun i wx => ∃ k : Nat, k ≤ 2 ∧ i = .int .i64 k ∧ Aside0 (wx.heap[gs]? = some (.cells #[.slice A1 l.length c1, .slice ALP P.length cLP] 26 (0, 0))) ∧ Aside0 (Below w.heap.size w wx) ∧ Aside0 (wx.heap[g]? = some (.cells (rosC r A c T d) 25 (0, 0))) ∧ Aside0 (IntsAt wx (.slice ALP P.length cLP) P)) (fun i _ => 2 - (intOf i).toNat)
    case atStart => exact ⟨0, by omega, rfl, ⟨GS⟩, ⟨below_alloc HB.out _⟩, ⟨blk_alloc BK.out _⟩, ⟨LP.out.below (below_alloc (Below.refl _ _) _)⟩⟩
    clear GS
    case round =>
      clear HB BK LP
      obtain ⟨k, hk, rfl, BG, HB, BK, LP⟩ := hrel
      obtain ⟨q0, q1, q2, q3, q4⟩ := rosC_cells BK.out
      by_cases hlt : k < 2
      · have hX : ∃ (Ax : Option Addr) (cx : Nat) (x : List Int), wr.cell? ⟨gs, k, none⟩ = some (.slice Ax x.length cx) ∧ Aside0 (IntsAt wr (.slice Ax x.length cx) x ∧ CI wr Ax x.length x) ∧ Nevers r gate x shown := by
          rcases (by omega : k = 0 ∨ k = 1) with rfl | rfl
          · exact ⟨A1, c1, l, (blk_cell BG.out 0).trans rfl, ⟨HL.out.below HB.out, (intsAt_ci (HL.out.below HB.out)).2.2⟩, NL.out⟩
          · exact ⟨ALP, cLP, _, (blk_cell BG.out 1).trans rfl, ⟨LP.out, (intsAt_ci LP.out).2.2⟩, NP.out⟩
        obtain ⟨Ax, cx, x, hc, LX0, NX⟩ := hX
        have LX := Aside0.mk LX0.out.1
        have hcx := fun W xv (h : RosAt W (.agg #[.int .i64 r.gates, .int .i64 r.frm, .int .i64 r.til, .slice A r.ahead.length c, .slice T r.turns.length d]) r) (h2 : IntsAt W xv x) => hcp W xv x h h2
        have ik0 : (0 : Int) ≤ (k : Int) := by omega
        have ik1 : (k : Int) < 2 := by omega
        have heq := fun {W : World} {v1 v2 : Value} (h1 : IntsAt W v1 x) (h2 : IntsAt W v2 P) => eqs_calls h1 h2 (rfl : decide (x = P) = decide (x = P))
        by_cases hy : checkPlanE r gate x = 0
        · have NB := Aside0.mk (NX.bare hy)
          have NW := Aside0.mk (NX.who hy)
          clear heq
          simp only [hy] at hcx
          go_wp2_with (first | (go_at_call 36; (with_reducible refine (hcx _ _ (hR.out.below HB.out) LX.out).mono ?_); rintro e wb ⟨rfl, hb_⟩; replace HB := Aside0.mk (below_step HB.out hb_); replace BK := Aside0.mk (blk_below BK.out hb_); (try (replace BG := Aside0.mk (blk_below BG.out hb_))); (try (replace BW := Aside0.mk (blk_below BW.out hb_))); (try (replace LP := Aside0.mk (LP.out.below hb_))); (try (replace LX := Aside0.mk (LX.out.below hb_))); (try (replace LR := Aside0.mk (LR.out.below hb_))); clear q0 q1 q2 q3 q4; obtain ⟨q0, q1, q2, q3, q4⟩ := rosC_cells BK.out; clear hb_) | (go_at_call 41; (with_reducible refine (hwho _ (hR.out.below HB.out) (HS.out.below HB.out)).mono ?_); rintro e wb ⟨ov, rfl, hl_, hb_⟩; replace HB := Aside0.mk (below_step HB.out hb_); replace BK := Aside0.mk (blk_below BK.out hb_); (try (replace BG := Aside0.mk (blk_below BG.out hb_))); (try (replace BW := Aside0.mk (blk_below BW.out hb_))); (try (replace LP := Aside0.mk (LP.out.below hb_))); (try (replace LX := Aside0.mk (LX.out.below hb_))); (try (replace LR := Aside0.mk (LR.out.below hb_))); clear q0 q1 q2 q3 q4; obtain ⟨q0, q1, q2, q3, q4⟩ := rosC_cells BK.out; obtain ⟨ALW, cLW, rfl, z1, z2⟩ := hl_; have LW : Aside0 (IntsAt wb (.slice ALW _ cLW) _) := ⟨⟨ALW, cLW, rfl, z1, z2⟩⟩; clear z1 z2; clear hb_))
          replace HB : Aside0 (Below w.heap.size w (wb.alloc (.cells #[.slice ALW (whoO r shown).length cLW] 26))) := ⟨below_alloc HB.out _⟩
          have BW : Aside0 ((wb.alloc (.cells #[.slice ALW (whoO r shown).length cLW] 26)).heap[wb.heap.size]? = some (.cells #[.slice ALW (whoO r shown).length cLW] 26 (0, 0))) := ⟨alloc_at _ _⟩
          replace LW : Aside0 (IntsAt (wb.alloc (.cells #[.slice ALW (whoO r shown).length cLW] 26)) (.slice ALW (whoO r shown).length cLW) (whoO r shown)) := ⟨LW.out.below (below_alloc (Below.refl _ _) _)⟩
          replace BK : Aside0 ((wb.alloc (.cells #[.slice ALW (whoO r shown).length cLW] 26)).heap[g]? = _) := ⟨blk_alloc BK.out _⟩
          replace BG : Aside0 ((wb.alloc (.cells #[.slice ALW (whoO r shown).length cLW] 26)).heap[gs]? = _) := ⟨blk_alloc BG.out _⟩
          replace LP : Aside0 (IntsAt (wb.alloc (.cells #[.slice ALW (whoO r shown).length cLW] 26)) _ P) := ⟨LP.out.below (below_alloc (Below.refl _ _) _)⟩
          have LX9 : Aside0 (IntsAt (wb.alloc (.cells #[.slice ALW (whoO r shown).length cLW] 26)) (.slice Ax x.length cx) x) := ⟨LX.out.below (below_alloc (Below.refl _ _) _)⟩
          clear LX q0 q1 q2 q3 q4
          generalize hw9 : (wb.alloc (.cells #[.slice ALW (whoO r shown).length cLW] 26)) = w9 at *
          clear hw9
          generalize wb.heap.size = gw at *
          by_cases he : whoE r shown = 0
          · have e0 : (whoE r shown == 0) = true := by simpa using he
            have hl := HLEN.out he
            have hpos : decide ((0 : Int) < (shown.length : Int)) = true := decide_eq_true (by omega)
            have hpos2 : decide (0 < shown.length) = true := decide_eq_true (by omega)
            have hposN : 0 < shown.length := by omega
            have hpos' : (0 : Int) < (shown.length : Int) := by omega
            obtain ⟨sa, hsa, hsc⟩ := CI_at (intsAt_ci (HS.out.below HB.out)).2.2 0 (Int.le_refl _) hpos'
            cases hsa
            have HSC : Aside0 (w9.cell? sa = some (.int .i64 (sh shown 0))) := ⟨by simpa [Addr.add, sh] using hsc⟩
            clear hsc hl
            cases f1 : decide (r.frm ≤ sh shown 0)
            · clear NW
              have HSW : Aside0 (∀ W, Below w9.heap.size w9 W → (fun w' => w'.cell? ⟨g, 1, none⟩ = some (.int .i64 r.frm) ∧ w'.cell? ⟨g, 2, none⟩ = some (.int .i64 r.til) ∧ w'.cell? sa = some (.int .i64 (sh shown 0))) W) := ⟨fun W h => by
                obtain ⟨a0, a1, a2, a3, a4⟩ := rosC_cells (blk_below BK.out h)
                exact ⟨a1, a2, pw_cell_below h HSC.out⟩⟩
              refine wp_region_held_drew (S := (fun w' => w'.cell? ⟨g, 1, none⟩ = some (.int .i64 r.frm) ∧ w'.cell? ⟨g, 2, none⟩ = some (.int .i64 r.til) ∧ w'.cell? sa = some (.int .i64 (sh shown 0)))) (by kernel_rfl) ?_ (fun hH0 => ?_)
              · exact HSW.out _ (below_drew (Below.refl _ _))
              refine tk 0 (oi := o8_15_0) (v := ?_) rfl (by kernel_rfl) (fun _ _ _ h => h) (by rfl) ?_ hH0 ?_
              rotate_left
              · (intro w hSw; (try dsimp only at hSw); unfold o8_15_0; go_simp <;> (with_reducible rfl))
              simp only [Act.put, o8_15_0, List.setIfInBounds_toArray, List.set_cons_zero, List.set_cons_succ]
              refine tk 1 (oi := o8_15_1) (v := ?_) rfl (by kernel_rfl) (fun _ _ _ h => h) (by rfl) ?_ hH0 ?_
              rotate_left
              · (intro w hSw; (try dsimp only at hSw); unfold o8_15_1; go_simp <;> (with_reducible rfl))
              simp only [Act.put, o8_15_1, List.setIfInBounds_toArray, List.set_cons_zero, List.set_cons_succ]
              refine tk 2 (oi := o8_15_2) (v := ?_) rfl (by kernel_rfl) (fun _ _ _ h => h) (by rfl) ?_ hH0 ?_
              rotate_left
              · (intro w hSw; (try dsimp only at hSw); unfold o8_15_2; go_simp <;> (with_reducible rfl))
              simp only [Act.put, o8_15_2, List.setIfInBounds_toArray, List.set_cons_zero, List.set_cons_succ]
              refine tk 3 (oi := o8_15_3) (v := ?_) rfl (by kernel_rfl) (fun _ _ _ h => h) (by rfl) ?_ hH0 ?_
              rotate_left
              · (intro w hSw; (try dsimp only at hSw); unfold o8_15_3; go_simp <;> (with_reducible rfl))
              simp only [Act.put, o8_15_3, List.setIfInBounds_toArray, List.set_cons_zero, List.set_cons_succ]
              refine tk 4 (oi := o8_15_4) (v := ?_) rfl (by kernel_rfl) (fun _ _ _ h => h) (by rfl) ?_ hH0 ?_
              rotate_left
              · (intro w hSw; (try dsimp only at hSw); unfold o8_15_4; go_simp <;> (with_reducible rfl))
              simp only [Act.put, o8_15_4, List.setIfInBounds_toArray, List.set_cons_zero, List.set_cons_succ]
              refine tk 5 (oi := o8_15_5) (v := ?_) rfl (by kernel_rfl) (fun _ _ _ h => h) (by rfl) ?_ hH0 ?_
              rotate_left
              · (intro w hSw; (try dsimp only at hSw); unfold o8_15_5; go_simp <;> (with_reducible rfl))
              simp only [Act.put, o8_15_5, List.setIfInBounds_toArray, List.set_cons_zero, List.set_cons_succ]
              refine tk 6 (oi := o8_15_6) (v := ?_) rfl (by kernel_rfl) (fun _ _ _ h => h) (by rfl) ?_ hH0 ?_
              rotate_left
              · (intro w hSw; (try dsimp only at hSw); unfold o8_15_6; go_simp <;> (with_reducible rfl))
              simp only [Act.put, o8_15_6, List.setIfInBounds_toArray, List.set_cons_zero, List.set_cons_succ]
              refine tk 7 (oi := o8_15_7) (v := ?_) rfl (by kernel_rfl) (fun _ _ _ h => h) (by rfl) ?_ hH0 ?_
              rotate_left
              · (intro w hSw; (try dsimp only at hSw); unfold o8_15_7; go_simp <;> (with_reducible rfl))
              simp only [Act.put, o8_15_7, List.setIfInBounds_toArray, List.set_cons_zero, List.set_cons_succ]
              refine tk 8 (oi := o8_15_8) (v := ?_) rfl (by kernel_rfl) (fun _ _ _ h => h) (by rfl) ?_ hH0 ?_
              rotate_left
              · (intro w hSw; (try dsimp only at hSw); unfold o8_15_8; go_simp <;> (with_reducible rfl))
              simp only [Act.put, o8_15_8, List.setIfInBounds_toArray, List.set_cons_zero, List.set_cons_succ]
              refine tk 9 (oi := o8_15_9) (v := ?_) rfl (by kernel_rfl) (fun _ _ _ h => h) (by rfl) ?_ hH0 ?_
              rotate_left
              · (intro w hSw; (try dsimp only at hSw); unfold o8_15_9; go_simp <;> (with_reducible rfl))
              simp only [Act.put, o8_15_9, List.setIfInBounds_toArray, List.set_cons_zero, List.set_cons_succ]
              refine tk 10 (oi := o8_15_10) (v := ?_) rfl (by kernel_rfl) (fun _ _ _ h => h) (by rfl) ?_ hH0 ?_
              rotate_left
              · (intro w hSw; (try dsimp only at hSw); unfold o8_15_10; go_simp <;> (with_reducible rfl))
              simp only [Act.put, o8_15_10, List.setIfInBounds_toArray, List.set_cons_zero, List.set_cons_succ]
              refine tk 11 (oi := o8_15_11) (v := ?_) rfl (by kernel_rfl) (fun _ _ _ h => h) (by rfl) ?_ hH0 ?_
              rotate_left
              · (intro w hSw; (try dsimp only at hSw); unfold o8_15_11; go_simp <;> (with_reducible rfl))
              simp only [Act.put, o8_15_11, List.setIfInBounds_toArray, List.set_cons_zero, List.set_cons_succ]
              refine tk 12 (oi := o8_15_12) (v := ?_) rfl (by kernel_rfl) (fun _ _ _ h => h) (by rfl) ?_ hH0 ?_
              rotate_left
              · (intro w hSw; (try dsimp only at hSw); unfold o8_15_12; go_simp <;> (with_reducible rfl))
              simp only [Act.put, o8_15_12, List.setIfInBounds_toArray, List.set_cons_zero, List.set_cons_succ]
              refine tk 13 (oi := o8_15_13) (v := ?_) rfl (by kernel_rfl) (fun _ _ _ h => h) (by rfl) ?_ hH0 ?_
              rotate_left
              · (intro w hSw; (try dsimp only at hSw); unfold o8_15_13; go_simp <;> (with_reducible rfl))
              simp only [Act.put, o8_15_13, List.setIfInBounds_toArray, List.set_cons_zero, List.set_cons_succ]
              refine tk 14 (oi := o8_15_14) (v := ?_) rfl (by kernel_rfl) (fun _ _ _ h => h) (by rfl) ?_ hH0 ?_
              rotate_left
              · (intro w hSw; (try dsimp only at hSw); unfold o8_15_14; go_simp <;> (with_reducible rfl))
              simp only [Act.put, o8_15_14, List.setIfInBounds_toArray, List.set_cons_zero, List.set_cons_succ]
              refine tk 15 (oi := o8_15_15) (v := ?_) rfl (by kernel_rfl) (fun _ _ _ h => h) (by rfl) ?_ hH0 ?_
              rotate_left
              · (intro w hSw; (try dsimp only at hSw); unfold o8_15_15; go_simp <;> (with_reducible rfl))
              simp only [Act.put, o8_15_15, List.setIfInBounds_toArray, List.set_cons_zero, List.set_cons_succ]
              refine tu 16 (oi := o8_15_16) rfl (by kernel_rfl) (fun _ _ _ h => h) (by rfl) hH0 ?_
              simp only [Act.put, o8_15_16, List.setIfInBounds_toArray, List.set_cons_zero, List.set_cons_succ]
              refine tu 17 (oi := o8_15_17) rfl (by kernel_rfl) (fun _ _ _ h => h) (by rfl) hH0 ?_
              simp only [Act.put, o8_15_17, List.setIfInBounds_toArray, List.set_cons_zero, List.set_cons_succ]
              refine tu 18 (oi := o8_15_18) rfl (by kernel_rfl) (fun _ _ _ h => h) (by rfl) hH0 ?_
              simp only [Act.put, o8_15_18, List.setIfInBounds_toArray, List.set_cons_zero, List.set_cons_succ]
              refine tu 19 (oi := o8_15_19) rfl (by kernel_rfl) (fun _ _ _ h => h) (by rfl) hH0 ?_
              simp only [Act.put, o8_15_19, List.setIfInBounds_toArray, List.set_cons_zero, List.set_cons_succ]
              refine tu 20 (oi := o8_15_20) rfl (by kernel_rfl) (fun _ _ _ h => h) (by rfl) hH0 ?_
              simp only [Act.put, o8_15_20, List.setIfInBounds_toArray, List.set_cons_zero, List.set_cons_succ]
              refine tu 21 (oi := o8_15_21) rfl (by kernel_rfl) (fun _ _ _ h => h) (by rfl) hH0 ?_
              simp only [Act.put, o8_15_21, List.setIfInBounds_toArray, List.set_cons_zero, List.set_cons_succ]
              refine tk 22 (oi := o8_15_22) (v := ?_) rfl (by kernel_rfl) (fun _ _ _ h => h) (by rfl) ?_ hH0 ?_
              rotate_left
              · (intro w hSw; (try dsimp only at hSw); unfold o8_15_22; go_simp <;> (with_reducible rfl))
              simp only [Act.put, o8_15_22, List.setIfInBounds_toArray, List.set_cons_zero, List.set_cons_succ]
              refine tk 23 (oi := o8_15_23) (v := ?_) rfl (by kernel_rfl) (fun _ _ _ h => h) (by rfl) ?_ hH0 ?_
              rotate_left
              · (intro w hSw; (try dsimp only at hSw); unfold o8_15_23; go_simp <;> (with_reducible rfl))
              simp only [Act.put, o8_15_23, List.setIfInBounds_toArray, List.set_cons_zero, List.set_cons_succ]
              refine tu 24 (oi := o8_15_24) rfl (by kernel_rfl) (fun _ _ _ h => h) (by rfl) hH0 ?_
              simp only [Act.put, o8_15_24, List.setIfInBounds_toArray, List.set_cons_zero, List.set_cons_succ]
              refine tu 25 (oi := o8_15_25) rfl (by kernel_rfl) (fun _ _ _ h => h) (by rfl) hH0 ?_
              simp only [Act.put, o8_15_25, List.setIfInBounds_toArray, List.set_cons_zero, List.set_cons_succ]
              refine tu 26 (oi := o8_15_26) rfl (by kernel_rfl) (fun _ _ _ h => h) (by rfl) hH0 ?_
              simp only [Act.put, o8_15_26, List.setIfInBounds_toArray, List.set_cons_zero, List.set_cons_succ]
              refine tu 27 (oi := o8_15_27) rfl (by kernel_rfl) (fun _ _ _ h => h) (by rfl) hH0 ?_
              simp only [Act.put, o8_15_27, List.setIfInBounds_toArray, List.set_cons_zero, List.set_cons_succ]
              refine tk 28 (oi := o8_15_28) (v := ?_) rfl (by kernel_rfl) (fun _ _ _ h => h) (by rfl) ?_ hH0 ?_
              rotate_left
              · (intro w hSw; (try dsimp only at hSw); unfold o8_15_28; go_simp <;> (with_reducible rfl))
              simp only [Act.put, o8_15_28, List.setIfInBounds_toArray, List.set_cons_zero, List.set_cons_succ]
              refine wpAnyH_done (by kernel_rfl) ?_ _
              have HX : Aside0 (Below w9.heap.size w9 w9.drew) := ⟨below_drew (Below.refl _ _)⟩
              clear HSW
              replace HB := Aside0.mk (below_step HB.out HX.out)
              replace BK := Aside0.mk (blk_below BK.out HX.out)
              replace BG := Aside0.mk (blk_below BG.out HX.out)
              replace LP := Aside0.mk (LP.out.below HX.out)
              have LX := Aside0.mk (show IntsAt _ (.slice Ax x.length cx) x ∧ CI _ Ax x.length x from ⟨LX9.out.below HX.out, (intsAt_ci (LX9.out.below HX.out)).2.2⟩)
              clear HX LX9
              clear BW LW
              generalize w9.drew = wb at *
              obtain ⟨q0, q1, q2, q3, q4⟩ := rosC_cells BK.out
              cases h8d : decide ((8 : Int) < (x.length : Int))
              · have h8 : x.length ≤ 1000000 := by have := of_decide_eq_false h8d; omega
                have hbare := fun W xv (h : RosAt W (.agg #[.int .i64 r.gates, .int .i64 r.frm, .int .i64 r.til, .slice A r.ahead.length c, .slice T r.turns.length d]) r) (h2 : IntsAt W xv x.reverse) => bareN_calls (v := (.agg #[.int .i64 r.gates, .int .i64 r.frm, .int .i64 r.til, .slice A r.ahead.length c, .slice T r.turns.length d])) (lv := xv) (w := W) (NB.out (by have := of_decide_eq_false h8d; omega)).1 (NB.out (by have := of_decide_eq_false h8d; omega)).2 h h2
                clear NB
                go_wp2_with (first | (go_at_call 46; (refine (clone_calls Ax cx x _ LX.out.2 h8).mono ?_); rintro e wd ⟨cv, rfl, ho_, hb_⟩; have HO := Aside0.mk ho_; have HC := Aside0.mk hb_; clear ho_ hb_ q0 q1 q2 q3 q4) | (go_at_call 47; refine (rev_calls HO.out HC.out).mono ?_; clear HO HC; rintro e wb ⟨rfl, hl_, hb_⟩; replace HB := Aside0.mk (below_step HB.out hb_); replace BK := Aside0.mk (blk_below BK.out hb_); (try (replace BG := Aside0.mk (blk_below BG.out hb_))); (try (replace LP := Aside0.mk (LP.out.below hb_))); (try (replace LX := Aside0.mk (LX.out.below hb_))); have LR := Aside0.mk hl_; obtain ⟨q0, q1, q2, q3, q4⟩ := rosC_cells BK.out; clear hl_ hb_) | (go_at_call 30; refine (hbare _ _ (hR.out.below HB.out) LR.out).mono ?_; rintro e wb ⟨A5, c5, rfl, hb_⟩; replace HB := Aside0.mk (below_step HB.out hb_); replace BK := Aside0.mk (blk_below BK.out hb_); (try (replace BG := Aside0.mk (blk_below BG.out hb_))); (try (replace LP := Aside0.mk (LP.out.below hb_))); (try (replace LX := Aside0.mk (LX.out.below hb_))); clear hb_ q0 q1 q2 q3 q4))
                go_roundw
                case rel => exact ⟨k + 1, by omega, by go_num, BG, HB, BK, LP⟩
                case measure => simp [intOf]; omega
              · clear NB
                go_wp2_with fail
                go_roundw
                case rel => exact ⟨k + 1, by omega, by go_num, BG, HB, BK, LP⟩
                case measure => simp [intOf]; omega
            · cases f2 : decide (sh shown 0 < r.til)
              · clear NW
                have HSW : Aside0 (∀ W, Below w9.heap.size w9 W → (fun w' => w'.cell? ⟨g, 1, none⟩ = some (.int .i64 r.frm) ∧ w'.cell? ⟨g, 2, none⟩ = some (.int .i64 r.til) ∧ w'.cell? sa = some (.int .i64 (sh shown 0))) W) := ⟨fun W h => by
                  obtain ⟨a0, a1, a2, a3, a4⟩ := rosC_cells (blk_below BK.out h)
                  exact ⟨a1, a2, pw_cell_below h HSC.out⟩⟩
                refine wp_region_held_drew (S := (fun w' => w'.cell? ⟨g, 1, none⟩ = some (.int .i64 r.frm) ∧ w'.cell? ⟨g, 2, none⟩ = some (.int .i64 r.til) ∧ w'.cell? sa = some (.int .i64 (sh shown 0)))) (by kernel_rfl) ?_ (fun hH0 => ?_)
                · exact HSW.out _ (below_drew (Below.refl _ _))
                refine tk 0 (oi := o8_15_0) (v := ?_) rfl (by kernel_rfl) (fun _ _ _ h => h) (by rfl) ?_ hH0 ?_
                rotate_left
                · (intro w hSw; (try dsimp only at hSw); unfold o8_15_0; go_simp <;> (with_reducible rfl))
                simp only [Act.put, o8_15_0, List.setIfInBounds_toArray, List.set_cons_zero, List.set_cons_succ]
                refine tk 1 (oi := o8_15_1) (v := ?_) rfl (by kernel_rfl) (fun _ _ _ h => h) (by rfl) ?_ hH0 ?_
                rotate_left
                · (intro w hSw; (try dsimp only at hSw); unfold o8_15_1; go_simp <;> (with_reducible rfl))
                simp only [Act.put, o8_15_1, List.setIfInBounds_toArray, List.set_cons_zero, List.set_cons_succ]
                refine tk 2 (oi := o8_15_2) (v := ?_) rfl (by kernel_rfl) (fun _ _ _ h => h) (by rfl) ?_ hH0 ?_
                rotate_left
                · (intro w hSw; (try dsimp only at hSw); unfold o8_15_2; go_simp <;> (with_reducible rfl))
                simp only [Act.put, o8_15_2, List.setIfInBounds_toArray, List.set_cons_zero, List.set_cons_succ]
                refine tk 3 (oi := o8_15_3) (v := ?_) rfl (by kernel_rfl) (fun _ _ _ h => h) (by rfl) ?_ hH0 ?_
                rotate_left
                · (intro w hSw; (try dsimp only at hSw); unfold o8_15_3; go_simp <;> (with_reducible rfl))
                simp only [Act.put, o8_15_3, List.setIfInBounds_toArray, List.set_cons_zero, List.set_cons_succ]
                refine tk 4 (oi := o8_15_4) (v := ?_) rfl (by kernel_rfl) (fun _ _ _ h => h) (by rfl) ?_ hH0 ?_
                rotate_left
                · (intro w hSw; (try dsimp only at hSw); unfold o8_15_4; go_simp <;> (with_reducible rfl))
                simp only [Act.put, o8_15_4, List.setIfInBounds_toArray, List.set_cons_zero, List.set_cons_succ]
                refine tk 5 (oi := o8_15_5) (v := ?_) rfl (by kernel_rfl) (fun _ _ _ h => h) (by rfl) ?_ hH0 ?_
                rotate_left
                · (intro w hSw; (try dsimp only at hSw); unfold o8_15_5; go_simp <;> (with_reducible rfl))
                simp only [Act.put, o8_15_5, List.setIfInBounds_toArray, List.set_cons_zero, List.set_cons_succ]
                refine tk 6 (oi := o8_15_6) (v := ?_) rfl (by kernel_rfl) (fun _ _ _ h => h) (by rfl) ?_ hH0 ?_
                rotate_left
                · (intro w hSw; (try dsimp only at hSw); unfold o8_15_6; go_simp <;> (with_reducible rfl))
                simp only [Act.put, o8_15_6, List.setIfInBounds_toArray, List.set_cons_zero, List.set_cons_succ]
                refine tk 7 (oi := o8_15_7) (v := ?_) rfl (by kernel_rfl) (fun _ _ _ h => h) (by rfl) ?_ hH0 ?_
                rotate_left
                · (intro w hSw; (try dsimp only at hSw); unfold o8_15_7; go_simp <;> (with_reducible rfl))
                simp only [Act.put, o8_15_7, List.setIfInBounds_toArray, List.set_cons_zero, List.set_cons_succ]
                refine tk 8 (oi := o8_15_8) (v := ?_) rfl (by kernel_rfl) (fun _ _ _ h => h) (by rfl) ?_ hH0 ?_
                rotate_left
                · (intro w hSw; (try dsimp only at hSw); unfold o8_15_8; go_simp <;> (with_reducible rfl))
                simp only [Act.put, o8_15_8, List.setIfInBounds_toArray, List.set_cons_zero, List.set_cons_succ]
                refine tk 9 (oi := o8_15_9) (v := ?_) rfl (by kernel_rfl) (fun _ _ _ h => h) (by rfl) ?_ hH0 ?_
                rotate_left
                · (intro w hSw; (try dsimp only at hSw); unfold o8_15_9; go_simp <;> (with_reducible rfl))
                simp only [Act.put, o8_15_9, List.setIfInBounds_toArray, List.set_cons_zero, List.set_cons_succ]
                refine tk 10 (oi := o8_15_10) (v := ?_) rfl (by kernel_rfl) (fun _ _ _ h => h) (by rfl) ?_ hH0 ?_
                rotate_left
                · (intro w hSw; (try dsimp only at hSw); unfold o8_15_10; go_simp <;> (with_reducible rfl))
                simp only [Act.put, o8_15_10, List.setIfInBounds_toArray, List.set_cons_zero, List.set_cons_succ]
                refine tk 11 (oi := o8_15_11) (v := ?_) rfl (by kernel_rfl) (fun _ _ _ h => h) (by rfl) ?_ hH0 ?_
                rotate_left
                · (intro w hSw; (try dsimp only at hSw); unfold o8_15_11; go_simp <;> (with_reducible rfl))
                simp only [Act.put, o8_15_11, List.setIfInBounds_toArray, List.set_cons_zero, List.set_cons_succ]
                refine tk 12 (oi := o8_15_12) (v := ?_) rfl (by kernel_rfl) (fun _ _ _ h => h) (by rfl) ?_ hH0 ?_
                rotate_left
                · (intro w hSw; (try dsimp only at hSw); unfold o8_15_12; go_simp <;> (with_reducible rfl))
                simp only [Act.put, o8_15_12, List.setIfInBounds_toArray, List.set_cons_zero, List.set_cons_succ]
                refine tk 13 (oi := o8_15_13) (v := ?_) rfl (by kernel_rfl) (fun _ _ _ h => h) (by rfl) ?_ hH0 ?_
                rotate_left
                · (intro w hSw; (try dsimp only at hSw); unfold o8_15_13; go_simp <;> (with_reducible rfl))
                simp only [Act.put, o8_15_13, List.setIfInBounds_toArray, List.set_cons_zero, List.set_cons_succ]
                refine tk 14 (oi := o8_15_14) (v := ?_) rfl (by kernel_rfl) (fun _ _ _ h => h) (by rfl) ?_ hH0 ?_
                rotate_left
                · (intro w hSw; (try dsimp only at hSw); unfold o8_15_14; go_simp <;> (with_reducible rfl))
                simp only [Act.put, o8_15_14, List.setIfInBounds_toArray, List.set_cons_zero, List.set_cons_succ]
                refine tk 15 (oi := o8_15_15) (v := ?_) rfl (by kernel_rfl) (fun _ _ _ h => h) (by rfl) ?_ hH0 ?_
                rotate_left
                · (intro w hSw; (try dsimp only at hSw); unfold o8_15_15; go_simp <;> (with_reducible rfl))
                simp only [Act.put, o8_15_15, List.setIfInBounds_toArray, List.set_cons_zero, List.set_cons_succ]
                refine tk 16 (oi := o8_15_16) (v := ?_) rfl (by kernel_rfl) (fun _ _ _ h => h) (by rfl) ?_ hH0 ?_
                rotate_left
                · (intro w hSw; (try dsimp only at hSw); unfold o8_15_16; go_simp <;> (with_reducible rfl))
                simp only [Act.put, o8_15_16, List.setIfInBounds_toArray, List.set_cons_zero, List.set_cons_succ]
                refine tk 17 (oi := o8_15_17) (v := ?_) rfl (by kernel_rfl) (fun _ _ _ h => h) (by rfl) ?_ hH0 ?_
                rotate_left
                · (intro w hSw; (try dsimp only at hSw); unfold o8_15_17; go_simp <;> (with_reducible rfl))
                simp only [Act.put, o8_15_17, List.setIfInBounds_toArray, List.set_cons_zero, List.set_cons_succ]
                refine tk 18 (oi := o8_15_18) (v := ?_) rfl (by kernel_rfl) (fun _ _ _ h => h) (by rfl) ?_ hH0 ?_
                rotate_left
                · (intro w hSw; (try dsimp only at hSw); unfold o8_15_18; go_simp <;> (with_reducible rfl))
                simp only [Act.put, o8_15_18, List.setIfInBounds_toArray, List.set_cons_zero, List.set_cons_succ]
                refine tk 19 (oi := o8_15_19) (v := ?_) rfl (by kernel_rfl) (fun _ _ _ h => h) (by rfl) ?_ hH0 ?_
                rotate_left
                · (intro w hSw; (try dsimp only at hSw); unfold o8_15_19; go_simp <;> (with_reducible rfl))
                simp only [Act.put, o8_15_19, List.setIfInBounds_toArray, List.set_cons_zero, List.set_cons_succ]
                refine tk 20 (oi := o8_15_20) (v := ?_) rfl (by kernel_rfl) (fun _ _ _ h => h) (by rfl) ?_ hH0 ?_
                rotate_left
                · (intro w hSw; (try dsimp only at hSw); unfold o8_15_20; go_simp <;> (with_reducible rfl))
                simp only [Act.put, o8_15_20, List.setIfInBounds_toArray, List.set_cons_zero, List.set_cons_succ]
                refine tk 21 (oi := o8_15_21) (v := ?_) rfl (by kernel_rfl) (fun _ _ _ h => h) (by rfl) ?_ hH0 ?_
                rotate_left
                · (intro w hSw; (try dsimp only at hSw); unfold o8_15_21; go_simp <;> (with_reducible rfl))
                simp only [Act.put, o8_15_21, List.setIfInBounds_toArray, List.set_cons_zero, List.set_cons_succ]
                refine tk 22 (oi := o8_15_22) (v := ?_) rfl (by kernel_rfl) (fun _ _ _ h => h) (by rfl) ?_ hH0 ?_
                rotate_left
                · (intro w hSw; (try dsimp only at hSw); unfold o8_15_22; go_simp <;> (with_reducible rfl))
                simp only [Act.put, o8_15_22, List.setIfInBounds_toArray, List.set_cons_zero, List.set_cons_succ]
                refine tk 23 (oi := o8_15_23) (v := ?_) rfl (by kernel_rfl) (fun _ _ _ h => h) (by rfl) ?_ hH0 ?_
                rotate_left
                · (intro w hSw; (try dsimp only at hSw); unfold o8_15_23; go_simp <;> (with_reducible rfl))
                simp only [Act.put, o8_15_23, List.setIfInBounds_toArray, List.set_cons_zero, List.set_cons_succ]
                refine tu 24 (oi := o8_15_24) rfl (by kernel_rfl) (fun _ _ _ h => h) (by rfl) hH0 ?_
                simp only [Act.put, o8_15_24, List.setIfInBounds_toArray, List.set_cons_zero, List.set_cons_succ]
                refine tu 25 (oi := o8_15_25) rfl (by kernel_rfl) (fun _ _ _ h => h) (by rfl) hH0 ?_
                simp only [Act.put, o8_15_25, List.setIfInBounds_toArray, List.set_cons_zero, List.set_cons_succ]
                refine tu 26 (oi := o8_15_26) rfl (by kernel_rfl) (fun _ _ _ h => h) (by rfl) hH0 ?_
                simp only [Act.put, o8_15_26, List.setIfInBounds_toArray, List.set_cons_zero, List.set_cons_succ]
                refine tu 27 (oi := o8_15_27) rfl (by kernel_rfl) (fun _ _ _ h => h) (by rfl) hH0 ?_
                simp only [Act.put, o8_15_27, List.setIfInBounds_toArray, List.set_cons_zero, List.set_cons_succ]
                refine tk 28 (oi := o8_15_28) (v := ?_) rfl (by kernel_rfl) (fun _ _ _ h => h) (by rfl) ?_ hH0 ?_
                rotate_left
                · (intro w hSw; (try dsimp only at hSw); unfold o8_15_28; go_simp <;> (with_reducible rfl))
                simp only [Act.put, o8_15_28, List.setIfInBounds_toArray, List.set_cons_zero, List.set_cons_succ]
                refine wpAnyH_done (by kernel_rfl) ?_ _
                have HX : Aside0 (Below w9.heap.size w9 w9.drew) := ⟨below_drew (Below.refl _ _)⟩
                clear HSW
                replace HB := Aside0.mk (below_step HB.out HX.out)
                replace BK := Aside0.mk (blk_below BK.out HX.out)
                replace BG := Aside0.mk (blk_below BG.out HX.out)
                replace LP := Aside0.mk (LP.out.below HX.out)
                have LX := Aside0.mk (show IntsAt _ (.slice Ax x.length cx) x ∧ CI _ Ax x.length x from ⟨LX9.out.below HX.out, (intsAt_ci (LX9.out.below HX.out)).2.2⟩)
                clear HX LX9
                clear BW LW
                generalize w9.drew = wb at *
                obtain ⟨q0, q1, q2, q3, q4⟩ := rosC_cells BK.out
                cases h8d : decide ((8 : Int) < (x.length : Int))
                · have h8 : x.length ≤ 1000000 := by have := of_decide_eq_false h8d; omega
                  have hbare := fun W xv (h : RosAt W (.agg #[.int .i64 r.gates, .int .i64 r.frm, .int .i64 r.til, .slice A r.ahead.length c, .slice T r.turns.length d]) r) (h2 : IntsAt W xv x.reverse) => bareN_calls (v := (.agg #[.int .i64 r.gates, .int .i64 r.frm, .int .i64 r.til, .slice A r.ahead.length c, .slice T r.turns.length d])) (lv := xv) (w := W) (NB.out (by have := of_decide_eq_false h8d; omega)).1 (NB.out (by have := of_decide_eq_false h8d; omega)).2 h h2
                  clear NB
                  go_wp2_with (first | (go_at_call 46; (refine (clone_calls Ax cx x _ LX.out.2 h8).mono ?_); rintro e wd ⟨cv, rfl, ho_, hb_⟩; have HO := Aside0.mk ho_; have HC := Aside0.mk hb_; clear ho_ hb_ q0 q1 q2 q3 q4) | (go_at_call 47; refine (rev_calls HO.out HC.out).mono ?_; clear HO HC; rintro e wb ⟨rfl, hl_, hb_⟩; replace HB := Aside0.mk (below_step HB.out hb_); replace BK := Aside0.mk (blk_below BK.out hb_); (try (replace BG := Aside0.mk (blk_below BG.out hb_))); (try (replace LP := Aside0.mk (LP.out.below hb_))); (try (replace LX := Aside0.mk (LX.out.below hb_))); have LR := Aside0.mk hl_; obtain ⟨q0, q1, q2, q3, q4⟩ := rosC_cells BK.out; clear hl_ hb_) | (go_at_call 30; refine (hbare _ _ (hR.out.below HB.out) LR.out).mono ?_; rintro e wb ⟨A5, c5, rfl, hb_⟩; replace HB := Aside0.mk (below_step HB.out hb_); replace BK := Aside0.mk (blk_below BK.out hb_); (try (replace BG := Aside0.mk (blk_below BG.out hb_))); (try (replace LP := Aside0.mk (LP.out.below hb_))); (try (replace LX := Aside0.mk (LX.out.below hb_))); clear hb_ q0 q1 q2 q3 q4))
                  go_roundw
                  case rel => exact ⟨k + 1, by omega, by go_num, BG, HB, BK, LP⟩
                  case measure => simp [intOf]; omega
                · clear NB
                  go_wp2_with fail
                  go_roundw
                  case rel => exact ⟨k + 1, by omega, by go_num, BG, HB, BK, LP⟩
                  case measure => simp [intOf]; omega
              · have hany := NW.out he (of_decide_eq_true f1) (of_decide_eq_true f2)
                have hcon : ∀ W, Below w9.heap.size w9 W → Calls Tryz.prog 43 #[.slice Ax x.length cx, .func (.func 44) #[] #[.pointer (some ⟨gw, 0, none⟩)]] W fun e w' => e = .returned (.bool true) ∧ Below W.heap.size W w' := fun W hW => by
                  have := containsL_calls (.slice Ax x.length cx) x 44 #[.pointer (some ⟨gw, 0, none⟩)] _ W enter44 (LX9.out.below hW) (in44_pred _ (blk_below BW.out hW) (LW.out.below hW))
                  rw [hany] at this
                  exact this
                clear NW hany
                have HSW : Aside0 (∀ W, Below w9.heap.size w9 W → (fun w' => w'.cell? ⟨g, 1, none⟩ = some (.int .i64 r.frm) ∧ w'.cell? ⟨g, 2, none⟩ = some (.int .i64 r.til) ∧ w'.cell? sa = some (.int .i64 (sh shown 0))) W) := ⟨fun W h => by
                  obtain ⟨a0, a1, a2, a3, a4⟩ := rosC_cells (blk_below BK.out h)
                  exact ⟨a1, a2, pw_cell_below h HSC.out⟩⟩
                refine wp_region_held_drew (S := (fun w' => w'.cell? ⟨g, 1, none⟩ = some (.int .i64 r.frm) ∧ w'.cell? ⟨g, 2, none⟩ = some (.int .i64 r.til) ∧ w'.cell? sa = some (.int .i64 (sh shown 0)))) (by kernel_rfl) ?_ (fun hH0 => ?_)
                · exact HSW.out _ (below_drew (Below.refl _ _))
                refine tk 0 (oi := o8_15_0) (v := ?_) rfl (by kernel_rfl) (fun _ _ _ h => h) (by rfl) ?_ hH0 ?_
                rotate_left
                · (intro w hSw; (try dsimp only at hSw); unfold o8_15_0; go_simp <;> (with_reducible rfl))
                simp only [Act.put, o8_15_0, List.setIfInBounds_toArray, List.set_cons_zero, List.set_cons_succ]
                refine tk 1 (oi := o8_15_1) (v := ?_) rfl (by kernel_rfl) (fun _ _ _ h => h) (by rfl) ?_ hH0 ?_
                rotate_left
                · (intro w hSw; (try dsimp only at hSw); unfold o8_15_1; go_simp <;> (with_reducible rfl))
                simp only [Act.put, o8_15_1, List.setIfInBounds_toArray, List.set_cons_zero, List.set_cons_succ]
                refine tk 2 (oi := o8_15_2) (v := ?_) rfl (by kernel_rfl) (fun _ _ _ h => h) (by rfl) ?_ hH0 ?_
                rotate_left
                · (intro w hSw; (try dsimp only at hSw); unfold o8_15_2; go_simp <;> (with_reducible rfl))
                simp only [Act.put, o8_15_2, List.setIfInBounds_toArray, List.set_cons_zero, List.set_cons_succ]
                refine tk 3 (oi := o8_15_3) (v := ?_) rfl (by kernel_rfl) (fun _ _ _ h => h) (by rfl) ?_ hH0 ?_
                rotate_left
                · (intro w hSw; (try dsimp only at hSw); unfold o8_15_3; go_simp <;> (with_reducible rfl))
                simp only [Act.put, o8_15_3, List.setIfInBounds_toArray, List.set_cons_zero, List.set_cons_succ]
                refine tk 4 (oi := o8_15_4) (v := ?_) rfl (by kernel_rfl) (fun _ _ _ h => h) (by rfl) ?_ hH0 ?_
                rotate_left
                · (intro w hSw; (try dsimp only at hSw); unfold o8_15_4; go_simp <;> (with_reducible rfl))
                simp only [Act.put, o8_15_4, List.setIfInBounds_toArray, List.set_cons_zero, List.set_cons_succ]
                refine tk 5 (oi := o8_15_5) (v := ?_) rfl (by kernel_rfl) (fun _ _ _ h => h) (by rfl) ?_ hH0 ?_
                rotate_left
                · (intro w hSw; (try dsimp only at hSw); unfold o8_15_5; go_simp <;> (with_reducible rfl))
                simp only [Act.put, o8_15_5, List.setIfInBounds_toArray, List.set_cons_zero, List.set_cons_succ]
                refine tk 6 (oi := o8_15_6) (v := ?_) rfl (by kernel_rfl) (fun _ _ _ h => h) (by rfl) ?_ hH0 ?_
                rotate_left
                · (intro w hSw; (try dsimp only at hSw); unfold o8_15_6; go_simp <;> (with_reducible rfl))
                simp only [Act.put, o8_15_6, List.setIfInBounds_toArray, List.set_cons_zero, List.set_cons_succ]
                refine tk 7 (oi := o8_15_7) (v := ?_) rfl (by kernel_rfl) (fun _ _ _ h => h) (by rfl) ?_ hH0 ?_
                rotate_left
                · (intro w hSw; (try dsimp only at hSw); unfold o8_15_7; go_simp <;> (with_reducible rfl))
                simp only [Act.put, o8_15_7, List.setIfInBounds_toArray, List.set_cons_zero, List.set_cons_succ]
                refine tk 8 (oi := o8_15_8) (v := ?_) rfl (by kernel_rfl) (fun _ _ _ h => h) (by rfl) ?_ hH0 ?_
                rotate_left
                · (intro w hSw; (try dsimp only at hSw); unfold o8_15_8; go_simp <;> (with_reducible rfl))
                simp only [Act.put, o8_15_8, List.setIfInBounds_toArray, List.set_cons_zero, List.set_cons_succ]
                refine tk 9 (oi := o8_15_9) (v := ?_) rfl (by kernel_rfl) (fun _ _ _ h => h) (by rfl) ?_ hH0 ?_
                rotate_left
                · (intro w hSw; (try dsimp only at hSw); unfold o8_15_9; go_simp <;> (with_reducible rfl))
                simp only [Act.put, o8_15_9, List.setIfInBounds_toArray, List.set_cons_zero, List.set_cons_succ]
                refine tk 10 (oi := o8_15_10) (v := ?_) rfl (by kernel_rfl) (fun _ _ _ h => h) (by rfl) ?_ hH0 ?_
                rotate_left
                · (intro w hSw; (try dsimp only at hSw); unfold o8_15_10; go_simp <;> (with_reducible rfl))
                simp only [Act.put, o8_15_10, List.setIfInBounds_toArray, List.set_cons_zero, List.set_cons_succ]
                refine tk 11 (oi := o8_15_11) (v := ?_) rfl (by kernel_rfl) (fun _ _ _ h => h) (by rfl) ?_ hH0 ?_
                rotate_left
                · (intro w hSw; (try dsimp only at hSw); unfold o8_15_11; go_simp <;> (with_reducible rfl))
                simp only [Act.put, o8_15_11, List.setIfInBounds_toArray, List.set_cons_zero, List.set_cons_succ]
                refine tk 12 (oi := o8_15_12) (v := ?_) rfl (by kernel_rfl) (fun _ _ _ h => h) (by rfl) ?_ hH0 ?_
                rotate_left
                · (intro w hSw; (try dsimp only at hSw); unfold o8_15_12; go_simp <;> (with_reducible rfl))
                simp only [Act.put, o8_15_12, List.setIfInBounds_toArray, List.set_cons_zero, List.set_cons_succ]
                refine tk 13 (oi := o8_15_13) (v := ?_) rfl (by kernel_rfl) (fun _ _ _ h => h) (by rfl) ?_ hH0 ?_
                rotate_left
                · (intro w hSw; (try dsimp only at hSw); unfold o8_15_13; go_simp <;> (with_reducible rfl))
                simp only [Act.put, o8_15_13, List.setIfInBounds_toArray, List.set_cons_zero, List.set_cons_succ]
                refine tk 14 (oi := o8_15_14) (v := ?_) rfl (by kernel_rfl) (fun _ _ _ h => h) (by rfl) ?_ hH0 ?_
                rotate_left
                · (intro w hSw; (try dsimp only at hSw); unfold o8_15_14; go_simp <;> (with_reducible rfl))
                simp only [Act.put, o8_15_14, List.setIfInBounds_toArray, List.set_cons_zero, List.set_cons_succ]
                refine tk 15 (oi := o8_15_15) (v := ?_) rfl (by kernel_rfl) (fun _ _ _ h => h) (by rfl) ?_ hH0 ?_
                rotate_left
                · (intro w hSw; (try dsimp only at hSw); unfold o8_15_15; go_simp <;> (with_reducible rfl))
                simp only [Act.put, o8_15_15, List.setIfInBounds_toArray, List.set_cons_zero, List.set_cons_succ]
                refine tk 16 (oi := o8_15_16) (v := ?_) rfl (by kernel_rfl) (fun _ _ _ h => h) (by rfl) ?_ hH0 ?_
                rotate_left
                · (intro w hSw; (try dsimp only at hSw); unfold o8_15_16; go_simp <;> (with_reducible rfl))
                simp only [Act.put, o8_15_16, List.setIfInBounds_toArray, List.set_cons_zero, List.set_cons_succ]
                refine tk 17 (oi := o8_15_17) (v := ?_) rfl (by kernel_rfl) (fun _ _ _ h => h) (by rfl) ?_ hH0 ?_
                rotate_left
                · (intro w hSw; (try dsimp only at hSw); unfold o8_15_17; go_simp <;> (with_reducible rfl))
                simp only [Act.put, o8_15_17, List.setIfInBounds_toArray, List.set_cons_zero, List.set_cons_succ]
                refine tk 18 (oi := o8_15_18) (v := ?_) rfl (by kernel_rfl) (fun _ _ _ h => h) (by rfl) ?_ hH0 ?_
                rotate_left
                · (intro w hSw; (try dsimp only at hSw); unfold o8_15_18; go_simp <;> (with_reducible rfl))
                simp only [Act.put, o8_15_18, List.setIfInBounds_toArray, List.set_cons_zero, List.set_cons_succ]
                refine tk 19 (oi := o8_15_19) (v := ?_) rfl (by kernel_rfl) (fun _ _ _ h => h) (by rfl) ?_ hH0 ?_
                rotate_left
                · (intro w hSw; (try dsimp only at hSw); unfold o8_15_19; go_simp <;> (with_reducible rfl))
                simp only [Act.put, o8_15_19, List.setIfInBounds_toArray, List.set_cons_zero, List.set_cons_succ]
                refine tk 20 (oi := o8_15_20) (v := ?_) rfl (by kernel_rfl) (fun _ _ _ h => h) (by rfl) ?_ hH0 ?_
                rotate_left
                · (intro w hSw; (try dsimp only at hSw); unfold o8_15_20; go_simp <;> (with_reducible rfl))
                simp only [Act.put, o8_15_20, List.setIfInBounds_toArray, List.set_cons_zero, List.set_cons_succ]
                refine tk 21 (oi := o8_15_21) (v := ?_) rfl (by kernel_rfl) (fun _ _ _ h => h) (by rfl) ?_ hH0 ?_
                rotate_left
                · (intro w hSw; (try dsimp only at hSw); unfold o8_15_21; go_simp <;> (with_reducible rfl))
                simp only [Act.put, o8_15_21, List.setIfInBounds_toArray, List.set_cons_zero, List.set_cons_succ]
                refine tk 22 (oi := o8_15_22) (v := ?_) rfl (by kernel_rfl) (fun _ _ _ h => h) (by rfl) ?_ hH0 ?_
                rotate_left
                · (intro w hSw; (try dsimp only at hSw); unfold o8_15_22; go_simp <;> (with_reducible rfl))
                simp only [Act.put, o8_15_22, List.setIfInBounds_toArray, List.set_cons_zero, List.set_cons_succ]
                refine tk 23 (oi := o8_15_23) (v := ?_) rfl (by kernel_rfl) (fun _ _ _ h => h) (by rfl) ?_ hH0 ?_
                rotate_left
                · (intro w hSw; (try dsimp only at hSw); unfold o8_15_23; go_simp <;> (with_reducible rfl))
                simp only [Act.put, o8_15_23, List.setIfInBounds_toArray, List.set_cons_zero, List.set_cons_succ]
                refine tk 24 (oi := o8_15_24) (v := ?_) rfl (by kernel_rfl) (fun _ _ _ h => h) (by rfl) ?_ hH0 ?_
                rotate_left
                · (intro w hSw; (try dsimp only at hSw); unfold o8_15_24; go_simp <;> (with_reducible rfl))
                simp only [Act.put, o8_15_24, List.setIfInBounds_toArray, List.set_cons_zero, List.set_cons_succ]
                refine tk 25 (oi := o8_15_25) (v := ?_) rfl (by kernel_rfl) (fun _ _ _ h => h) (by rfl) ?_ hH0 ?_
                rotate_left
                · (intro w hSw; (try dsimp only at hSw); unfold o8_15_25; go_simp <;> (with_reducible rfl))
                simp only [Act.put, o8_15_25, List.setIfInBounds_toArray, List.set_cons_zero, List.set_cons_succ]
                refine wpAnyH_ready (rs := [26]) (by kernel_rfl) (by simp) (AllReadyH.cons (o := o8_15_26) rfl (fun K' hK' => ?_) AllReadyH.nil)
                unfold o8_15_26
                go_simp
                go_at_call 43; (refine (hcon _ (below_drew (Below.refl _ _))).mono ?_); rintro e ww ⟨rfl, hb_⟩; have HX := Aside0.mk (below_step (below_drew (Below.refl _ w9)) hb_); have hk_ := HSW.out _ HX.out; clear hb_
                refine hK'.out _ _ (by exact hk_) (fun hH1 => ?_)
                clear hK' K'
                try simp only [Act.put, List.setIfInBounds_toArray, List.set_cons_zero, List.set_cons_succ]
                refine tk 27 (oi := o8_15_27) (v := ?_) rfl (by kernel_rfl) (fun _ _ _ h => h) (by rfl) ?_ hH1 ?_
                rotate_left
                · (intro w hSw; (try dsimp only at hSw); unfold o8_15_27; go_simp <;> (with_reducible rfl))
                simp only [Act.put, o8_15_27, List.setIfInBounds_toArray, List.set_cons_zero, List.set_cons_succ]
                refine tk 28 (oi := o8_15_28) (v := ?_) rfl (by kernel_rfl) (fun _ _ _ h => h) (by rfl) ?_ hH1 ?_
                rotate_left
                · (intro w hSw; (try dsimp only at hSw); unfold o8_15_28; go_simp <;> (with_reducible rfl))
                simp only [Act.put, o8_15_28, List.setIfInBounds_toArray, List.set_cons_zero, List.set_cons_succ]
                refine wpAnyH_done (by kernel_rfl) ?_ _
                clear HSW
                replace HB := Aside0.mk (below_step HB.out HX.out)
                replace BK := Aside0.mk (blk_below BK.out HX.out)
                replace BG := Aside0.mk (blk_below BG.out HX.out)
                replace LP := Aside0.mk (LP.out.below HX.out)
                have LX := Aside0.mk (show IntsAt _ (.slice Ax x.length cx) x ∧ CI _ Ax x.length x from ⟨LX9.out.below HX.out, (intsAt_ci (LX9.out.below HX.out)).2.2⟩)
                clear HX LX9
                clear BW LW hcon
                generalize ww = wb at *
                obtain ⟨q0, q1, q2, q3, q4⟩ := rosC_cells BK.out
                cases h8d : decide ((8 : Int) < (x.length : Int))
                · have h8 : x.length ≤ 1000000 := by have := of_decide_eq_false h8d; omega
                  have hbare := fun W xv (h : RosAt W (.agg #[.int .i64 r.gates, .int .i64 r.frm, .int .i64 r.til, .slice A r.ahead.length c, .slice T r.turns.length d]) r) (h2 : IntsAt W xv x.reverse) => bareN_calls (v := (.agg #[.int .i64 r.gates, .int .i64 r.frm, .int .i64 r.til, .slice A r.ahead.length c, .slice T r.turns.length d])) (lv := xv) (w := W) (NB.out (by have := of_decide_eq_false h8d; omega)).1 (NB.out (by have := of_decide_eq_false h8d; omega)).2 h h2
                  clear NB
                  go_wp2_with (first | (go_at_call 46; (refine (clone_calls Ax cx x _ LX.out.2 h8).mono ?_); rintro e wd ⟨cv, rfl, ho_, hb_⟩; have HO := Aside0.mk ho_; have HC := Aside0.mk hb_; clear ho_ hb_ q0 q1 q2 q3 q4) | (go_at_call 47; refine (rev_calls HO.out HC.out).mono ?_; clear HO HC; rintro e wb ⟨rfl, hl_, hb_⟩; replace HB := Aside0.mk (below_step HB.out hb_); replace BK := Aside0.mk (blk_below BK.out hb_); (try (replace BG := Aside0.mk (blk_below BG.out hb_))); (try (replace LP := Aside0.mk (LP.out.below hb_))); (try (replace LX := Aside0.mk (LX.out.below hb_))); have LR := Aside0.mk hl_; obtain ⟨q0, q1, q2, q3, q4⟩ := rosC_cells BK.out; clear hl_ hb_) | (go_at_call 30; refine (hbare _ _ (hR.out.below HB.out) LR.out).mono ?_; rintro e wb ⟨A5, c5, rfl, hb_⟩; replace HB := Aside0.mk (below_step HB.out hb_); replace BK := Aside0.mk (blk_below BK.out hb_); (try (replace BG := Aside0.mk (blk_below BG.out hb_))); (try (replace LP := Aside0.mk (LP.out.below hb_))); (try (replace LX := Aside0.mk (LX.out.below hb_))); clear hb_ q0 q1 q2 q3 q4))
                  go_roundw
                  case rel => exact ⟨k + 1, by omega, by go_num, BG, HB, BK, LP⟩
                  case measure => simp [intOf]; omega
                · clear NB
                  go_wp2_with fail
                  go_roundw
                  case rel => exact ⟨k + 1, by omega, by go_num, BG, HB, BK, LP⟩
                  case measure => simp [intOf]; omega
          · have e0 : (whoE r shown == 0) = false := by simpa using he
            clear NW
            have HSW : Aside0 (∀ W, Below w9.heap.size w9 W → (fun w' => w'.cell? ⟨g, 1, none⟩ = some (.int .i64 r.frm) ∧ w'.cell? ⟨g, 2, none⟩ = some (.int .i64 r.til)) W) := ⟨fun W h => by
              obtain ⟨a0, a1, a2, a3, a4⟩ := rosC_cells (blk_below BK.out h)
              exact ⟨a1, a2⟩⟩
            refine wp_region_held_drew (S := (fun w' => w'.cell? ⟨g, 1, none⟩ = some (.int .i64 r.frm) ∧ w'.cell? ⟨g, 2, none⟩ = some (.int .i64 r.til))) (by kernel_rfl) ?_ (fun hH0 => ?_)
            · exact HSW.out _ (below_drew (Below.refl _ _))
            refine tk 0 (oi := o8_15_0) (v := ?_) rfl (by kernel_rfl) (fun _ _ _ h => h) (by rfl) ?_ hH0 ?_
            rotate_left
            · (intro w hSw; (try dsimp only at hSw); unfold o8_15_0; go_simp <;> (with_reducible rfl))
            simp only [Act.put, o8_15_0, List.setIfInBounds_toArray, List.set_cons_zero, List.set_cons_succ]
            refine tk 1 (oi := o8_15_1) (v := ?_) rfl (by kernel_rfl) (fun _ _ _ h => h) (by rfl) ?_ hH0 ?_
            rotate_left
            · (intro w hSw; (try dsimp only at hSw); unfold o8_15_1; go_simp <;> (with_reducible rfl))
            simp only [Act.put, o8_15_1, List.setIfInBounds_toArray, List.set_cons_zero, List.set_cons_succ]
            refine tk 2 (oi := o8_15_2) (v := ?_) rfl (by kernel_rfl) (fun _ _ _ h => h) (by rfl) ?_ hH0 ?_
            rotate_left
            · (intro w hSw; (try dsimp only at hSw); unfold o8_15_2; go_simp <;> (with_reducible rfl))
            simp only [Act.put, o8_15_2, List.setIfInBounds_toArray, List.set_cons_zero, List.set_cons_succ]
            refine tu 3 (oi := o8_15_3) rfl (by kernel_rfl) (fun _ _ _ h => h) (by rfl) hH0 ?_
            simp only [Act.put, o8_15_3, List.setIfInBounds_toArray, List.set_cons_zero, List.set_cons_succ]
            refine tu 4 (oi := o8_15_4) rfl (by kernel_rfl) (fun _ _ _ h => h) (by rfl) hH0 ?_
            simp only [Act.put, o8_15_4, List.setIfInBounds_toArray, List.set_cons_zero, List.set_cons_succ]
            refine tu 5 (oi := o8_15_5) rfl (by kernel_rfl) (fun _ _ _ h => h) (by rfl) hH0 ?_
            simp only [Act.put, o8_15_5, List.setIfInBounds_toArray, List.set_cons_zero, List.set_cons_succ]
            refine tk 6 (oi := o8_15_6) (v := ?_) rfl (by kernel_rfl) (fun _ _ _ h => h) (by rfl) ?_ hH0 ?_
            rotate_left
            · (intro w hSw; (try dsimp only at hSw); unfold o8_15_6; go_simp <;> (with_reducible rfl))
            simp only [Act.put, o8_15_6, List.setIfInBounds_toArray, List.set_cons_zero, List.set_cons_succ]
            refine tk 7 (oi := o8_15_7) (v := ?_) rfl (by kernel_rfl) (fun _ _ _ h => h) (by rfl) ?_ hH0 ?_
            rotate_left
            · (intro w hSw; (try dsimp only at hSw); unfold o8_15_7; go_simp <;> (with_reducible rfl))
            simp only [Act.put, o8_15_7, List.setIfInBounds_toArray, List.set_cons_zero, List.set_cons_succ]
            refine tu 8 (oi := o8_15_8) rfl (by kernel_rfl) (fun _ _ _ h => h) (by rfl) hH0 ?_
            simp only [Act.put, o8_15_8, List.setIfInBounds_toArray, List.set_cons_zero, List.set_cons_succ]
            refine tu 9 (oi := o8_15_9) rfl (by kernel_rfl) (fun _ _ _ h => h) (by rfl) hH0 ?_
            simp only [Act.put, o8_15_9, List.setIfInBounds_toArray, List.set_cons_zero, List.set_cons_succ]
            refine tu 10 (oi := o8_15_10) rfl (by kernel_rfl) (fun _ _ _ h => h) (by rfl) hH0 ?_
            simp only [Act.put, o8_15_10, List.setIfInBounds_toArray, List.set_cons_zero, List.set_cons_succ]
            refine tu 11 (oi := o8_15_11) rfl (by kernel_rfl) (fun _ _ _ h => h) (by rfl) hH0 ?_
            simp only [Act.put, o8_15_11, List.setIfInBounds_toArray, List.set_cons_zero, List.set_cons_succ]
            refine tu 12 (oi := o8_15_12) rfl (by kernel_rfl) (fun _ _ _ h => h) (by rfl) hH0 ?_
            simp only [Act.put, o8_15_12, List.setIfInBounds_toArray, List.set_cons_zero, List.set_cons_succ]
            refine tu 13 (oi := o8_15_13) rfl (by kernel_rfl) (fun _ _ _ h => h) (by rfl) hH0 ?_
            simp only [Act.put, o8_15_13, List.setIfInBounds_toArray, List.set_cons_zero, List.set_cons_succ]
            refine tk 14 (oi := o8_15_14) (v := ?_) rfl (by kernel_rfl) (fun _ _ _ h => h) (by rfl) ?_ hH0 ?_
            rotate_left
            · (intro w hSw; (try dsimp only at hSw); unfold o8_15_14; go_simp <;> (with_reducible rfl))
            simp only [Act.put, o8_15_14, List.setIfInBounds_toArray, List.set_cons_zero, List.set_cons_succ]
            refine tk 15 (oi := o8_15_15) (v := ?_) rfl (by kernel_rfl) (fun _ _ _ h => h) (by rfl) ?_ hH0 ?_
            rotate_left
            · (intro w hSw; (try dsimp only at hSw); unfold o8_15_15; go_simp <;> (with_reducible rfl))
            simp only [Act.put, o8_15_15, List.setIfInBounds_toArray, List.set_cons_zero, List.set_cons_succ]
            refine tu 16 (oi := o8_15_16) rfl (by kernel_rfl) (fun _ _ _ h => h) (by rfl) hH0 ?_
            simp only [Act.put, o8_15_16, List.setIfInBounds_toArray, List.set_cons_zero, List.set_cons_succ]
            refine tu 17 (oi := o8_15_17) rfl (by kernel_rfl) (fun _ _ _ h => h) (by rfl) hH0 ?_
            simp only [Act.put, o8_15_17, List.setIfInBounds_toArray, List.set_cons_zero, List.set_cons_succ]
            refine tu 18 (oi := o8_15_18) rfl (by kernel_rfl) (fun _ _ _ h => h) (by rfl) hH0 ?_
            simp only [Act.put, o8_15_18, List.setIfInBounds_toArray, List.set_cons_zero, List.set_cons_succ]
            refine tu 19 (oi := o8_15_19) rfl (by kernel_rfl) (fun _ _ _ h => h) (by rfl) hH0 ?_
            simp only [Act.put, o8_15_19, List.setIfInBounds_toArray, List.set_cons_zero, List.set_cons_succ]
            refine tu 20 (oi := o8_15_20) rfl (by kernel_rfl) (fun _ _ _ h => h) (by rfl) hH0 ?_
            simp only [Act.put, o8_15_20, List.setIfInBounds_toArray, List.set_cons_zero, List.set_cons_succ]
            refine tu 21 (oi := o8_15_21) rfl (by kernel_rfl) (fun _ _ _ h => h) (by rfl) hH0 ?_
            simp only [Act.put, o8_15_21, List.setIfInBounds_toArray, List.set_cons_zero, List.set_cons_succ]
            refine tk 22 (oi := o8_15_22) (v := ?_) rfl (by kernel_rfl) (fun _ _ _ h => h) (by rfl) ?_ hH0 ?_
            rotate_left
            · (intro w hSw; (try dsimp only at hSw); unfold o8_15_22; go_simp <;> (with_reducible rfl))
            simp only [Act.put, o8_15_22, List.setIfInBounds_toArray, List.set_cons_zero, List.set_cons_succ]
            refine tk 23 (oi := o8_15_23) (v := ?_) rfl (by kernel_rfl) (fun _ _ _ h => h) (by rfl) ?_ hH0 ?_
            rotate_left
            · (intro w hSw; (try dsimp only at hSw); unfold o8_15_23; go_simp <;> (with_reducible rfl))
            simp only [Act.put, o8_15_23, List.setIfInBounds_toArray, List.set_cons_zero, List.set_cons_succ]
            refine tu 24 (oi := o8_15_24) rfl (by kernel_rfl) (fun _ _ _ h => h) (by rfl) hH0 ?_
            simp only [Act.put, o8_15_24, List.setIfInBounds_toArray, List.set_cons_zero, List.set_cons_succ]
            refine tu 25 (oi := o8_15_25) rfl (by kernel_rfl) (fun _ _ _ h => h) (by rfl) hH0 ?_
            simp only [Act.put, o8_15_25, List.setIfInBounds_toArray, List.set_cons_zero, List.set_cons_succ]
            refine tu 26 (oi := o8_15_26) rfl (by kernel_rfl) (fun _ _ _ h => h) (by rfl) hH0 ?_
            simp only [Act.put, o8_15_26, List.setIfInBounds_toArray, List.set_cons_zero, List.set_cons_succ]
            refine tu 27 (oi := o8_15_27) rfl (by kernel_rfl) (fun _ _ _ h => h) (by rfl) hH0 ?_
            simp only [Act.put, o8_15_27, List.setIfInBounds_toArray, List.set_cons_zero, List.set_cons_succ]
            refine tk 28 (oi := o8_15_28) (v := ?_) rfl (by kernel_rfl) (fun _ _ _ h => h) (by rfl) ?_ hH0 ?_
            rotate_left
            · (intro w hSw; (try dsimp only at hSw); unfold o8_15_28; go_simp <;> (with_reducible rfl))
            simp only [Act.put, o8_15_28, List.setIfInBounds_toArray, List.set_cons_zero, List.set_cons_succ]
            refine wpAnyH_done (by kernel_rfl) ?_ _
            have HX : Aside0 (Below w9.heap.size w9 w9.drew) := ⟨below_drew (Below.refl _ _)⟩
            clear HSW
            replace HB := Aside0.mk (below_step HB.out HX.out)
            replace BK := Aside0.mk (blk_below BK.out HX.out)
            replace BG := Aside0.mk (blk_below BG.out HX.out)
            replace LP := Aside0.mk (LP.out.below HX.out)
            have LX := Aside0.mk (show IntsAt _ (.slice Ax x.length cx) x ∧ CI _ Ax x.length x from ⟨LX9.out.below HX.out, (intsAt_ci (LX9.out.below HX.out)).2.2⟩)
            clear HX LX9
            clear BW LW
            generalize w9.drew = wb at *
            obtain ⟨q0, q1, q2, q3, q4⟩ := rosC_cells BK.out
            cases h8d : decide ((8 : Int) < (x.length : Int))
            · have h8 : x.length ≤ 1000000 := by have := of_decide_eq_false h8d; omega
              have hbare := fun W xv (h : RosAt W (.agg #[.int .i64 r.gates, .int .i64 r.frm, .int .i64 r.til, .slice A r.ahead.length c, .slice T r.turns.length d]) r) (h2 : IntsAt W xv x.reverse) => bareN_calls (v := (.agg #[.int .i64 r.gates, .int .i64 r.frm, .int .i64 r.til, .slice A r.ahead.length c, .slice T r.turns.length d])) (lv := xv) (w := W) (NB.out (by have := of_decide_eq_false h8d; omega)).1 (NB.out (by have := of_decide_eq_false h8d; omega)).2 h h2
              clear NB
              go_wp2_with (first | (go_at_call 46; (refine (clone_calls Ax cx x _ LX.out.2 h8).mono ?_); rintro e wd ⟨cv, rfl, ho_, hb_⟩; have HO := Aside0.mk ho_; have HC := Aside0.mk hb_; clear ho_ hb_ q0 q1 q2 q3 q4) | (go_at_call 47; refine (rev_calls HO.out HC.out).mono ?_; clear HO HC; rintro e wb ⟨rfl, hl_, hb_⟩; replace HB := Aside0.mk (below_step HB.out hb_); replace BK := Aside0.mk (blk_below BK.out hb_); (try (replace BG := Aside0.mk (blk_below BG.out hb_))); (try (replace LP := Aside0.mk (LP.out.below hb_))); (try (replace LX := Aside0.mk (LX.out.below hb_))); have LR := Aside0.mk hl_; obtain ⟨q0, q1, q2, q3, q4⟩ := rosC_cells BK.out; clear hl_ hb_) | (go_at_call 30; refine (hbare _ _ (hR.out.below HB.out) LR.out).mono ?_; rintro e wb ⟨A5, c5, rfl, hb_⟩; replace HB := Aside0.mk (below_step HB.out hb_); replace BK := Aside0.mk (blk_below BK.out hb_); (try (replace BG := Aside0.mk (blk_below BG.out hb_))); (try (replace LP := Aside0.mk (LP.out.below hb_))); (try (replace LX := Aside0.mk (LX.out.below hb_))); clear hb_ q0 q1 q2 q3 q4))
              go_roundw
              case rel => exact ⟨k + 1, by omega, by go_num, BG, HB, BK, LP⟩
              case measure => simp [intOf]; omega
            · clear NB
              go_wp2_with fail
              go_roundw
              case rel => exact ⟨k + 1, by omega, by go_num, BG, HB, BK, LP⟩
              case measure => simp [intOf]; omega
        · have hy' : (checkPlanE r gate x != 0) = true := by simpa using hy
          have C : ((x.length : Int) == (P.length : Int)) = false ∨ (((x.length : Int) == (P.length : Int)) = true ∧ is_ = false) ∨ (((x.length : Int) == (P.length : Int)) = true ∧ is_ = true ∧ decide (x = P) = false) := by
            cases h1 : ((x.length : Int) == (P.length : Int))
            · exact .inl rfl
            · cases h2 : is_
              · exact .inr (.inl ⟨rfl, rfl⟩)
              · exact .inr (.inr ⟨rfl, rfl, decide_eq_false (fun e => NX.own hy ⟨HIS.out.1 h2, e.trans HP.out⟩)⟩)
          clear NX hy
          generalize checkPlanE r gate x = y at *
          rcases C with h1 | ⟨h1, h2⟩ | ⟨h1, h2, h3⟩
          · clear heq
            go_wp2_with (first | (go_at_call 36; (with_reducible refine (hcx _ _ (hR.out.below HB.out) LX.out).mono ?_); rintro e wb ⟨rfl, hb_⟩; replace HB := Aside0.mk (below_step HB.out hb_); replace BK := Aside0.mk (blk_below BK.out hb_); (try (replace BG := Aside0.mk (blk_below BG.out hb_))); (try (replace BW := Aside0.mk (blk_below BW.out hb_))); (try (replace LP := Aside0.mk (LP.out.below hb_))); (try (replace LX := Aside0.mk (LX.out.below hb_))); (try (replace LR := Aside0.mk (LR.out.below hb_))); clear q0 q1 q2 q3 q4; obtain ⟨q0, q1, q2, q3, q4⟩ := rosC_cells BK.out; clear hb_) | (go_at_call 25; refine (heq LX.out LP.out).mono ?_; rintro e wb ⟨rfl, hb_⟩; replace HB := Aside0.mk (below_step HB.out hb_); replace BK := Aside0.mk (blk_below BK.out hb_); (try (replace BG := Aside0.mk (blk_below BG.out hb_))); (try (replace BW := Aside0.mk (blk_below BW.out hb_))); (try (replace LP := Aside0.mk (LP.out.below hb_))); (try (replace LX := Aside0.mk (LX.out.below hb_))); (try (replace LR := Aside0.mk (LR.out.below hb_))); clear q0 q1 q2 q3 q4; obtain ⟨q0, q1, q2, q3, q4⟩ := rosC_cells BK.out; clear hb_))
            go_roundw
            case rel => exact ⟨k + 1, by omega, by go_num, BG, HB, BK, LP⟩
            case measure => simp [intOf]; omega
          · subst h2
            clear heq
            go_wp2_with (first | (go_at_call 36; (with_reducible refine (hcx _ _ (hR.out.below HB.out) LX.out).mono ?_); rintro e wb ⟨rfl, hb_⟩; replace HB := Aside0.mk (below_step HB.out hb_); replace BK := Aside0.mk (blk_below BK.out hb_); (try (replace BG := Aside0.mk (blk_below BG.out hb_))); (try (replace BW := Aside0.mk (blk_below BW.out hb_))); (try (replace LP := Aside0.mk (LP.out.below hb_))); (try (replace LX := Aside0.mk (LX.out.below hb_))); (try (replace LR := Aside0.mk (LR.out.below hb_))); clear q0 q1 q2 q3 q4; obtain ⟨q0, q1, q2, q3, q4⟩ := rosC_cells BK.out; clear hb_) | (go_at_call 25; refine (heq LX.out LP.out).mono ?_; rintro e wb ⟨rfl, hb_⟩; replace HB := Aside0.mk (below_step HB.out hb_); replace BK := Aside0.mk (blk_below BK.out hb_); (try (replace BG := Aside0.mk (blk_below BG.out hb_))); (try (replace BW := Aside0.mk (blk_below BW.out hb_))); (try (replace LP := Aside0.mk (LP.out.below hb_))); (try (replace LX := Aside0.mk (LX.out.below hb_))); (try (replace LR := Aside0.mk (LR.out.below hb_))); clear q0 q1 q2 q3 q4; obtain ⟨q0, q1, q2, q3, q4⟩ := rosC_cells BK.out; clear hb_))
            go_roundw
            case rel => exact ⟨k + 1, by omega, by go_num, BG, HB, BK, LP⟩
            case measure => simp [intOf]; omega
          · simp only [h3] at heq
            subst h2
            go_wp2_with (first | (go_at_call 36; (with_reducible refine (hcx _ _ (hR.out.below HB.out) LX.out).mono ?_); rintro e wb ⟨rfl, hb_⟩; replace HB := Aside0.mk (below_step HB.out hb_); replace BK := Aside0.mk (blk_below BK.out hb_); (try (replace BG := Aside0.mk (blk_below BG.out hb_))); (try (replace BW := Aside0.mk (blk_below BW.out hb_))); (try (replace LP := Aside0.mk (LP.out.below hb_))); (try (replace LX := Aside0.mk (LX.out.below hb_))); (try (replace LR := Aside0.mk (LR.out.below hb_))); clear q0 q1 q2 q3 q4; obtain ⟨q0, q1, q2, q3, q4⟩ := rosC_cells BK.out; clear hb_) | (go_at_call 25; refine (heq LX.out LP.out).mono ?_; rintro e wb ⟨rfl, hb_⟩; replace HB := Aside0.mk (below_step HB.out hb_); replace BK := Aside0.mk (blk_below BK.out hb_); (try (replace BG := Aside0.mk (blk_below BG.out hb_))); (try (replace BW := Aside0.mk (blk_below BW.out hb_))); (try (replace LP := Aside0.mk (LP.out.below hb_))); (try (replace LX := Aside0.mk (LX.out.below hb_))); (try (replace LR := Aside0.mk (LR.out.below hb_))); clear q0 q1 q2 q3 q4; obtain ⟨q0, q1, q2, q3, q4⟩ := rosC_cells BK.out; clear hb_))
            go_roundw
            case rel => exact ⟨k + 1, by omega, by go_num, BG, HB, BK, LP⟩
            case measure => simp [intOf]; omega
      · obtain rfl : k = 2 := by omega
        go_wp2_with fail
        go_ret
        exact ⟨rfl, HB.out⟩
  · skip
    go_enter Tryz.func8, Tryz.ntmps8
    go_wp2_with (first | ((with_reducible refine gate_dst (N := 4) rfl ?_); refine box_event ?hg (N := 4) ?hd (cs := (rosC r A c T d)) (t := 25) ?hr ?_; (case hd => rfl); (case hg => rfl); (case hr => first | (go_simp; done) | (go_simp; rfl)); intro g hg_ wb hbox_ hb_; have BK := Aside0.mk hbox_; have HB := Aside0.mk hb_; obtain ⟨q0, q1, q2, q3, q4⟩ := rosC_cells BK.out; clear hbox_ hb_ hg_) | (go_at_call 17; refine (sane_calls _ (HT.out.below HB.out)).mono ?_; rintro e wb ⟨rfl, hb_⟩; replace HB := Aside0.mk (below_step HB.out hb_); replace BK := Aside0.mk (blk_below BK.out hb_); clear q0 q1 q2 q3 q4; obtain ⟨q0, q1, q2, q3, q4⟩ := rosC_cells BK.out; clear hb_) | (go_at_call 34; (with_reducible refine (hval _ (hR.out.below HB.out)).mono ?_); rintro e wb ⟨rfl, hb_⟩; replace HB := Aside0.mk (below_step HB.out hb_); replace BK := Aside0.mk (blk_below BK.out hb_); clear q0 q1 q2 q3 q4; obtain ⟨q0, q1, q2, q3, q4⟩ := rosC_cells BK.out; clear hb_) | (go_at_call 18; (with_reducible refine (hfew _ (hR.out.below HB.out) (HL.out.below HB.out) (HS.out.below HB.out)).mono ?_); rintro e wb ⟨rfl, hb_⟩; replace hb_ := below_al hb_; replace HB := Aside0.mk (below_step HB.out hb_); replace BK := Aside0.mk (blk_below BK.out hb_); clear q0 q1 q2 q3 q4; obtain ⟨q0, q1, q2, q3, q4⟩ := rosC_cells BK.out; clear hb_))
    all_goals first
      | (go_ret; exact ⟨rfl, HB.out⟩)
      | (exfalso; exact hg ⟨by assumption, by assumption, by omega, by omega⟩)
end Go.Proofs.YtflolfbkpjgjaaaGreatDoor
end
section
namespace Go.Proofs.YtflolfbkpjgjaaaGreatDoor
open Go.RowKit Go.Proofs.YtflolfbkpjgjaaaGreatDoorW.PrintWords
namespace watchNever
open Go.ChangeShapes Go.WideShapes Go.ChangeAt
theorem own : ownKnob Tryz.prog.godebug = none := by kernel_rfl
theorem laidOut : laidOutB Tryz.prog = true := by kernel_rfl
set_option maxRecDepth 100000 in
theorem contract (H : Type) (enc : TypeId × Value → H) (W : World) (base : Nat) (args : Array Value) (ds gs : List (DataW H)) (before : List MemPlace)
    (hval : ∀ (j : Nat) t v, Tryz.f8.params[j]? = some t → args[j]? = some v → Value.okWide Tryz.prog W .any base t v)
    (hW : DataW.Whole enc Tryz.prog Tryz.f8.params.toList Rows.watchNeverSpec.vars false W args.toList ds gs before) (hL : laidMetH Tryz.prog Rows.watchNeverRow.laid W) :
    Calls Tryz.prog 8 args W fun e W' => ∃ v, e = .returned v ∧ Rows.watchNeverSpec.post enc Tryz.prog Tryz.f8 false true false false W args v W' := by
  have hW' := hW
  obtain ⟨p, q, hA0, hV, rfl, hfz, hnd⟩ := hW
  have hA : DataW.TrodAll enc Tryz.prog W 0 (fun _ => true) true Tryz.f8.params.toList args.toList ds p := hA0
  rw [Tryz.params8] at hA hval
  obtain ⟨v0, vs0, d0, ds0, p0, q0, hargs, rfl, rfl, h0, r0_⟩ := trodAll_cons hA
  obtain ⟨v1, vs1, d1, ds1, p1, q1, rfl, rfl, rfl, h1, r1_⟩ := trodAll_cons r0_
  obtain ⟨v2, vs2, d2, ds2, p2, q2, rfl, rfl, rfl, h2, r2_⟩ := trodAll_cons r1_
  obtain ⟨v3, vs3, d3, ds3, p3, q3, rfl, rfl, rfl, h3, r3_⟩ := trodAll_cons r2_
  obtain ⟨rfl, rfl, rfl⟩ := trodAll_nil r3_
  obtain rfl : args = #[v0, v1, v2, v3] := by cases args; simp_all
  obtain ⟨rfl, rfl⟩ := trodVars_none hV
  have k0 := h0
  have lt0 : ∀ x ∈ p0, x.block < W.heap.size := by obtain ⟨m, hm⟩ := k0; exact DataW.trod_lt m _ _ _ hm
  obtain ⟨r0, hr0⟩ := open_ros (hval 0 25 v0 rfl rfl) h0
  obtain ⟨a1, rfl, rfl, rfl, w1⟩ := open_int Tryz.underlying3 (hval 1 3 v1 rfl rfl) h1
  have k2 := h2
  have lt2 : ∀ x ∈ p2, x.block < W.heap.size := by obtain ⟨m, hm⟩ := k2; exact DataW.trod_lt m _ _ _ hm
  obtain ⟨l2, hr2⟩ := open_intsAt (hval 2 26 v2 rfl rfl) h2
  have k3 := h3
  have lt3 : ∀ x ∈ p3, x.block < W.heap.size := by obtain ⟨m, hm⟩ := k3; exact DataW.trod_lt m _ _ _ hm
  obtain ⟨l3, hr3⟩ := open_intsAt (hval 3 26 v3 rfl rfl) h3
  clear hA0
  have hT : TabP W := laid_tab hL
  refine (never8_calls v0 v2 v3 r0 a1 l2 l3 W hT hr0 hr2 hr3).mono fun e W' ⟨he, bel⟩ => ?_
  subst he
  exact ⟨_, rfl, _, _, _, [], _, [], hW', trodAll_mk1 (shut_bool Tryz.underlying4 _), (trodAll_cons_mk (Below.trod laidOut (by kernel_rfl) (of_decide_eq_true (by kernel_rfl)) k0 bel lt0) (trodAll_cons_mk (shut_int Tryz.underlying3 w1) (trodAll_cons_mk (Below.trod laidOut (by kernel_rfl) (of_decide_eq_true (by kernel_rfl)) k2 bel lt2) (trodAll_cons_mk (Below.trod laidOut (by kernel_rfl) (of_decide_eq_true (by kernel_rfl)) k3 bel lt3) trodAll_mk0)))), rfl, bel.frame _, fun h => by cases h⟩
noncomputable def laidWorld (os : Os) : World :=
  { World.holding Tryz.prog os ⟨#[], #[], []⟩ with heap := (((World.holding Tryz.prog os ⟨#[], #[], []⟩).heap.modify 6 (layC tab32)).modify 7 (layC tab64)).modify 2 (layC tab10) }
theorem laid_met (os : Os) : laidMet Tryz.prog Rows.watchNeverRow.laid ((laidWorld os).forCall (fun _ _ => 0) ⟨#[], #[.agg #[.int .i64 0, .int .i64 0, .int .i64 0, .slice none 0 0, .slice none 0 0], .int .i64 0, .slice none 0 0, .slice none 0 0], []⟩).memory :=
  laidMet_of_run3 8 (by kernel_rfl) (by kernel_rfl) (by kernel_rfl)
theorem reads (os : Os) {H : Type} (enc : TypeId × Value → H) : ∃ places, DataW.whole enc Tryz.prog ((laidWorld os).forCall (fun _ _ => 0) ⟨#[], #[.agg #[.int .i64 0, .int .i64 0, .int .i64 0, .slice none 0 0, .slice none 0 0], .int .i64 0, .slice none 0 0, .slice none 0 0], []⟩).memory Tryz.f8.params.toList Rows.watchNeverSpec.vars false #[Value.agg #[.int .i64 0, .int .i64 0, .int .i64 0, .slice none 0 0, .slice none 0 0], .int .i64 0, .slice none 0 0, .slice none 0 0].toList 8 = some ([.agg [.lit (.int .i64 0), .lit (.int .i64 0), .lit (.int .i64 0), .nil, .nil], .lit (.int .i64 0), .nil, .nil], [], places) :=
  ⟨[], by kernel_rfl⟩
set_option maxRecDepth 100000 in
theorem lifted (os : Os) (started : os.Started) (H : Type) (enc : TypeId × Value → H) (F : Stop.Interp) :
    ReturnsInHanded {} Tryz.checked os 8 .any ((OpenSpec.ofChange Rows.watchNeverSpec).preRow enc Tryz.prog Tryz.f8 Rows.watchNeverRow.domain false Rows.watchNeverRow.laid) (((OpenSpec.ofChange Rows.watchNeverSpec).at F).post enc Tryz.prog Tryz.f8 false true false false) := by
  obtain ⟨places, hx⟩ := reads os enc
  refine returnsInHanded_of_row (C := Tryz.checked) (s := OpenSpec.ofChange Rows.watchNeverSpec) own started (by kernel_rfl) Tryz.func8
    (witness_row_at (enc := enc) (C := Tryz.checked) false (laidWorld os) #[.agg #[.int .i64 0, .int .i64 0, .int .i64 0, .slice none 0 0, .slice none 0 0], .int .i64 0, .slice none 0 0, .slice none 0 0] rfl (by kernel_rfl) (by kernel_rfl) (by kernel_rfl)
      (OpenSpec.preRow_of_cond 8 hx (by kernel_rfl) (fun k hk => by cases hk) (by kernel_rfl) (laid_met os))) ?_
  intro W base args ds gs before hval hW _ _ _ hL _ _
  exact contract H enc W base args ds gs before hval hW hL
theorem named : Tryz.pinned.checked.prog.funcNamed Rows.watchNeverRow.func = some 8 := by kernel_rfl
set_option maxHeartbeats 8000000 in
theorem closed : joinedFacts Tryz.pinned.checked.prog 8 Tryz.f8 (OpenSpec.ofChange Rows.watchNeverSpec).bare Rows.watchNeverRow = true := by
  unfold joinedFacts
  repeat' (with_reducible refine band ?_ ?_)
  all_goals (as_aux_lemma => kernel_rfl)
theorem inst : Tryz.f8.isInstance Tryz.pinned.checked.prog Rows.watchNeverRow.origin Rows.watchNeverRow.targs := of_decide_eq_true (by kernel_rfl)
theorem said : Rows.WatchNeverSaid :=
  OpenClaim.holds_of_cond 8 Tryz.f8 rfl rfl rfl rfl rfl rfl rfl ⟨rfl, rfl, rfl, rfl, rfl⟩ rfl rfl rfl rfl rfl named Tryz.func8 closed
    inst (by unfold Func.isWrapper; first | (rw [if_pos (by decide +kernel)]; kernel_rfl) | (rw [if_neg (by decide +kernel)]; exact ⟨rfl, rfl⟩))
    (fun os started H enc _ F => by rw [OpenClaim.pre_eq_preRow]; exact lifted os started H enc F)
theorem plain (f : FuncId) (fn : Func) (hf : Tryz.pinned.checked.prog.funcNamed "waterhour/waterhourlaw07.WatchNever" = some f) (hfn : Tryz.pinned.checked.prog.funcs[f]? = some fn) :
    true = Tryz.pinned.checked.prog.looks [] ∧ ∀ (j : Nat) t, fn.params[j]? = some t → Tryz.pinned.checked.prog.wantsStandIn t = false := by
  obtain rfl : f = 8 := Option.some.inj ((show Tryz.prog.funcNamed "waterhour/waterhourlaw07.WatchNever" = some 8 by kernel_rfl).symm.trans hf) |>.symm
  obtain rfl : fn = Tryz.f8 := (Option.some.inj (Tryz.func8.symm.trans hfn)).symm
  refine ⟨by kernel_rfl, fun j t ht => ?_⟩
  rw [Tryz.params8] at ht
  have hm := Array.mem_of_getElem? ht
  have hm2 : t ∈ ([25, 3, 26, 26] : List Nat) := by simpa using hm
  have hall : ([25, 3, 26, 26] : List Nat).all (fun t => Tryz.prog.wantsStandIn t == false) = true := by kernel_rfl
  rw [List.all_eq_true] at hall
  exact beq_iff_eq.1 (hall t hm2)
end watchNever
theorem watchNever_card : Rows.WatchNeverCardSaid :=
  Claim7.holds_tied_plain_at .later [] _ _ _ _ watchNever.said (fun _ h => by cases h) (by kernel_rfl) (fun _ h => by cases h) watchNever_row_tie rfl ⟨rfl, rfl⟩ (by kernel_rfl) rfl watchNever.plain (by kernel_rfl)
end Go.Proofs.YtflolfbkpjgjaaaGreatDoor
end
