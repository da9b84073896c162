/- What the proofs lean on, part 1: contracts of the functions that all the laws reach, and the plain words for them. -/
import Derived.Below
import Derived.Deep.Draws
import Derived.Deep.AppendLies
import Derived.Maps.AppendAt
import Derived.OwnWalk
import Derived.Laws.BytesArg
import Derived.Laws.MakeOwn
import Derived.Laws.OwnMore
import Derived.Deep.OwnRows
import Derived.Tactics
import Derived.Lib.ConvBytes
import Derived.Laws.Slices
import Derived.WalkKit
import Derived.KernelRfl
import Derived.RowKit3
import Derived.Deep.LoopGhost
import Derived.Deep.QuietTactic
import Derived.BigQuiet
import Derived.WideLaws
import Derived.Deep.DeepCutAuto
import Derived.Deep.CutBlock
import Derived.Deep.RegionHeld3
import Derived.Laws.Rows
import Derived.Lib.AppendStr
import Derived.ArgAppend
import Derived.Laws.IdiomCopy
import Derived.RowKit
import Derived.Test.YtflolfbkpjgjaaaGreatDoorProg
import Derived.Laws.StructEq
import Derived.OrdersHeld
import Derived.Laws.BitsLemmas
import Derived.WalkLawsBesides
import Derived.Laws.CopyOwn
import Derived.StillTailTactics
import Derived.Outline
import Derived.Lib.Hide
import Derived.BigRegion
import Derived.Deep.MidRow
set_option linter.unusedVariables false
set_option linter.unusedSimpArgs false
section
namespace Go.Proofs.YtflolfbkpjgjaaaGreatDoorW.PrintWords
open Go.RowKit
structure Aside0 (p : Prop) : Prop where mk :: (out : p)
structure Drawn0 (w w' : World) : Prop where mk :: (out : ∃ n, w' = w.drewN n)
theorem Drawn0.refl (w : World) : Drawn0 w w := ⟨⟨0, rfl⟩⟩
theorem Drawn0.step {w w' : World} (h : Drawn0 w w') (n : Nat) : Drawn0 w (w'.drewN n) := by
  obtain ⟨m, rfl⟩ := h
  exact ⟨⟨m + n, World.drewN_drewN ..⟩⟩
theorem Drawn0.grown {w w' : World} (h : Drawn0 w w') : Grown w w' := by
  obtain ⟨n, rfl⟩ := h
  induction n with
  | zero => exact Grown.refl _
  | succ n ih => rw [← World.drew_drewN]; exact Grown.drew ih
theorem Drawn0.below {w w' : World} (h : Drawn0 w w') : Below w.heap.size w w' := by
  obtain ⟨n, rfl⟩ := h
  induction n with
  | zero => exact Below.refl _ _
  | succ n ih => rw [← World.drew_drewN]; exact ih.drew
def rd (xs : List Int) (i : Int) : Int := xs.getD i.toNat 0
def nums (k : IntKind) (xs : List Int) : List Value := xs.map fun x => .int k x
theorem nums_length (k : IntKind) (xs : List Int) : (nums k xs).length = xs.length := by simp [nums]
theorem below_alloc {w W : World} (h : Below w.heap.size w W) (o : Obj) : Below w.heap.size w (W.alloc o) := h.alloc h.size o
theorem below_drew {B : Nat} {w W : World} (h : Below B w W) : Below B w W.drew := ⟨h.os, h.tape, h.output, h.size, h.block⟩
theorem pw_below_drewN {B : Nat} {w W : World} (h : Below B w W) (n : Nat) : Below B w (W.drewN n) := ⟨h.os, h.tape, h.output, h.size, h.block⟩
theorem below_then {B : Nat} {w w1 w2 : World} (h : Below B w w1) (hB : B ≤ w1.heap.size) (k : Below w1.heap.size w1 w2) : Below B w w2 :=
  h.trans ⟨k.os, k.tape, k.output, k.size, fun i hi => k.block i (Nat.lt_of_lt_of_le hi hB)⟩
theorem grown_of_below {w w1 : World} (h : Below w.heap.size w w1) (row : Option Nat) : w.grownBy w1 row := ⟨h.os, h.tape, h.output, h.size, fun i hi _ => h.block i hi⟩
theorem pw_cell_below {w w1 : World} (h : Below w.heap.size w w1) {a : Addr} {v : Value} (hc : w.cell? a = some v) : w1.cell? a = some v := (h.cell (World.block_lt_of_cell? w a hc)).trans hc
theorem add_plain (g j : Nat) : (⟨g, 0, none⟩ : Addr).add j = ⟨g, j, none⟩ := by unfold Addr.add; split <;> simp_all
def ReadsInt (w : World) (k : IntKind) (A : Option Addr) (n : Nat) (xs : List Int) : Prop :=
  xs.length = n ∧ n ≤ 9223372036854775807 ∧ (0 < n → ∃ ad, A = some ad ∧ ∀ j, j < n → w.cell? (ad.add j) = some (.int k (xs.getD j 0)))
theorem ReadsInt.at_ {w : World} {k : IntKind} {A : Option Addr} {n : Nat} {xs : List Int} (h : ReadsInt w k A n xs) (i : Int) (h0 : 0 ≤ i) (h1 : i < n) : ∃ ad, A = some ad ∧ w.cell? (ad.add i.toNat) = some (.int k (rd xs i)) := by
  obtain ⟨ad, e, hc⟩ := h.2.2 (by omega)
  exact ⟨ad, e, hc _ (by omega)⟩
theorem ReadsInt.below {w w1 : World} {k : IntKind} {A : Option Addr} {n : Nat} {xs : List Int} (h : ReadsInt w k A n xs) (hb : Below w.heap.size w w1) : ReadsInt w1 k A n xs :=
  ⟨h.1, h.2.1, fun hn => by
    obtain ⟨ad, e, hc⟩ := h.2.2 hn
    exact ⟨ad, e, fun j hj => pw_cell_below hb (hc j hj)⟩⟩
theorem own_nil (W : World) (base : Nat) (e : TypeId) (size : Nat) : W.ownsRow base e size (.slice none 0 0) 0 [] := ⟨by simp, .inl ⟨rfl, rfl⟩⟩
theorem own_base {w : World} {base : Nat} {e : TypeId} {size n : Nat} {v : Value} {xs : List Value} (h : w.ownsRow base e size v n xs) (k : Nat) (hk : v.ownBlock = some k) : base ≤ k := by
  rcases h.2 with ⟨rfl, _⟩ | ⟨g, cap, cur, rfl, hb, _⟩
  · simp [Value.ownBlock] at hk
  · have : g = k := by simpa [Value.ownBlock] using hk
    omega
theorem own_lt {w : World} {base : Nat} {e : TypeId} {size n : Nat} {v : Value} {xs : List Value} (h : w.ownsRow base e size v n xs) (k : Nat) (hk : v.ownBlock = some k) : k < w.heap.size := by
  rcases h.2 with ⟨rfl, _⟩ | ⟨g, cap, cur, rfl, hb, hh, _⟩
  · simp [Value.ownBlock] at hk
  · have : g = k := by simpa [Value.ownBlock] using hk
    subst this
    exact (Array.getElem?_eq_some_iff.1 hh).1
theorem pw_own_below {w w1 : World} {base : Nat} {e : TypeId} {size n : Nat} {v : Value} {xs : List Value} (h : w.ownsRow base e size v n xs) (hb : Below w.heap.size w w1) : w1.ownsRow base e size v n xs :=
  h.kept (grown_of_below hb none) (by cases v.ownBlock <;> simp)
theorem own_other {w w1 : World} {base : Nat} {e : TypeId} {size n : Nat} {v : Value} {xs : List Value} (h : w.ownsRow base e size v n xs) {row : Option Nat} (hg : w.grownBy w1 row) (hne : v.ownBlock = none ∨ v.ownBlock ≠ row) : w1.ownsRow base e size v n xs := h.kept hg hne
theorem own_slice {w : World} {base n : Nat} {e : TypeId} {size : Nat} {v : Value} {xs : List Value} (h : w.ownsRow base e size v n xs) : ∃ A c, v = .slice A n c := by
  rcases h.2 with ⟨rfl, rfl⟩ | ⟨g, cap, cur, rfl, _⟩
  · exact ⟨none, 0, rfl⟩
  · exact ⟨_, cap, rfl⟩
section
variable {P : Program} {ops : Array Oper} {rest : List Oper} {o : Oper} {a : Act} {Q : Exit → Act → World → Prop}
theorem print_append {w0 W : World} (base : Nat) (hgd : o.guard = none) (s x : Operand) (t e : TypeId) (z : Value) (bytes : Nat)
    (ho : o.op = .call { callee := .builtin .append, args := #[s, x], argTypes := #[t, t] })
    (ht : P.underlying t = some (.slice e)) (hinfo : (P.info? e).map (fun i => (i.zero, i.size, i.bytes)) = some (some z, 1, bytes)) (hz : z.cells.size = 1) (hb0 : 0 < bytes)
    (v : Value) (xs : List Value) (y : Value) (hs : a.eval s = v) (hx : a.eval x = .slice (some ⟨W.heap.size, 0, none⟩) 1 1) (h1 : y.oneCell' = true)
    (HO : W.ownsRow base e 1 v xs.length xs) (HB : Below base w0 W) (hbase : base ≤ W.heap.size) (hl : (xs.length + 1) * bytes ≤ 140737488355328)
    (h : ∀ v1 w1, w1.ownsRow base e 1 v1 (xs ++ [y]).length (xs ++ [y]) → Below base w0 w1 → W.grownBy w1 v.ownBlock → (v1.ownBlock = v.ownBlock ∨ ∃ b, v1.ownBlock = some b ∧ W.heap.size ≤ b) → wpList P ops Q rest (a.put o.dst v1) w1) :
    wpList P ops Q (o :: rest) a (W.alloc (.cells #[y] e)) := by
  obtain ⟨i0, hi, hzz⟩ := Option.map_eq_some_iff.1 hinfo
  simp only [Prod.mk.injEq] at hzz
  obtain ⟨hz0, hz1, hz2⟩ := hzz
  have hlen : xs.length + 1 ≤ 140737488355328 := Nat.le_trans (Nat.le_mul_of_pos_right _ hb0) hl
  refine wpList_append_own_at (W.alloc (.cells #[y] e)) hgd s x t ho base e i0 z 1 bytes ht hi hz0 hz1 hz2 hz (by omega) v xs.length xs hs (HO.alloc _) ⟨W.heap.size, 0, none⟩ 1 1 [y] hx rfl
    (World.news_of_block (cs := #[y]) (t := e) (fr := (0, 0)) (heap_alloc_new W _)) (by simpa using h1) (by simp only [maxLen]; omega) hl (by simp; omega) ?_
  intro v1 w1 hown hg _ hat
  refine h v1 w1 (by simpa using hown) ((HB.alloc hbase _).grown hg (by simp; omega) (own_base HO)) (World.grownBy.trans (World.grownBy_alloc W _ _) hg) ?_
  rcases hat with hat | hat
  · exact .inl hat
  · exact .inr ⟨_, hat, by simp⟩
theorem print_append_num {w0 W : World} (base : Nat) (hgd : o.guard = none) (s x : Operand) (t e : TypeId) (k : IntKind) (bytes : Nat)
    (ho : o.op = .call { callee := .builtin .append, args := #[s, x], argTypes := #[t, t] })
    (ht : P.underlying t = some (.slice e)) (hinfo : (P.info? e).map (fun i => (i.zero, i.size, i.bytes)) = some (some (.int k 0), 1, bytes)) (hb0 : 0 < bytes)
    (v : Value) (xs : List Int) (y : Int) (hs : a.eval s = v) (hx : a.eval x = .slice (some ⟨W.heap.size, 0, none⟩) 1 1)
    (HO : W.ownsRow base e 1 v xs.length (nums k xs)) (HB : Below base w0 W) (hbase : base ≤ W.heap.size) (hl : (xs.length + 1) * bytes ≤ 140737488355328)
    (h : ∀ v1 w1, w1.ownsRow base e 1 v1 (xs ++ [y]).length (nums k (xs ++ [y])) → Below base w0 w1 → W.grownBy w1 v.ownBlock → (v1.ownBlock = v.ownBlock ∨ ∃ b, v1.ownBlock = some b ∧ W.heap.size ≤ b) → wpList P ops Q rest (a.put o.dst v1) w1) :
    wpList P ops Q (o :: rest) a (W.alloc (.cells #[.int k y] e)) :=
  print_append base hgd s x t e (.int k 0) bytes ho ht hinfo rfl hb0 v (nums k xs) (.int k y) hs hx rfl (by rw [nums_length]; exact HO) HB hbase (by rw [nums_length]; exact hl)
    fun v1 w1 hown hB hg hat => h v1 w1 (by simpa [nums] using hown) hB hg hat
end
section
variable {P : Program}
theorem print_make (t e : TypeId) (k : IntKind) (bytes : Nat) (ht : P.underlying t = some (.slice e)) (hinfo : (P.info? e).map (fun i => (i.zero, i.size, i.bytes)) = some (some (.int k 0), 1, bytes)) (hb0 : 0 < bytes)
    (m : Nat) (hn : m * bytes ≤ 281474976710656) :
    ∀ W : World, (Instr.makeSlice t (.int .i64 (m : Int)) (.int .i64 (m : Int))).run P W = .ok (.slice (some ⟨W.heap.size, 0, none⟩) m m) (W.alloc (.cells (madeCells #[.int k 0] m) e)) := by
  intro W
  have hm : m ≤ 281474976710656 := Nat.le_trans (Nat.le_mul_of_pos_right _ hb0) hn
  exact run_make_row' t e (.int k 0) bytes ht hinfo rfl .i64 .i64 m (by rw [Nat.mul_comm]; exact hn) (by omega) W
end
theorem own_made (W : World) (base : Nat) (e : TypeId) (k : IntKind) (m : Nat) (hb : base ≤ W.heap.size) (hm : m ≤ 9223372036854775807) :
    (W.alloc (.cells (madeCells #[.int k 0] m) e)).ownsRow base e 1 (.slice (some ⟨W.heap.size, 0, none⟩) m m) m (nums k (List.replicate m 0)) := by
  have h := World.ownsRow_lit (base := base) (e := e) (size := 1) W (madeCells #[.int k 0] m) m hb (by simpa [maxLen] using hm) (by simp [size_madeCells])
  have hl : (madeCells #[Value.int k 0] m).toList = nums k (List.replicate m 0) := by
    apply List.ext_getElem
    · simp [nums, madeCells]
    · intro i h1 h2
      simp [nums, madeCells, Nat.mod_one]
  rwa [hl] at h
theorem own_lit (W : World) (base : Nat) (e : TypeId) (k : IntKind) (xs : List Int) (hb : base ≤ W.heap.size) (hm : xs.length ≤ 9223372036854775807) :
    (W.alloc (.cells (nums k xs).toArray e)).ownsRow base e 1 (.slice (some ⟨W.heap.size, 0, none⟩) xs.length xs.length) xs.length (nums k xs) := by
  have h := World.ownsRow_lit (base := base) (e := e) (size := 1) W (nums k xs).toArray xs.length hb (by simpa [maxLen] using hm) (by simp [nums])
  simpa using h
theorem own_at {W : World} {base g n cap : Nat} {e : TypeId} {k : IntKind} {xs : List Int} (h : W.ownsRow base e 1 (.slice (some ⟨g, 0, none⟩) n cap) n (nums k xs)) (i : Int) (h0 : 0 ≤ i) (h1 : i < n) :
    W.cell? ⟨g, i.toNat, none⟩ = some (.int k (rd xs i)) ∧ W.frozen? ⟨g, i.toNat, none⟩ = false := by
  have hl : xs.length = n := by have := h.1; simp [nums] at this; exact this
  constructor
  · have hc := h.cells (g := g) rfl i.toNat (.int k (rd xs i)) (by simp [nums, rd, List.getElem?_eq_getElem (show i.toNat < xs.length by omega), List.getD_eq_getElem?_getD])
    rwa [add_plain] at hc
  · rcases h.2 with ⟨h', _⟩ | ⟨g', cap', cur, h', _, hh, _⟩
    · cases h'
    · have : g = g' := by injection h' with h'; injection h' with h'; injection h' with h'
      subst this
      simp [World.frozen?, hh]
theorem own_store {W : World} {base g n cap : Nat} {e : TypeId} {k : IntKind} {xs : List Int} (h : W.ownsRow base e 1 (.slice (some ⟨g, 0, none⟩) n cap) n (nums k xs)) (i x : Int) :
    (W.setCell ⟨g, i.toNat, none⟩ (.int k x)).ownsRow base e 1 (.slice (some ⟨g, 0, none⟩) n cap) n (nums k (xs.set i.toNat x)) ∧ W.grownBy (W.setCell ⟨g, i.toNat, none⟩ (.int k x)) (some g) := by
  have hs := h.stored i.toNat (.int k x)
  have he : (nums k xs).set i.toNat (.int k x) = nums k (xs.set i.toNat x) := by simp [nums, List.map_set]
  rwa [he] at hs
section
variable {P : Program} {ops : Array Oper} {rest : List Oper} {o : Oper} {a : Act} {Q : Exit → Act → World → Prop}
theorem print_append_row {w0 W : World} (base : Nat) (hgd : o.guard = none) (s x : Operand) (t e : TypeId) (k : IntKind) (bytes : Nat)
    (ho : o.op = .call { callee := .builtin .append, args := #[s, x], argTypes := #[t, t] })
    (ht : P.underlying t = some (.slice e)) (hinfo : (P.info? e).map (fun i => (i.zero, i.size, i.bytes)) = some (some (.int k 0), 1, bytes)) (hb0 : 0 < bytes)
    (v : Value) (xs ys : List Int) (A : Option Addr) (m c : Nat) (hs : a.eval s = v) (hx : a.eval x = .slice A m c)
    (HO : W.ownsRow base e 1 v xs.length (nums k xs)) (HR : ReadsInt W k A m ys) (HB : Below base w0 W) (hbase : base ≤ W.heap.size) (hl : (xs.length + m) * bytes ≤ 140737488355328)
    (h : ∀ v1 w1, w1.ownsRow base e 1 v1 (xs ++ ys).length (nums k (xs ++ ys)) → Below base w0 w1 → W.grownBy w1 v.ownBlock → (v1.ownBlock = v.ownBlock ∨ ∃ b, v1.ownBlock = some b ∧ W.heap.size ≤ b) → wpList P ops Q rest (a.put o.dst v1) w1) :
    wpList P ops Q (o :: rest) a W := by
  obtain ⟨i0, hi, hzz⟩ := Option.map_eq_some_iff.1 hinfo
  simp only [Prod.mk.injEq] at hzz
  obtain ⟨hz0, hz1, hz2⟩ := hzz
  have hm : ys.length = m := HR.1
  have hlen : xs.length + m ≤ 140737488355328 := Nat.le_trans (Nat.le_mul_of_pos_right _ hb0) hl
  have hrun : ∃ v1 w1, (Builtin.append_ #[t, t] o.type #[v, .slice A m c]).run P W = .ok v1 w1 ∧ w1.ownsRow base e 1 v1 (xs ++ ys).length (nums k (xs ++ ys)) ∧ W.grownBy w1 v.ownBlock ∧ (v1.ownBlock = v.ownBlock ∨ v1.ownBlock = some W.heap.size) := by
    rcases A with _ | ad
    · have h0 : m = 0 := by
        rcases Nat.eq_zero_or_pos m with h0 | h0
        · exact h0
        · obtain ⟨ad, h, _⟩ := HR.2.2 h0
          cases h
      subst h0
      obtain rfl : ys = [] := List.eq_nil_of_length_eq_zero hm
      refine ⟨v, W, ?_, by simpa using HO, World.grownBy.refl W _, .inl rfl⟩
      rcases HO.2 with ⟨rfl, hn⟩ | ⟨g, cap, cur, rfl, _, _, hnc, _⟩
      · simp [Builtin.append_, run_underlying ht, sizeOf, typeInfo, hi, Builtin.lenOf, Builtin.firstCells]
      · simp [Builtin.append_, run_underlying ht, sizeOf, typeInfo, hi, Builtin.lenOf, Builtin.firstCells, hnc, storeCells]
    · have hcells : ∀ j u, (nums k ys)[j]? = some u → W.cell? (ad.add j) = some u := by
        intro j u hu
        have hj : j < ys.length := by
          rcases Nat.lt_or_ge j ys.length with h | h
          · exact h
          · simp [nums, List.getElem?_eq_none h] at hu
        obtain ⟨ad', h', hc⟩ := HR.2.2 (by omega)
        injection h' with h'
        subst h'
        have := hc j (by omega)
        simp [nums, List.getElem?_eq_getElem hj] at hu
        subst hu
        rw [this]
        simp [List.getD_eq_getElem?_getD, List.getElem?_eq_getElem hj]
      obtain ⟨v1, w1, hr, h2, h3, _, h5⟩ := run_append_own_at (P := P) W base t o.type e i0 (.int k 0) 1 bytes ht hi hz0 hz1 hz2 rfl (by omega) v xs.length (nums k xs) HO ad m c (nums k ys) (by simp [nums, hm]) hcells
        (by intro u hu; simp only [nums, List.mem_map] at hu; obtain ⟨q, _, rfl⟩ := hu; rfl) (by simp only [maxLen]; omega) hl hbase
      exact ⟨v1, w1, hr, by simpa [nums, hm] using h2, h3, h5⟩
  obtain ⟨v1, w1, hr, hown, hg, hat⟩ := hrun
  refine wpList_plain hgd fun K hK => ?_
  unfold Oper.wp execOp
  simp only [ho, resolve, invoke, builtin, Sem.run_bind, Sem.run_pure, Result.andThen_ok, List.map_toArray, List.map_cons, List.map_nil, hs, hx, hr]
  refine hK _ _ (h v1 w1 hown (HB.grown hg hbase (own_base HO)) hg ?_)
  rcases hat with hat | hat
  · exact .inl hat
  · exact .inr ⟨_, hat, Nat.le_refl _⟩
end
def LeO {α : Type} (a b : Option α) : Prop := ∀ r, a = some r → b = some r
theorem LeO.refl {α : Type} (a : Option α) : LeO a a := fun _ h => h
theorem LeO.none {α : Type} (b : Option α) : LeO Option.none b := fun _ h => by cases h
theorem LeO.trans {α : Type} {a b c : Option α} (h : LeO a b) (k : LeO b c) : LeO a c := fun r hr => k r (h r hr)
theorem LeO.ite {α : Type} {c : Prop} [Decidable c] {a a' b b' : Option α} (h : LeO a a') (k : LeO b b') : LeO (if c then a else b) (if c then a' else b') := by
  split
  · exact h
  · exact k
theorem LeO.bind {α β : Type} {a a' : Option α} {f f' : α → Option β} (h : LeO a a') (k : ∀ x, LeO (f x) (f' x)) : LeO (a.bind f) (a'.bind f') := by
  intro r hr
  obtain ⟨x, hx, hf⟩ := Option.bind_eq_some_iff.1 hr
  exact Option.bind_eq_some_iff.2 ⟨x, h x hx, k x r hf⟩
theorem LeO.map {α β : Type} {a a' : Option α} (f : α → β) (h : LeO a a') : LeO (a.map f) (a'.map f) := by
  intro r hr
  obtain ⟨x, hx, hf⟩ := Option.map_eq_some_iff.1 hr
  exact Option.map_eq_some_iff.2 ⟨x, h x hx, hf⟩
def Reps {α : Type} (R : α → List Value → Prop) (size : Nat) (ps : List α) (cs : List Value) : Prop :=
  cs.length = ps.length * size ∧ ∀ j p, ps[j]? = some p → R p ((cs.drop (j * size)).take size)
theorem Reps.none {α : Type} (R : α → List Value → Prop) (size : Nat) : Reps R size [] [] := ⟨by simp, fun j p h => by simp at h⟩
theorem Reps.snoc {α : Type} {R : α → List Value → Prop} {size : Nat} {ps : List α} {cs c : List Value} {p : α} (h : Reps R size ps cs) (hp : R p c) (hc : c.length = size) : Reps R size (ps ++ [p]) (cs ++ c) := by
  refine ⟨by rw [List.length_append, h.1, hc, List.length_append, List.length_singleton, Nat.add_mul, Nat.one_mul], fun j q hq => ?_⟩
  rcases Nat.lt_or_ge j ps.length with hj | hj
  · rw [List.getElem?_append_left hj] at hq
    have h1 : j * size + size ≤ cs.length := by rw [h.1, ← Nat.succ_mul]; exact Nat.mul_le_mul_right _ hj
    have h2 := h.2 j q hq
    rw [List.drop_append_of_le_length (by omega), List.take_append_of_le_length (by rw [List.length_drop]; omega)]
    exact h2
  · have hj' : j = ps.length := by
      have := (List.getElem?_eq_some_iff.1 hq).1
      rw [List.length_append, List.length_singleton] at this
      omega
    subst hj'
    have hq' : p = q := by simpa using hq
    subst hq'
    rw [← h.1, List.drop_left, ← hc, List.take_length]
    exact hp
theorem Reps.imp_ {α : Type} {R R' : α → List Value → Prop} {size : Nat} {ps : List α} {cs : List Value} (h : Reps R size ps cs) (hR : ∀ p c, R p c → R' p c) : Reps R' size ps cs := ⟨h.1, fun j p hj => hR _ _ (h.2 j p hj)⟩
def ReadsRow {α : Type} (R : α → List Value → Prop) (size : Nat) (w : World) (A : Option Addr) (n : Nat) (ps : List α) : Prop :=
  ps.length = n ∧ n ≤ 9223372036854775807 ∧ (0 < n → ∃ ad, A = some ad ∧ ∀ j p, ps[j]? = some p → ∃ c, c.length = size ∧ R p c ∧ ∀ i u, c[i]? = some u → w.cell? (ad.add (j * size + i)) = some u)
theorem ReadsRow.get_ {α : Type} {R : α → List Value → Prop} {size : Nat} {w : World} {A : Option Addr} {n : Nat} {ps : List α} (h : ReadsRow R size w A n ps) (d : α) (i : Int) (h0 : 0 ≤ i) (h1 : i < n) :
    ∃ ad c, A = some ad ∧ c.length = size ∧ R (ps.getD i.toNat d) c ∧ ∀ j u, c[j]? = some u → w.cell? (ad.add (i.toNat * size + j)) = some u := by
  obtain ⟨ad, e, hc⟩ := h.2.2 (by omega)
  have hl : i.toNat < ps.length := by have := h.1; omega
  obtain ⟨c, hs, hr, hcell⟩ := hc i.toNat _ (List.getElem?_eq_getElem hl)
  refine ⟨ad, c, e, hs, ?_, hcell⟩
  rw [List.getD_eq_getElem?_getD, List.getElem?_eq_getElem hl]
  exact hr
theorem ReadsRow.imp_ {α : Type} {R R' : α → List Value → Prop} {size : Nat} {w w1 : World} {A : Option Addr} {n : Nat} {ps : List α} (h : ReadsRow R size w A n ps) (hb : Below w.heap.size w w1) (hR : ∀ p c, R p c → R' p c) : ReadsRow R' size w1 A n ps :=
  ⟨h.1, h.2.1, fun hn => by
    obtain ⟨ad, e, hc⟩ := h.2.2 hn
    refine ⟨ad, e, fun j p hj => ?_⟩
    obtain ⟨c, hs, hr, hcell⟩ := hc j p hj
    exact ⟨c, hs, hR _ _ hr, fun i u hu => pw_cell_below hb (hcell i u hu)⟩⟩
theorem own_reads_row {α : Type} {R : α → List Value → Prop} {w : World} {base n size : Nat} {e : TypeId} {v : Value} {ps : List α} {cs : List Value} (h : w.ownsRow base e size v n cs) (hR : Reps R size ps cs) (hn : ps.length = n) :
    ∃ A c, v = .slice A n c ∧ ReadsRow R size w A n ps := by
  rcases Nat.eq_zero_or_pos n with h0 | h0
  · rcases h.2 with ⟨rfl, rfl⟩ | ⟨g, cap, cur, rfl, _⟩
    · exact ⟨none, 0, rfl, hn, by omega, fun hp => absurd hp (by omega)⟩
    · exact ⟨_, cap, rfl, hn, by omega, fun hp => absurd hp (by omega)⟩
  · obtain ⟨g, cap, rfl, _, _⟩ := h.form h0
    have hm : n ≤ 9223372036854775807 := by
      rcases h.2 with ⟨_, h1⟩ | ⟨g', cap', cur, he, _, _, h1, h2, _⟩
      · omega
      · simp only [maxLen] at h2
        omega
    refine ⟨_, cap, rfl, hn, hm, fun _ => ⟨_, rfl, fun j p hj => ⟨(cs.drop (j * size)).take size, ?_, hR.2 j p hj, fun i u hu => ?_⟩⟩⟩
    · have hjl := (List.getElem?_eq_some_iff.1 hj).1
      have h1 : j * size + size ≤ cs.length := by rw [hR.1, ← Nat.succ_mul]; exact Nat.mul_le_mul_right _ hjl
      rw [List.length_take, List.length_drop]
      omega
    · refine h.cells (g := g) rfl _ u ?_
      rw [List.getElem?_take] at hu
      split at hu
      · rw [List.getElem?_drop] at hu
        exact hu
      · cases hu
theorem add_field (ad : Addr) (m j : Nat) (hj : 0 < j) : ad.add (m + j) = ⟨(ad.add m).block, (ad.add m).off + j, none⟩ := by
  unfold Addr.add
  by_cases hm : m = 0
  · subst hm
    simp [Nat.ne_of_gt hj]
  · simp [hm, Nat.add_assoc]
section
variable {P : Program} {ops : Array Oper} {rest : List Oper} {o : Oper} {a : Act} {Q : Exit → Act → World → Prop}
theorem print_append_cells {w0 W : World} (base : Nat) (hgd : o.guard = none) (s x : Operand) (t e : TypeId) (z : Value) (size bytes : Nat)
    (ho : o.op = .call { callee := .builtin .append, args := #[s, x], argTypes := #[t, t] })
    (ht : P.underlying t = some (.slice e)) (hinfo : (P.info? e).map (fun i => (i.zero, i.size, i.bytes)) = some (some z, size, bytes)) (hz : z.cells.size = size) (hs0 : 0 < size) (hb0 : 0 < bytes)
    (v : Value) (n : Nat) (xs ys : List Value) (hs : a.eval s = v) (hx : a.eval x = .slice (some ⟨W.heap.size, 0, none⟩) 1 1) (hys : ys.length = size) (h1 : ∀ u ∈ ys, u.oneCell' = true)
    (HO : W.ownsRow base e size v n xs) (HB : Below base w0 W) (hbase : base ≤ W.heap.size) (hl : (n + 1) * bytes ≤ 140737488355328)
    (h : ∀ v1 w1, w1.ownsRow base e size v1 (n + 1) (xs ++ ys) → Below base w0 w1 → W.grownBy w1 v.ownBlock → (v1.ownBlock = v.ownBlock ∨ ∃ b, v1.ownBlock = some b ∧ W.heap.size ≤ b) → wpList P ops Q rest (a.put o.dst v1) w1) :
    wpList P ops Q (o :: rest) a (W.alloc (.cells ys.toArray e)) := by
  obtain ⟨i0, hi, hzz⟩ := Option.map_eq_some_iff.1 hinfo
  simp only [Prod.mk.injEq] at hzz
  obtain ⟨hz0, hz1, hz2⟩ := hzz
  have hlen : n + 1 ≤ 140737488355328 := Nat.le_trans (Nat.le_mul_of_pos_right _ hb0) hl
  refine wpList_append_own_at (W.alloc (.cells ys.toArray e)) hgd s x t ho base e i0 z size bytes ht hi hz0 hz1 hz2 hz hs0 v n xs hs (HO.alloc _) ⟨W.heap.size, 0, none⟩ 1 1 ys hx (by rw [hys]; simp)
    (by simpa using World.news_of_block (cs := ys.toArray) (t := e) (fr := (0, 0)) (heap_alloc_new W (.cells ys.toArray e))) h1 (by simp only [maxLen]; omega) hl (by simp; omega) ?_
  intro v1 w1 hown hg _ hat
  refine h v1 w1 hown ((HB.alloc hbase _).grown hg (by simp; omega) (own_base HO)) (World.grownBy.trans (World.grownBy_alloc W _ _) hg) ?_
  rcases hat with hat | hat
  · exact .inl hat
  · exact .inr ⟨_, hat, by simp⟩
end
theorem own_setCell {w : World} {base : Nat} {e : TypeId} {size n : Nat} {v : Value} {xs : List Value} (h : w.ownsRow base e size v n xs) {p : Addr} (hne : some p.block ≠ v.ownBlock) (u : Value) : (w.setCell p u).ownsRow base e size v n xs := by
  obtain ⟨h1, h2⟩ := h
  refine ⟨h1, ?_⟩
  rcases h2 with h2 | ⟨g, cap, cur, rfl, hg, hh, r⟩
  · exact .inl h2
  · exact .inr ⟨g, cap, cur, rfl, hg, by rw [Below.heap_setCell _ _ _ _ (fun e => hne (by rw [e]; rfl))]; exact hh, r⟩
theorem blk_set {w : World} {g : Nat} {t : TypeId} {cs : Array Value} (h : w.heap[g]? = some (.cells cs t (0, 0))) (i : Nat) (u : Value) : (w.setCell ⟨g, i, none⟩ u).heap[g]? = some (.cells (cs.setIfInBounds i u) t (0, 0)) := by
  simp [World.setCell, Array.getElem?_modify, h]
theorem blk_far {w : World} {g : Nat} {t : TypeId} {cs : Array Value} (h : w.heap[g]? = some (.cells cs t (0, 0))) {p : Addr} (hp : g ≠ p.block) (u : Value) : (w.setCell p u).heap[g]? = some (.cells cs t (0, 0)) := (Below.heap_setCell w p u g hp).trans h
theorem blk_lt {w : World} {g : Nat} {o : Obj} (h : w.heap[g]? = some o) : g < w.heap.size := (Array.getElem?_eq_some_iff.1 h).1
theorem blk_cell {w : World} {g : Nat} {t : TypeId} {cs : Array Value} (h : w.heap[g]? = some (.cells cs t (0, 0))) (i : Nat) : w.cell? ⟨g, i, none⟩ = cs[i]? := cell_of_row w g i cs t (0, 0) h
theorem blk_frozen {w : World} {g : Nat} {t : TypeId} {cs : Array Value} (h : w.heap[g]? = some (.cells cs t (0, 0))) (i : Nat) : w.frozen? ⟨g, i, none⟩ = false := by simp [World.frozen?, h]
theorem blk_grown {w w1 : World} {g : Nat} {o : Obj} {row : Option Nat} (h : w.heap[g]? = some o) (hg : w.grownBy w1 row) (hne : some g ≠ row) : w1.heap[g]? = some o := (hg.block g (blk_lt h) hne).trans h
def KeepBut (w w' : World) (g : Nat) (row : Option Nat) : Prop := w.heap.size ≤ w'.heap.size ∧ ∀ i, i < w.heap.size → i ≠ g → some i ≠ row → w'.heap[i]? = w.heap[i]?
theorem KeepBut.refl (w : World) (g : Nat) (row : Option Nat) : KeepBut w w g row := ⟨Nat.le_refl _, fun _ _ _ _ => rfl⟩
theorem KeepBut.of_grown {w w1 : World} {row : Option Nat} (h : w.grownBy w1 row) (g : Nat) : KeepBut w w1 g row := ⟨h.size, fun i hi _ hr => h.block i hi hr⟩
theorem KeepBut.of_below {w w1 : World} (h : Below w.heap.size w w1) (g : Nat) (row : Option Nat) : KeepBut w w1 g row := ⟨h.size, fun i hi _ _ => h.block i hi⟩
theorem KeepBut.trans {w w1 w2 : World} {g : Nat} {row row1 : Option Nat} (h : KeepBut w w1 g row) (k : KeepBut w1 w2 g row1) (hr : row1 = row ∨ ∃ b, row1 = some b ∧ w.heap.size ≤ b) : KeepBut w w2 g row :=
  ⟨Nat.le_trans h.1 k.1, fun i hi hg hn => by
    refine (k.2 i (Nat.lt_of_lt_of_le hi h.1) hg ?_).trans (h.2 i hi hg hn)
    rcases hr with rfl | ⟨b, rfl, hb⟩
    · exact hn
    · intro e
      injection e with e
      omega⟩
theorem KeepBut.blk {w w1 : World} {g g' : Nat} {row : Option Nat} {o : Obj} (h : KeepBut w w1 g row) (hb : w.heap[g']? = some o) (hg : g' ≠ g) (hr : some g' ≠ row) : w1.heap[g']? = some o := (h.2 g' (blk_lt hb) hg hr).trans hb
theorem KeepBut.own {w w1 : World} {g : Nat} {row : Option Nat} {base : Nat} {e : TypeId} {size n : Nat} {v : Value} {xs : List Value} (h : KeepBut w w1 g row) (ho : w.ownsRow base e size v n xs) (hg : v.ownBlock ≠ some g) (hr : v.ownBlock = none ∨ v.ownBlock ≠ row) : w1.ownsRow base e size v n xs := by
  obtain ⟨h1, h2⟩ := ho
  refine ⟨h1, ?_⟩
  rcases h2 with h2 | ⟨b, cap, cur, rfl, hb, hh, r⟩
  · exact .inl h2
  · refine .inr ⟨b, cap, cur, rfl, hb, h.blk hh ?_ ?_, r⟩
    · intro e
      exact hg (by rw [← e]; rfl)
    · rcases hr with hr | hr
      · simp [Value.ownBlock] at hr
      · exact hr
def Ev {α : Type} (g : Nat → Option α) (r : α) : Prop := ∃ K, ∀ k, K ≤ k → g k = some r
theorem Ev.now {α : Type} (r : α) : Ev (fun _ => some r) r := ⟨0, fun _ _ => rfl⟩
theorem Ev.bind {α β : Type} {g : Nat → Option α} {f : Nat → α → Option β} {a : α} {r : β} (h : Ev g a) (k : Ev (fun n => f n a) r) : Ev (fun n => (g n).bind (f n)) r := by
  obtain ⟨K, h⟩ := h
  obtain ⟨K', k⟩ := k
  refine ⟨max K K', fun n hn => ?_⟩
  have h1 := h n (by omega)
  have h2 := k n (by omega)
  simp only [h1, Option.bind_some]
  exact h2
theorem Ev.step {α : Type} {g f : Nat → Option α} {r : α} (h : ∀ k, g (k + 1) = f k) (k : Ev f r) : Ev g r := by
  obtain ⟨K, k⟩ := k
  refine ⟨K + 1, fun n hn => ?_⟩
  obtain ⟨m, rfl⟩ : ∃ m, n = m + 1 := ⟨n - 1, by omega⟩
  rw [h]
  exact k m (by omega)
theorem Ev.congr {α : Type} {g f : Nat → Option α} {r : α} (h : ∀ k, g k = f k) (k : Ev f r) : Ev g r := by
  obtain ⟨K, k⟩ := k
  exact ⟨K, fun n hn => (h n).trans (k n hn)⟩
section
variable {P : Program} {ops : Array Oper} {o : Oper} {a : Act} {Q : Exit → Act → World → Prop} {K : Act → World → Prop}
end
theorem own_weaken {w : World} {base base' : Nat} {e : TypeId} {size n : Nat} {v : Value} {xs : List Value} (h : w.ownsRow base e size v n xs) (hb : base' ≤ base) : w.ownsRow base' e size v n xs := by
  obtain ⟨h1, h2⟩ := h
  refine ⟨h1, ?_⟩
  rcases h2 with h2 | ⟨g, cap, cur, rfl, hg, r⟩
  · exact .inl h2
  · exact .inr ⟨g, cap, cur, rfl, Nat.le_trans hb hg, r⟩
section
variable {α : Type} {enc : α → Value} {d : α}
def encs (enc : α → Value) (xs : List α) : List Value := xs.map enc
def rdOf (d : α) (xs : List α) (i : Int) : α := xs.getD i.toNat d
theorem encs_length (xs : List α) : (encs enc xs).length = xs.length := by simp [encs]
def ReadsOf (enc : α → Value) (d : α) (w : World) (A : Option Addr) (n : Nat) (xs : List α) : Prop :=
  xs.length = n ∧ n ≤ 9223372036854775807 ∧ (0 < n → ∃ ad, A = some ad ∧ ∀ j, j < n → w.cell? (ad.add j) = some (enc (xs.getD j d)))
theorem ReadsOf.at_ {w : World} {A : Option Addr} {n : Nat} {xs : List α} (h : ReadsOf enc d w A n xs) (i : Int) (h0 : 0 ≤ i) (h1 : i < n) : ∃ ad, A = some ad ∧ w.cell? (ad.add i.toNat) = some (enc (rdOf d xs i)) := by
  obtain ⟨ad, e, hc⟩ := h.2.2 (by omega)
  exact ⟨ad, e, hc _ (by omega)⟩
theorem ReadsOf.below {w w1 : World} {A : Option Addr} {n : Nat} {xs : List α} (h : ReadsOf enc d w A n xs) (hb : Below w.heap.size w w1) : ReadsOf enc d w1 A n xs :=
  ⟨h.1, h.2.1, fun hn => by
    obtain ⟨ad, e, hc⟩ := h.2.2 hn
    exact ⟨ad, e, fun j hj => pw_cell_below hb (hc j hj)⟩⟩
theorem print_make_of {P : Program} (t e : TypeId) (z : Value) (bytes : Nat) (ht : P.underlying t = some (.slice e)) (hinfo : (P.info? e).map (fun i => (i.zero, i.size, i.bytes)) = some (some z, 1, bytes)) (hz : z.cells = #[z]) (hb0 : 0 < bytes)
    (m : Nat) (hn : m * bytes ≤ 281474976710656) :
    ∀ W : World, (Instr.makeSlice t (.int .i64 (m : Int)) (.int .i64 (m : Int))).run P W = .ok (.slice (some ⟨W.heap.size, 0, none⟩) m m) (W.alloc (.cells (madeCells #[z] m) e)) := by
  intro W
  have hm : m ≤ 281474976710656 := Nat.le_trans (Nat.le_mul_of_pos_right _ hb0) hn
  exact run_make_row' t e z bytes ht hinfo hz .i64 .i64 m (by rw [Nat.mul_comm]; exact hn) (by omega) W
end
section
variable {α : Type} {P : Program} {ops : Array Oper} {rest : List Oper} {o : Oper} {a : Act} {Q : Exit → Act → World → Prop}
theorem print_append_of {w0 W : World} (enc : α → Value) (base : Nat) (hgd : o.guard = none) (s x : Operand) (t e : TypeId) (z : Value) (bytes : Nat)
    (ho : o.op = .call { callee := .builtin .append, args := #[s, x], argTypes := #[t, t] })
    (ht : P.underlying t = some (.slice e)) (hinfo : (P.info? e).map (fun i => (i.zero, i.size, i.bytes)) = some (some z, 1, bytes)) (hz : z.cells.size = 1) (hb0 : 0 < bytes)
    (v : Value) (xs : List α) (y : α) (hs : a.eval s = v) (hx : a.eval x = .slice (some ⟨W.heap.size, 0, none⟩) 1 1) (h1 : (enc y).oneCell' = true)
    (HO : W.ownsRow base e 1 v xs.length (encs enc xs)) (HB : Below base w0 W) (hbase : base ≤ W.heap.size) (hl : (xs.length + 1) * bytes ≤ 140737488355328)
    (h : ∀ v1 w1, w1.ownsRow base e 1 v1 (xs ++ [y]).length (encs enc (xs ++ [y])) → Below base w0 w1 → W.grownBy w1 v.ownBlock → (v1.ownBlock = v.ownBlock ∨ ∃ b, v1.ownBlock = some b ∧ W.heap.size ≤ b) → wpList P ops Q rest (a.put o.dst v1) w1) :
    wpList P ops Q (o :: rest) a (W.alloc (.cells #[enc y] e)) :=
  print_append base hgd s x t e z bytes ho ht hinfo hz hb0 v (encs enc xs) (enc y) hs hx h1 (by rw [encs_length]; exact HO) HB hbase (by rw [encs_length]; exact hl)
    fun v1 w1 hown hB hg hat => h v1 w1 (by simpa [encs] using hown) hB hg hat
end
theorem blk_alloc {w : World} {g : Nat} {o : Obj} (h : w.heap[g]? = some o) (o' : Obj) : (w.alloc o').heap[g]? = some o := (Below.heap_alloc w o' g (blk_lt h)).trans h
theorem blk_drew {w : World} {g : Nat} {o : Obj} (h : w.heap[g]? = some o) : w.drew.heap[g]? = some o := h
theorem blk_drewN {w : World} {g : Nat} {o : Obj} (h : w.heap[g]? = some o) (n : Nat) : (w.drewN n).heap[g]? = some o := h
theorem blk_below {w w1 : World} {g : Nat} {o : Obj} (h : w.heap[g]? = some o) (hb : Below w.heap.size w w1) : w1.heap[g]? = some o := (hb.block g (blk_lt h)).trans h
theorem blk_new (w : World) (o : Obj) : (w.alloc o).heap[w.heap.size]? = some o := heap_alloc_new w o
section
variable {P : Program}
end
theorem own_le {w : World} {base n m c size : Nat} {e : TypeId} {A : Option Addr} {xs : List Value} (h : w.ownsRow base e size (.slice A m c) n xs) : m ≤ c := by
  rcases h.2 with ⟨he, _⟩ | ⟨g, cap, cur, he, _, _, hnc, _⟩
  · injection he with _ h2 h3
    omega
  · injection he with _ h2 h3
    omega
def OwnRow {α : Type} (R : α → List Value → Prop) (e : TypeId) (size : Nat) (w : World) (base : Nat) (v : Value) (ps : List α) : Prop :=
  ∃ inner, w.ownsRow base e size v ps.length inner ∧ Reps R size ps inner
section
variable {α : Type} {R R' : α → List Value → Prop} {e : TypeId} {size : Nat} {w w1 : World} {base : Nat} {v : Value} {ps : List α}
theorem OwnRow.imp_ (h : OwnRow R e size w base v ps) (hR : ∀ p c, R p c → R' p c) : OwnRow R' e size w base v ps := by
  obtain ⟨inner, ho, hr⟩ := h
  exact ⟨inner, ho, hr.imp_ hR⟩
theorem OwnRow.below (h : OwnRow R e size w base v ps) (hb : Below w.heap.size w w1) : OwnRow R e size w1 base v ps := by
  obtain ⟨inner, ho, hr⟩ := h
  exact ⟨inner, pw_own_below ho hb, hr⟩
theorem OwnRow.other (h : OwnRow R e size w base v ps) {row : Option Nat} (hg : w.grownBy w1 row) (hne : v.ownBlock = none ∨ v.ownBlock ≠ row) : OwnRow R e size w1 base v ps := by
  obtain ⟨inner, ho, hr⟩ := h
  exact ⟨inner, own_other ho hg hne, hr⟩
theorem OwnRow.reads (h : OwnRow R e size w base v ps) : ∃ A c, v = .slice A ps.length c ∧ ps.length ≤ c ∧ ReadsRow R size w A ps.length ps := by
  obtain ⟨inner, ho, hr⟩ := h
  obtain ⟨A, c, rfl, hrow⟩ := own_reads_row ho hr rfl
  exact ⟨A, c, rfl, own_le ho, hrow⟩
theorem OwnRow.lit (W : World) (base : Nat) {inner : List Value} (hr : Reps R size ps inner) (hb : base ≤ W.heap.size) (hm : ps.length ≤ 9223372036854775807) :
    OwnRow R e size (W.alloc (.cells inner.toArray e)) base (.slice (some ⟨W.heap.size, 0, none⟩) ps.length ps.length) ps := by
  have h := World.ownsRow_lit (base := base) (e := e) (size := size) W inner.toArray ps.length hb (by simpa [maxLen] using hm) (by simpa using hr.1)
  exact ⟨inner, by simpa using h, hr⟩
end
section
variable {P : Program} {ops : Array Oper} {rest : List Oper} {o : Oper} {a : Act} {Q : Exit → Act → World → Prop} {α : Type} {R : α → List Value → Prop}
theorem OwnRow.append {w0 W : World} (base : Nat) (hgd : o.guard = none) (s x : Operand) (t e : TypeId) (z : Value) (size bytes : Nat)
    (ho : o.op = .call { callee := .builtin .append, args := #[s, x], argTypes := #[t, t] })
    (ht : P.underlying t = some (.slice e)) (hinfo : (P.info? e).map (fun i => (i.zero, i.size, i.bytes)) = some (some z, size, bytes)) (hz : z.cells.size = size) (hs0 : 0 < size) (hb0 : 0 < bytes)
    (v : Value) (ps : List α) (p : α) (cs : List Value) (hs : a.eval s = v) (hx : a.eval x = .slice (some ⟨W.heap.size, 0, none⟩) 1 1) (hp : R p cs) (hcs : cs.length = size) (h1 : ∀ u ∈ cs, u.oneCell' = true)
    (HO : OwnRow R e size W base v ps) (HB : Below base w0 W) (hbase : base ≤ W.heap.size) (hl : (ps.length + 1) * bytes ≤ 140737488355328)
    (h : ∀ v1 w1, OwnRow R e size w1 base v1 (ps ++ [p]) → Below base w0 w1 → W.grownBy w1 v.ownBlock → (v1.ownBlock = v.ownBlock ∨ ∃ b, v1.ownBlock = some b ∧ W.heap.size ≤ b) → wpList P ops Q rest (a.put o.dst v1) w1) :
    wpList P ops Q (o :: rest) a (W.alloc (.cells cs.toArray e)) := by
  obtain ⟨inner, hown, hr⟩ := HO
  refine print_append_cells base hgd s x t e z size bytes ho ht hinfo hz hs0 hb0 v ps.length inner cs hs hx hcs h1 hown HB hbase hl ?_
  intro v1 w1 hown1 hb1 hg1 hat1
  exact h v1 w1 ⟨inner ++ cs, by rw [List.length_append, List.length_singleton]; exact hown1, hr.snoc hp hcs⟩ hb1 hg1 hat1
end
section
variable {P : Program} {ops : Array Oper} {o : Oper} {a : Act} {Q : Exit → Act → World → Prop} {K : Act → World → Prop} {α : Type} {R : α → List Value → Prop}
end
section
variable {α : Type} {P : Program}
theorem readsInt_of {w : World} {k : IntKind} {A : Option Addr} {n : Nat} {xs : List Int} : ReadsInt w k A n xs ↔ ReadsOf (Value.int k) (0 : Int) w A n xs := Iff.rfl
end
section
variable {P : Program} {ops : Array Oper} {rest : List Oper} {o : Oper} {a : Act} {Q : Exit → Act → World → Prop}
end
structure Kd (α : Type) where
  sz : Nat
  E : List Nat
  K : World → α → List Value → Prop
  M : World → Nat → (Nat → Prop) → α → List Value → Prop
  K_len : ∀ {w x cs}, K w x cs → cs.length = sz
  K_one : ∀ {w x cs}, K w x cs → ∀ u ∈ cs, u.oneCell' = true
  K_below : ∀ {w w1 : World} {x cs}, Below w.heap.size w w1 → K w x cs → K w1 x cs
  K_of_M : ∀ {w base ok x cs}, M w base ok x cs → K w x cs
  M_mono : ∀ {w base ok ok' x cs}, (∀ k, ok k → ok' k) → M w base ok x cs → M w base ok' x cs
  M_bound : ∀ {w : World} {base ok x cs}, M w base ok x cs → M w base (fun k => ok k ∧ base ≤ k ∧ k < w.heap.size ∧ ∃ q, q ∈ E ∧ ∃ cells, w.heap[k]? = some (.cells cells q (0, 0))) x cs
  M_move : ∀ {w w1 : World} {base ok x cs}, (∀ k, ok k → w1.heap[k]? = w.heap[k]?) → M w base ok x cs → M w1 base ok x cs
  M_lower : ∀ {w base base' ok x cs}, base' ≤ base → M w base ok x cs → M w base' ok x cs
theorem own_move {w w1 : World} {base : Nat} {e : TypeId} {size n : Nat} {v : Value} {xs : List Value} (h : w.ownsRow base e size v n xs) (hm : ∀ k, v.ownBlock = some k → w1.heap[k]? = w.heap[k]?) : w1.ownsRow base e size v n xs := by
  obtain ⟨h1, h2⟩ := h
  refine ⟨h1, ?_⟩
  rcases h2 with h2 | ⟨g, cap, cur, rfl, hg, hh, r⟩
  · exact .inl h2
  · exact .inr ⟨g, cap, cur, rfl, hg, (hm g (by simp [Value.ownBlock])).trans hh, r⟩
theorem own_typed {w : World} {base : Nat} {e : TypeId} {size n : Nat} {v : Value} {xs : List Value} (h : w.ownsRow base e size v n xs) (k : Nat) (hk : v.ownBlock = some k) : ∃ cells, w.heap[k]? = some (.cells cells e (0, 0)) := by
  rcases h.2 with ⟨rfl, _⟩ | ⟨g, cap, cur, rfl, hg, hh, r⟩
  · simp [Value.ownBlock] at hk
  · have : g = k := by simpa [Value.ownBlock] using hk
    subst this
    exact ⟨cur, hh⟩
namespace Kd
def C {α : Type} (d : Kd α) (w : World) (A : Option Addr) (n : Nat) (xs : List α) : Prop := ReadsRow (d.K w) d.sz w A n xs
def R {α : Type} (d : Kd α) (e : Nat) (w : World) (base : Nat) (ok : Nat → Prop) (v : Value) (xs : List α) : Prop :=
  (∀ k, v.ownBlock = some k → ok k) ∧ OwnRow (d.M w base (fun k => ok k ∧ some k ≠ v.ownBlock)) e d.sz w base v xs
section
variable {α : Type} {d : Kd α} {e : Nat} {w w1 : World} {base : Nat} {ok ok' : Nat → Prop} {v : Value} {xs : List α}
theorem C_below {A : Option Addr} {n : Nat} (h : d.C w A n xs) (hb : Below w.heap.size w w1) : d.C w1 A n xs := ReadsRow.imp_ h hb (fun _ _ hp => d.K_below hb hp)
theorem R_mono (h : d.R e w base ok v xs) (hok : ∀ k, ok k → ok' k) : d.R e w base ok' v xs := ⟨fun k hk => hok k (h.1 k hk), h.2.imp_ (fun _ _ hp => d.M_mono (fun k hk => ⟨hok k hk.1, hk.2⟩) hp)⟩
theorem R_bound (h : d.R e w base ok v xs) : d.R e w base (fun k => ok k ∧ base ≤ k ∧ k < w.heap.size ∧ ∃ q, q ∈ e :: d.E ∧ ∃ cells, w.heap[k]? = some (.cells cells q (0, 0))) v xs := by
  obtain ⟨h0, inner, ho, hr⟩ := h
  refine ⟨fun k hk => ?_, inner, ho, hr.imp_ (fun _ _ hp => d.M_mono (fun k hk => ?_) (d.M_bound hp))⟩
  · obtain ⟨cells, hc⟩ := own_typed ho k hk
    exact ⟨h0 k hk, own_base ho k hk, own_lt ho k hk, e, List.mem_cons_self, cells, hc⟩
  · obtain ⟨⟨h1, h2⟩, h3, h4, q, hq, hc⟩ := hk
    exact ⟨⟨h1, h3, h4, q, List.mem_cons_of_mem _ hq, hc⟩, h2⟩
theorem R_move (h : d.R e w base ok v xs) (hm : ∀ k, ok k → w1.heap[k]? = w.heap[k]?) : d.R e w1 base ok v xs := by
  obtain ⟨h0, inner, ho, hr⟩ := h
  exact ⟨h0, inner, own_move ho (fun k hk => hm k (h0 k hk)), hr.imp_ (fun _ _ hp => d.M_move (fun k hk => hm k hk.1) hp)⟩
theorem R_lower {base' : Nat} (h : d.R e w base ok v xs) (hb : base' ≤ base) : d.R e w base' ok v xs := by
  obtain ⟨h0, inner, ho, hr⟩ := h
  exact ⟨h0, inner, own_weaken ho hb, hr.imp_ (fun _ _ hp => d.M_lower hb hp)⟩
theorem R_step (h : d.R e w base ok v xs) (hm : ∀ k, ok k → k < w.heap.size → w1.heap[k]? = w.heap[k]?) : d.R e w1 base ok v xs :=
  R_mono (R_move (R_bound h) (fun k hk => hm k hk.1 hk.2.2.1)) (fun _ hk => hk.1)
theorem M_step {x : α} {cs : List Value} (h : d.M w base ok x cs) (hm : ∀ k, ok k → k < w.heap.size → w1.heap[k]? = w.heap[k]?) : d.M w1 base ok x cs :=
  d.M_mono (fun _ hk => hk.1) (d.M_move (fun k hk => hm k hk.1 hk.2.2.1) (d.M_bound h))
theorem R_below (h : d.R e w base ok v xs) (hb : Below w.heap.size w w1) : d.R e w1 base ok v xs := R_step h (fun k _ hk => hb.block k hk)
theorem M_below {x : α} {cs : List Value} (h : d.M w base ok x cs) (hb : Below w.heap.size w w1) : d.M w1 base ok x cs := M_step h (fun k _ hk => hb.block k hk)
theorem R_types (h : d.R e w base ok v xs) {g t : Nat} {cells : Array Value} (hb : w.heap[g]? = some (.cells cells t (0, 0))) (ht : ∀ q, q ∈ e :: d.E → q ≠ t) : d.R e w base (fun k => ok k ∧ k ≠ g) v xs :=
  R_mono (R_bound h) (fun k hk => ⟨hk.1, by
    obtain ⟨_, _, _, q, hq, cells', hc⟩ := hk
    rintro rfl
    rw [hc] at hb
    injection hb with hb
    injection hb with _ hb
    exact ht q hq hb⟩)
theorem R_reads (h : d.R e w base ok v xs) : ∃ A c, v = .slice A xs.length c ∧ xs.length ≤ c ∧ d.C w A xs.length xs := by
  obtain ⟨A, c, he, hl, hr⟩ := OwnRow.reads h.2
  exact ⟨A, c, he, hl, hr.imp_ (Below.refl _ _) (fun _ _ hp => d.K_of_M hp)⟩
theorem R_slice (h : d.R e w base ok v xs) : ∃ A c, v = .slice A xs.length c := by
  obtain ⟨A, c, he, _⟩ := R_reads h
  exact ⟨A, c, he⟩
theorem R_own (h : d.R e w base ok v xs) : ∃ inner, w.ownsRow base e d.sz v xs.length inner := by
  obtain ⟨_, inner, ho, _⟩ := h
  exact ⟨inner, ho⟩
end
def scalar {α : Type} (enc : α → Value) (h1 : ∀ x, (enc x).oneCell' = true) : Kd α where
  sz := 1
  E := []
  K := fun _ x cs => cs = [enc x]
  M := fun _ _ _ x cs => cs = [enc x]
  K_len := fun h => by rw [h]; rfl
  K_one := fun h u hu => by
    rw [h] at hu
    rw [List.mem_singleton.1 hu]
    exact h1 _
  K_below := fun _ h => h
  K_of_M := fun h => h
  M_mono := fun _ h => h
  M_bound := fun h => h
  M_move := fun _ h => h
  M_lower := fun _ h => h
def int (k : IntKind) : Kd Int := scalar (Value.int k) (fun _ => rfl)
def bool : Kd Bool := scalar Value.bool (fun _ => rfl)
def string : Kd ByteArray := scalar Value.string (fun _ => rfl)
def slice {α : Type} (e : Nat) (d : Kd α) : Kd (List α) where
  sz := 1
  E := e :: d.E
  K := fun w xs cs => ∃ A c, cs = [.slice A xs.length c] ∧ xs.length ≤ c ∧ d.C w A xs.length xs
  M := fun w base ok xs cs => ∃ v, cs = [v] ∧ d.R e w base ok v xs
  K_len := by
    rintro w x cs ⟨A, c, rfl, _⟩
    rfl
  K_one := by
    rintro w x cs ⟨A, c, rfl, _⟩ u hu
    rw [List.mem_singleton.1 hu]
    rfl
  K_below := by
    rintro w w1 x cs hb ⟨A, c, rfl, hl, hr⟩
    exact ⟨A, c, rfl, hl, C_below hr hb⟩
  K_of_M := by
    rintro w base ok x cs ⟨v, rfl, h⟩
    obtain ⟨A, c, rfl, hl, hr⟩ := R_reads h
    exact ⟨A, c, rfl, hl, hr⟩
  M_mono := by
    rintro w base ok ok' x cs hok ⟨v, rfl, h⟩
    exact ⟨v, rfl, R_mono h hok⟩
  M_bound := by
    rintro w base ok x cs ⟨v, rfl, h⟩
    exact ⟨v, rfl, R_bound h⟩
  M_move := by
    rintro w w1 base ok x cs hm ⟨v, rfl, h⟩
    exact ⟨v, rfl, R_move h hm⟩
  M_lower := by
    rintro w base base' ok x cs hb ⟨v, rfl, h⟩
    exact ⟨v, rfl, R_lower h hb⟩
def pair {α β : Type} (a : Kd α) (b : Kd β) : Kd (α × β) where
  sz := a.sz + b.sz
  E := a.E ++ b.E
  K := fun w x cs => ∃ c0 c1, cs = c0 ++ c1 ∧ a.K w x.1 c0 ∧ b.K w x.2 c1
  M := fun w base ok x cs => ∃ c0 c1, cs = c0 ++ c1 ∧ a.M w base ok x.1 c0 ∧ b.M w base ok x.2 c1
  K_len := by
    rintro w x cs ⟨c0, c1, rfl, h0, h1⟩
    rw [List.length_append, a.K_len h0, b.K_len h1]
  K_one := by
    rintro w x cs ⟨c0, c1, rfl, h0, h1⟩ u hu
    rcases List.mem_append.1 hu with hu | hu
    · exact a.K_one h0 u hu
    · exact b.K_one h1 u hu
  K_below := by
    rintro w w1 x cs hb ⟨c0, c1, rfl, h0, h1⟩
    exact ⟨c0, c1, rfl, a.K_below hb h0, b.K_below hb h1⟩
  K_of_M := by
    rintro w base ok x cs ⟨c0, c1, rfl, h0, h1⟩
    exact ⟨c0, c1, rfl, a.K_of_M h0, b.K_of_M h1⟩
  M_mono := by
    rintro w base ok ok' x cs hok ⟨c0, c1, rfl, h0, h1⟩
    exact ⟨c0, c1, rfl, a.M_mono hok h0, b.M_mono hok h1⟩
  M_bound := by
    rintro w base ok x cs ⟨c0, c1, rfl, h0, h1⟩
    refine ⟨c0, c1, rfl, a.M_mono ?_ (a.M_bound h0), b.M_mono ?_ (b.M_bound h1)⟩
    · rintro k ⟨h2, h3, h4, q, hq, hc⟩
      exact ⟨h2, h3, h4, q, List.mem_append_left _ hq, hc⟩
    · rintro k ⟨h2, h3, h4, q, hq, hc⟩
      exact ⟨h2, h3, h4, q, List.mem_append_right _ hq, hc⟩
  M_move := by
    rintro w w1 base ok x cs hm ⟨c0, c1, rfl, h0, h1⟩
    exact ⟨c0, c1, rfl, a.M_move hm h0, b.M_move hm h1⟩
  M_lower := by
    rintro w base base' ok x cs hb ⟨c0, c1, rfl, h0, h1⟩
    exact ⟨c0, c1, rfl, a.M_lower hb h0, b.M_lower hb h1⟩
def iso {α β : Type} (d : Kd α) (f : β → α) : Kd β where
  sz := d.sz
  E := d.E
  K := fun w x cs => d.K w (f x) cs
  M := fun w base ok x cs => d.M w base ok (f x) cs
  K_len := d.K_len
  K_one := d.K_one
  K_below := d.K_below
  K_of_M := d.K_of_M
  M_mono := d.M_mono
  M_bound := d.M_bound
  M_move := d.M_move
  M_lower := d.M_lower
def bot {α : Type} (sz : Nat) (E : List Nat) : Kd α where
  sz := sz
  E := E
  K := fun _ _ _ => False
  M := fun _ _ _ _ _ => False
  K_len := fun h => h.elim
  K_one := fun h => h.elim
  K_below := fun _ h => h
  K_of_M := fun h => h
  M_mono := fun _ h => h
  M_bound := fun h => h
  M_move := fun _ h => h
  M_lower := fun _ h => h
def upto {α : Type} (F : Kd α → Kd α) (sz : Nat) (E : List Nat) : Nat → Kd α
  | 0 => bot sz E
  | n + 1 => F (upto F sz E n)
def fix {α : Type} (F : Kd α → Kd α) (sz : Nat) (E : List Nat) (hs : ∀ n, (upto F sz E n).sz = sz) (hE : ∀ n q, q ∈ (upto F sz E n).E → q ∈ E) : Kd α where
  sz := sz
  E := E
  K := fun w x cs => ∃ n, (upto F sz E n).K w x cs
  M := fun w base ok x cs => ∃ n, (upto F sz E n).M w base ok x cs
  K_len := by
    rintro w x cs ⟨n, h⟩
    rw [(upto F sz E n).K_len h, hs n]
  K_one := by
    rintro w x cs ⟨n, h⟩
    exact (upto F sz E n).K_one h
  K_below := by
    rintro w w1 x cs hb ⟨n, h⟩
    exact ⟨n, (upto F sz E n).K_below hb h⟩
  K_of_M := by
    rintro w base ok x cs ⟨n, h⟩
    exact ⟨n, (upto F sz E n).K_of_M h⟩
  M_mono := by
    rintro w base ok ok' x cs hok ⟨n, h⟩
    exact ⟨n, (upto F sz E n).M_mono hok h⟩
  M_bound := by
    rintro w base ok x cs ⟨n, h⟩
    refine ⟨n, (upto F sz E n).M_mono ?_ ((upto F sz E n).M_bound h)⟩
    rintro k ⟨h2, h3, h4, q, hq, hc⟩
    exact ⟨h2, h3, h4, q, hE n q hq, hc⟩
  M_move := by
    rintro w w1 base ok x cs hm ⟨n, h⟩
    exact ⟨n, (upto F sz E n).M_move hm h⟩
  M_lower := by
    rintro w base base' ok x cs hb ⟨n, h⟩
    exact ⟨n, (upto F sz E n).M_lower hb h⟩
theorem C_get {α : Type} {d : Kd α} {w : World} {A : Option Addr} {n : Nat} {xs : List α} (h : d.C w A n xs) (z : α) (i : Int) (h0 : 0 ≤ i) (h1 : i < n) :
    ∃ ad c, A = some ad ∧ c.length = d.sz ∧ d.K w (xs.getD i.toNat z) c ∧ ∀ j u, c[j]? = some u → w.cell? (ad.add (i.toNat * d.sz + j)) = some u := ReadsRow.get_ h z i h0 h1
section
variable {P : Program} {ops : Array Oper} {rest : List Oper} {o : Oper} {a : Act} {Q : Exit → Act → World → Prop} {α : Type}
end
section
variable {P : Program} {ops : Array Oper} {o : Oper} {a : Act} {Q : Exit → Act → World → Prop} {Kc : Act → World → Prop} {α : Type}
end
theorem reads_of_C {α : Type} {enc : α → Value} {d : α} {h1 : ∀ x, (enc x).oneCell' = true} {w : World} {A : Option Addr} {n : Nat} {xs : List α} (h : (scalar enc h1).C w A n xs) : ReadsOf enc d w A n xs := by
  refine ⟨h.1, h.2.1, fun hn => ?_⟩
  obtain ⟨ad, e, hc⟩ := h.2.2 hn
  refine ⟨ad, e, fun j hj => ?_⟩
  have hl : j < xs.length := by have := h.1; omega
  obtain ⟨c, _, hK, hcell⟩ := hc j _ (List.getElem?_eq_getElem hl)
  have hK' : c = [enc xs[j]] := hK
  subst hK'
  have := hcell 0 _ rfl
  simpa [scalar, List.getD_eq_getElem?_getD, List.getElem?_eq_getElem hl] using this
end Kd
namespace Kd
section
variable {α : Type} {F : Kd α → Kd α} {sz : Nat} {E : List Nat} {hs : ∀ n, (upto F sz E n).sz = sz} {hE : ∀ n q, q ∈ (upto F sz E n).E → q ∈ E}
end
end Kd
namespace Kd
end Kd
namespace Kd
section
variable {α β : Type} {d : Kd α} {d' : Kd β} {e e' : Nat} {w w1 W : World} {base b b' : Nat} {ok ok' okv oku : Nat → Prop} {v u : Value} {xs : List α} {ys : List β}
theorem R_alloc (h : d.R e w base ok v xs) (o : Obj) : d.R e (w.alloc o) base ok v xs := R_below h (below_alloc (Below.refl _ _) o)
theorem R_drew (h : d.R e w base ok v xs) : d.R e w.drew base ok v xs := R_below h (below_drew (Below.refl _ _))
theorem R_drewN (h : d.R e w base ok v xs) (m : Nat) : d.R e (w.drewN m) base ok v xs := R_below h (pw_below_drewN (Below.refl _ _) m)
theorem C_nil (d : Kd α) (w : World) : d.C w none ([] : List α).length [] := ⟨rfl, by simp, fun h => absurd h (Nat.lt_irrefl 0)⟩
theorem R_reads' {A : Option Addr} {n c : Nat} (h : d.R e w base ok (.slice A n c) xs) : n = xs.length ∧ n ≤ c ∧ d.C w A xs.length xs := by
  obtain ⟨A', c', he, hl, hr⟩ := R_reads h
  injection he with h1 h2 h3
  subst h1
  exact ⟨h2, by omega, hr⟩
theorem R_lt (h : d.R e w base ok v xs) : ∀ k, v.ownBlock = some k → k < w.heap.size := by
  obtain ⟨inner, ho⟩ := R_own h
  exact own_lt ho
theorem R_base (h : d.R e w base ok v xs) : ∀ k, v.ownBlock = some k → base ≤ k := by
  obtain ⟨inner, ho⟩ := R_own h
  exact own_base ho
end
section
variable {w W : World} {A : Option Addr} {n : Nat}
theorem at_int {k : IntKind} {xs : List Int} (h : (Kd.int k).C w A n xs) (i : Int) (h0 : 0 ≤ i) (h1 : i < n) : ∃ ad, A = some ad ∧ w.cell? (ad.add i.toNat) = some (.int k (rd xs i)) :=
  ReadsOf.at_ (reads_of_C (enc := Value.int k) (d := (0 : Int)) (h1 := fun _ => rfl) h) i h0 h1
variable {α : Type} {enc : α → Value} {h1 : ∀ x, (enc x).oneCell' = true} {e base g cap : Nat} {ok : Nat → Prop} {xs : List α}
end
section
variable {P : Program} {ops : Array Oper} {rest : List Oper} {o : Oper} {a : Act} {Q : Exit → Act → World → Prop}
theorem event_run {W w1 : World} {v : Value} (hgd : o.guard = none) (hrun : (execOp a.eval o).run P W = .ok (.value v) w1) (h : wpList P ops Q rest (a.put o.dst v) w1) : wpList P ops Q (o :: rest) a W := by
  refine wpList_plain hgd fun K hK => ?_
  unfold Oper.wp
  rw [hrun]
  exact hK _ _ h
variable {α : Type}
theorem R_lit (d : Kd α) {w0 W : World} (base e : Nat) (hgd : o.guard = none) {N : Tmp} (_hd : o.dst = some N) {xs : List α} {inner : List Value} {ok okp : Nat → Prop}
    (hrun : (execOp a.eval o).run P W = .ok (.value (.slice (some ⟨W.heap.size, 0, none⟩) xs.length xs.length)) (W.alloc (.cells inner.toArray e)))
    (hrep : Reps (d.M W base okp) d.sz xs inner) (hok : ∀ k, okp k → ok k) (hfresh : ok W.heap.size) (HB : Below base w0 W) (hbase : base ≤ W.heap.size) (hm : xs.length ≤ 9223372036854775807)
    (h : ∀ v1 w1, d.R e w1 base ok v1 xs → Below base w0 w1 → W.grownBy w1 none → (∃ b, v1.ownBlock = some b ∧ W.heap.size ≤ b) → wpList P ops Q rest (a.put o.dst v1) w1) : wpList P ops Q (o :: rest) a W := by
  refine event_run hgd hrun (h _ _ ⟨fun k hk => ?_, inner, ?_, ?_⟩ (HB.alloc hbase _) (World.grownBy_alloc W _ none) ⟨W.heap.size, by simp [Value.ownBlock], Nat.le_refl _⟩)
  · have : W.heap.size = k := by simpa [Value.ownBlock] using hk
    subst this
    exact hfresh
  · have h2 := World.ownsRow_lit (base := base) (e := e) (size := d.sz) W inner.toArray xs.length hbase (by simpa [maxLen] using hm) (by simpa using hrep.1)
    simpa using h2
  · refine hrep.imp_ (fun p c hp => d.M_mono (fun k hk => ⟨hok k hk.1, fun he => ?_⟩) (M_below (d.M_bound hp) (below_alloc (Below.refl _ _) _)))
    have h3 : k = W.heap.size := by simpa [Value.ownBlock] using he
    have := hk.2.2.1
    omega
end
end Kd
section
variable {P : Program}
theorem cut_to (t e : TypeId) (kh : IntKind) {i : TypeInfo} (ht : P.underlying t = some (.slice e)) (hi : P.info? e = some i) (A : Option Addr) (n c : Nat) (j : Int) (h0 : 0 ≤ j) (hm : j ≤ n) (hc : n ≤ c) :
    ∀ W : World, (Instr.slice t (.slice A n c) none (some (.int kh j)) none).run P W = .ok (.slice A j.toNat c) W := by
  intro W
  have hel : P.elem t = e := by simp [Program.elem, ht]
  have hu : P.underlying t = some (.slice (P.elem t)) := by rw [hel]; exact ht
  have ha : (A.map fun x => x.add 0) = A := by cases A <;> simp [Addr.add]
  rw [run_slice_h W t A n c hu kh j h0 (by omega), hel]
  simp [sizeOf, typeInfo, hi, sliced, Result.andThen, ha]
end
def QRow (w : World) (base : Nat) (e : TypeId) (size : Nat) (v : Value) (n : Nat) (xs : List Value) : Prop :=
  xs.length = n * size ∧
  ((n = 0 ∧ ∃ A, v = .slice A 0 0 ∧ ∀ a, A = some a → base ≤ a.block ∧ ∃ cur, w.heap[a.block]? = some (.cells cur e (0, 0))) ∨
   ∃ g off cap cur, v = .slice (some ⟨g, off * size, none⟩) n cap ∧ base ≤ g ∧ w.heap[g]? = some (.cells cur e (0, 0)) ∧ n ≤ cap ∧ off + cap ≤ maxLen ∧ cur.size = (off + cap) * size ∧ (cur.toList.drop (off * size)).take (n * size) = xs)
section
variable {w w1 : World} {base n size : Nat} {e : TypeId} {v : Value} {xs : List Value}
end
section
variable {P : Program}
end
namespace Kd
def Q {α : Type} (d : Kd α) (e : Nat) (w : World) (base : Nat) (ok : Nat → Prop) (v : Value) (xs : List α) : Prop :=
  (∀ k, v.ownBlock = some k → ok k) ∧ ∃ inner, QRow w base e d.sz v xs.length inner ∧ Reps (d.M w base (fun k => ok k ∧ some k ≠ v.ownBlock)) d.sz xs inner
section
variable {α : Type} {d : Kd α} {e : Nat} {w w1 W : World} {base : Nat} {ok ok' : Nat → Prop} {v : Value} {xs : List α}
end
section
variable {P : Program} {ops : Array Oper} {rest : List Oper} {o : Oper} {a : Act} {Q' : Exit → Act → World → Prop} {Kc : Act → World → Prop} {α : Type}
end
end Kd
namespace Kd
section
variable {α : Type} {d : Kd α} {e e' : Nat} {w w1 W : World} {base : Nat} {ok : Nat → Prop} {u v : Value} {xs : List α}
theorem R_typed (h : d.R e w base ok v xs) : ∀ k, v.ownBlock = some k → ∃ cells, w.heap[k]? = some (.cells cells e (0, 0)) := by
  obtain ⟨inner, ho⟩ := R_own h
  exact fun k hk => own_typed ho k hk
theorem R_apart' (h : d.R e W base ok u xs) (hty : ∀ k, v.ownBlock = some k → ∃ cells, W.heap[k]? = some (.cells cells e' (0, 0))) (ht : ∀ q, q ∈ e :: d.E → q ≠ e') : d.R e W base (fun k => ok k ∧ some k ≠ v.ownBlock) u xs := by
  refine R_mono (R_bound h) (fun k hk => ⟨hk.1, fun he => ?_⟩)
  obtain ⟨_, _, _, q, hq, cells, hc⟩ := hk
  obtain ⟨cells', hc'⟩ := hty k he.symm
  rw [hc] at hc'
  injection hc' with hc'
  injection hc' with _ hc'
  exact ht q hq hc'
theorem R_elder' (hu : d.R e W base ok u xs) (hbase : ∀ k, v.ownBlock = some k → W.heap.size ≤ k) (hb : Below W.heap.size W w1) : d.R e w1 base (fun k => ok k ∧ some k ≠ v.ownBlock) u xs :=
  R_mono (R_move (R_bound hu) (fun k hk => hb.block k hk.2.2.1)) (fun k hk => ⟨hk.1, fun he => by have := hbase k he.symm; have := hk.2.2.1; omega⟩)
theorem R_new' (h : d.R e w1 W.heap.size ok v xs) (hlt : ∀ k, u.ownBlock = some k → k < W.heap.size) : d.R e w1 W.heap.size (fun k => ok k ∧ some k ≠ u.ownBlock) v xs :=
  R_mono (R_bound h) (fun k hk => ⟨hk.1, fun he => by have := hlt k he.symm; have := hk.2.1; omega⟩)
theorem fresh' (hlt : ∀ k, u.ownBlock = some k → k < W.heap.size) : ∀ k, W.heap.size ≤ k → some k ≠ u.ownBlock := fun k hk he => by have := hlt k he.symm; omega
end
end Kd
namespace Kd
section
variable {α : Type} {d : Kd α} {e base g n cap : Nat} {ok okp : Nat → Prop} {W : World} {xs : List α}
end
end Kd
namespace Kd
section
variable {α : Type} {F : Kd α → Kd α} {sz : Nat} {E : List Nat} {hs : ∀ n, (upto F sz E n).sz = sz} {hE : ∀ n q, q ∈ (upto F sz E n).E → q ∈ E}
end
end Kd
namespace Kd
section
variable {P : Program} {ops : Array Oper} {rest : List Oper} {o : Oper} {a : Act} {Q : Exit → Act → World → Prop} {α : Type}
end
end Kd
namespace Kd
section
variable {P : Program} {ops : Array Oper} {rest : List Oper} {o : Oper} {a : Act} {Q : Exit → Act → World → Prop} {α : Type}
end
end Kd
theorem add_add (a : Addr) (i j : Nat) : (a.add i).add j = a.add (i + j) := by
  unfold Addr.add
  by_cases h1 : i = 0 <;> by_cases h2 : j = 0 <;> simp [h1, h2, Nat.add_assoc]
namespace Kd
section
variable {α : Type} {k : Kd α} {w : World} {A : Option Addr} {xs : List α} {m c : Nat}
theorem C_take (h : k.C w A xs.length xs) (hm : m ≤ xs.length) : k.C w A (xs.take m).length (xs.take m) := by
  have hl : (xs.take m).length = m := by rw [List.length_take]; omega
  refine ⟨rfl, by rw [hl]; have := h.2.1; omega, fun hp => ?_⟩
  obtain ⟨ad, e, hc⟩ := h.2.2 (by omega)
  refine ⟨ad, e, fun j p hj => hc j p ?_⟩
  rw [List.getElem?_take] at hj
  split at hj
  · exact hj
  · cases hj
theorem C_drop (h : k.C w A xs.length xs) (hm : m ≤ xs.length) (hc : xs.length ≤ c) : k.C w (if c = m then A else A.map (·.add (m * k.sz))) (xs.drop m).length (xs.drop m) := by
  have hl : (xs.drop m).length = xs.length - m := List.length_drop
  refine ⟨rfl, by rw [hl]; have := h.2.1; omega, fun hp => ?_⟩
  rw [hl] at hp
  obtain ⟨ad, rfl, hcell⟩ := h.2.2 (by omega)
  rw [if_neg (by omega)]
  refine ⟨ad.add (m * k.sz), rfl, fun j p hj => ?_⟩
  rw [List.getElem?_drop] at hj
  obtain ⟨cs, h1, h2, h3⟩ := hcell (m + j) p hj
  refine ⟨cs, h1, h2, fun i u hu => ?_⟩
  rw [add_add, show m * k.sz + (j * k.sz + i) = (m + j) * k.sz + i by rw [Nat.add_mul]; omega]
  exact h3 i u hu
end
end Kd
section
variable {P : Program}
end
theorem below_size {w W : World} (h : Below w.heap.size w W) : w.heap.size ≤ W.heap.size := h.size
theorem below_step {w W w2 : World} (h : Below w.heap.size w W) (k : Below W.heap.size W w2) : Below w.heap.size w w2 := below_then h h.size k
theorem own_less {W : World} {b base n : Nat} {e : TypeId} {size : Nat} {v : Value} {xs : List Value} (h : W.ownsRow b e size v n xs) (hle : base ≤ b) : W.ownsRow base e size v n xs := by
  obtain ⟨h1, h2⟩ := h
  exact ⟨h1, h2.imp id fun ⟨g, cap, cur, he, hb, hr⟩ => ⟨g, cap, cur, he, Nat.le_trans hle hb, hr⟩⟩
theorem ReadsInt.nil (W : World) (k : IntKind) : ReadsInt W k none ([] : List Int).length [] := ⟨rfl, by simp, fun h => absurd h (Nat.lt_irrefl 0)⟩
theorem ReadsInt.drewN {W : World} {k : IntKind} {A : Option Addr} {n : Nat} {xs : List Int} (h : ReadsInt W k A n xs) (m : Nat) : ReadsInt (W.drewN m) k A n xs := h
theorem below_set {w W : World} {g j : Nat} {v : Value} (h : Below w.heap.size w W) (hg : w.heap.size ≤ g) : Below w.heap.size w (W.setCell ⟨g, j, none⟩ v) := h.setCell hg _
theorem below_weaken {w0 w w1 : World} {B : Nat} (h : Below w0.heap.size w0 w) (hB : w0.heap.size ≤ B) (k : Below B w w1) : Below w0.heap.size w0 w1 :=
  h.trans ⟨k.os, k.tape, k.output, k.size, fun i hi => k.block i (Nat.lt_of_lt_of_le hi hB)⟩
theorem own_base' {w : World} {base : Nat} {e : TypeId} {size n : Nat} {v : Value} {xs : List Value} (h : w.ownsRow base e size v n xs) : v.ownBlock = none ∨ ∃ b, v.ownBlock = some b ∧ base ≤ b := by
  cases hv : v.ownBlock with
  | none => exact .inl rfl
  | some b => exact .inr ⟨b, rfl, own_base h b hv⟩
theorem ReadsOf.nil {α : Type} (enc : α → Value) (d : α) (W : World) : ReadsOf enc d W none ([] : List α).length [] := ⟨rfl, by simp, fun h => absurd h (Nat.lt_irrefl 0)⟩
theorem ReadsOf.drewN {α : Type} {enc : α → Value} {d : α} {W : World} {A : Option Addr} {n : Nat} {xs : List α} (h : ReadsOf enc d W A n xs) (m : Nat) : ReadsOf enc d (W.drewN m) A n xs := h
theorem blk_put {w : World} {g : Nat} {t : TypeId} {cs cs' : Array Value} (h : w.heap[g]? = some (.cells cs t (0, 0))) (i : Nat) (u : Value) (e : cs.setIfInBounds i u = cs') : (w.setCell ⟨g, i, none⟩ u).heap[g]? = some (.cells cs' t (0, 0)) := e ▸ blk_set h i u
theorem below_drew1 {base : Nat} {w W : World} (h : Below base w W) : Below base w W.drew := h.drew
namespace Kd
section
variable {α β : Type} {d : Kd α} {d' : Kd β} {e e' base base' n : Nat} {ok ok' : Nat → Prop} {w W w1 W1 : World} {v u : Value} {xs : List α} {ys : List β} {A : Option Addr} {c : Nat}
end
section
variable {α : Type} {enc : α → Value} {h1 : ∀ x, (enc x).oneCell' = true} {w W : World} {A : Option Addr} {n g : Nat} {xs : List α}
end
end Kd
namespace Kd
section
variable {α : Type} {d : Kd α} {e base g : Nat} {ok : Nat → Prop} {w w1 : World} {v : Value} {xs : List α} {o : Obj}
theorem freshB (hb : w.heap[g]? = some o) : ∀ k, w.heap.size ≤ k → k ≠ g := fun k hk => by have := blk_lt hb; omega
end
end Kd
section
variable {P : Program} {ops : Array Oper} {rest : List Oper} {o : Oper} {a : Act} {Q : Exit → Act → World → Prop}
theorem box_event {W : World} (hgd : o.guard = none) {N : Tmp} (_hd : o.dst = some N) {cs : Array Value} {t : TypeId}
    (hrun : (execOp a.eval o).run P W = .ok (.value (.pointer (some ⟨W.heap.size, 0, none⟩))) (W.alloc (.cells cs t (0, 0))))
    (h : ∀ g, g = W.heap.size → ∀ w1, w1.heap[g]? = some (.cells cs t (0, 0)) → Below W.heap.size W w1 → wpList P ops Q rest (a.put o.dst (.pointer (some ⟨g, 0, none⟩))) w1) : wpList P ops Q (o :: rest) a W :=
  Kd.event_run hgd hrun (h _ rfl _ (blk_new W _) (below_alloc (Below.refl _ _) _))
end
namespace Kd
section
variable {α : Type} {enc : α → Value} {h1 : ∀ x, (enc x).oneCell' = true} {e base g n cap : Nat} {ok : Nat → Prop} {W : World} {xs : List α}
end
end Kd
section
variable {P : Program} {ops : Array Oper} {rest : List Oper} {o : Oper} {a : Act} {Q : Exit → Act → World → Prop}
end
namespace Kd
section
variable {α : Type} {enc : α → Value} {h1 : ∀ x, (enc x).oneCell' = true} {e base g n cap : Nat} {ok : Nat → Prop} {W : World} {xs : List α}
end
end Kd
section
variable {P : Program} {ops : Array Oper} {rest : List Oper} {o : Oper} {a : Act} {Q : Exit → Act → World → Prop} {W : World}
theorem gate_dst {N : Tmp} (_hN : o.dst = some N) (h : wpList P ops Q (o :: rest) a W) : wpList P ops Q (o :: rest) a W := h
end
section
variable {P : Program} {ops : Array Oper} {o : Oper} {a : Act} {Q : Exit → Act → World → Prop} {Kc : Act → World → Prop}
namespace Kd
variable {α : Type}
end Kd
end
section
variable {P : Program} {tmps : Array Value} {w : World}
end
namespace Kd
section
variable {P : Program} {α : Type}
end
section
variable {P : Program} {ops : Array Oper} {rest : List Oper} {o : Oper} {a : Act} {Q : Exit → Act → World → Prop} {Kc : Act → World → Prop} {α : Type}
end
end Kd
end Go.Proofs.YtflolfbkpjgjaaaGreatDoorW.PrintWords
end
section
namespace Go.Proofs.YtflolfbkpjgjaaaGreatDoor
open Go.RowKit Go.Proofs.YtflolfbkpjgjaaaGreatDoorW.PrintWords
structure Trn where
  gate : Int
  clock : Int
  frm : Int
  clock2 : Int
  til : Int
  cost : Int
  deriving DecidableEq
structure Ros where
  gates : Int
  frm : Int
  til : Int
  ahead : List (List Int)
  turns : List Trn
def Trn.z : Trn := ⟨0, 0, 0, 0, 0, 0⟩
def tn (r : Ros) (i : Int) : Trn := r.turns.getD i.toNat Trn.z
def ahd (r : Ros) (a b : Int) : Int := (r.ahead.getD a.toNat []).getD b.toNat 0
def kTrn : Kd Trn := Kd.iso (Kd.pair (Kd.int .i64) (Kd.pair (Kd.int .i64) (Kd.pair (Kd.int .i64) (Kd.pair (Kd.int .i64) (Kd.pair (Kd.int .i64) (Kd.int .i64)))))) (fun x : Trn => (x.gate, x.clock, x.frm, x.clock2, x.til, x.cost))
theorem kTrn_open {w : World} {x : Trn} {cs : List Value} (h : kTrn.K w x cs) : cs = [.int .i64 x.gate, .int .i64 x.clock, .int .i64 x.frm, .int .i64 x.clock2, .int .i64 x.til, .int .i64 x.cost] := by
  obtain ⟨_, _, rfl, rfl, ⟨_, _, rfl, rfl, ⟨_, _, rfl, rfl, ⟨_, _, rfl, rfl, ⟨_, _, rfl, rfl, rfl⟩⟩⟩⟩⟩ := h
  exact rfl
theorem bcell {W w1 : World} (hb : Below W.heap.size W w1) : (∀ p : Addr, p.block < W.heap.size → w1.cell? p = W.cell? p) ∧ (∀ p : Addr, p.block < W.heap.size → w1.frozen? p = W.frozen? p) :=
  ⟨fun p h => hb.cell h, fun p h => hb.frozen h⟩
abbrev CI (w : World) (A : Option Addr) (n : Nat) (xs : List Int) : Prop := Kd.C (Kd.int .i64) w A n xs
abbrev CII (w : World) (A : Option Addr) (n : Nat) (xs : List (List Int)) : Prop := Kd.C (Kd.slice 3 (Kd.int .i64)) w A n xs
abbrev CT (w : World) (A : Option Addr) (n : Nat) (xs : List Trn) : Prop := Kd.C kTrn w A n xs
theorem CI_at {w : World} {A : Option Addr} {n : Nat} {xs : List Int} (h : CI w A n xs) (i : Int) (h0 : 0 ≤ i) (h1 : i < n) :
    ∃ ad, A = some ad ∧ w.cell? (ad.add i.toNat) = some (.int .i64 (xs.getD i.toNat 0)) := by
  obtain ⟨ad, e, hc⟩ := Kd.at_int h i h0 h1
  exact ⟨ad, e, hc⟩
theorem CII_at {w : World} {A : Option Addr} {n : Nat} {xs : List (List Int)} (h : CII w A n xs) (i : Int) (h0 : 0 ≤ i) (h1 : i < n) :
    ∃ ad A0 c0, A = some ad ∧ w.cell? (ad.add i.toNat) = some (.slice A0 (xs.getD i.toNat []).length c0) ∧ (xs.getD i.toNat []).length ≤ c0 ∧ CI w A0 (xs.getD i.toNat []).length (xs.getD i.toNat []) := by
  obtain ⟨ad, c, e, _, hK, hc0⟩ := Kd.C_get h ([] : List Int) i h0 h1
  have hc : ∀ j u, c[j]? = some u → w.cell? (ad.add (i.toNat * 1 + j)) = some u := hc0
  obtain ⟨A0, c0, rfl, l0, g0⟩ := hK
  exact ⟨ad, A0, c0, e, by have hq := hc 0 _ rfl; rwa [Nat.mul_one, Nat.add_zero] at hq, l0, g0⟩
theorem CT_at {w : World} {A : Option Addr} {n : Nat} {xs : List Trn} (h : CT w A n xs) (i : Int) (h0 : 0 ≤ i) (h1 : i < n) :
    ∃ ad, A = some ad ∧ w.cell? (ad.add (i.toNat * 6)) = some (.int .i64 (xs.getD i.toNat Trn.z).gate) ∧
      w.cell? ⟨(ad.add (i.toNat * 6)).block, (ad.add (i.toNat * 6)).off + 1, none⟩ = some (.int .i64 (xs.getD i.toNat Trn.z).clock) ∧
      w.cell? ⟨(ad.add (i.toNat * 6)).block, (ad.add (i.toNat * 6)).off + 2, none⟩ = some (.int .i64 (xs.getD i.toNat Trn.z).frm) ∧
      w.cell? ⟨(ad.add (i.toNat * 6)).block, (ad.add (i.toNat * 6)).off + 3, none⟩ = some (.int .i64 (xs.getD i.toNat Trn.z).clock2) ∧
      w.cell? ⟨(ad.add (i.toNat * 6)).block, (ad.add (i.toNat * 6)).off + 4, none⟩ = some (.int .i64 (xs.getD i.toNat Trn.z).til) ∧
      w.cell? ⟨(ad.add (i.toNat * 6)).block, (ad.add (i.toNat * 6)).off + 5, none⟩ = some (.int .i64 (xs.getD i.toNat Trn.z).cost) := by
  obtain ⟨ad, c, e, _, hK, hc0⟩ := Kd.C_get h Trn.z i h0 h1
  have hc : ∀ j u, c[j]? = some u → w.cell? (ad.add (i.toNat * 6 + j)) = some u := hc0
  obtain rfl := kTrn_open hK
  exact ⟨ad, e, hc 0 _ rfl, by rw [← add_field _ _ 1 (by omega)]; exact hc 1 _ rfl, by rw [← add_field _ _ 2 (by omega)]; exact hc 2 _ rfl, by rw [← add_field _ _ 3 (by omega)]; exact hc 3 _ rfl, by rw [← add_field _ _ 4 (by omega)]; exact hc 4 _ rfl, by rw [← add_field _ _ 5 (by omega)]; exact hc 5 _ rfl⟩
def RosAt (w : World) (v : Value) (r : Ros) : Prop :=
  ∃ A c T d, v = .agg #[.int .i64 r.gates, .int .i64 r.frm, .int .i64 r.til, .slice A r.ahead.length c, .slice T r.turns.length d] ∧
    r.ahead.length ≤ c ∧ r.turns.length ≤ d ∧ CII w A r.ahead.length r.ahead ∧ CT w T r.turns.length r.turns
theorem RosAt.below {w w1 : World} {v : Value} {r : Ros} (h : RosAt w v r) (hb : Below w.heap.size w w1) : RosAt w1 v r := by
  obtain ⟨A, c, T, d, e, h1, h2, h3, h4⟩ := h
  exact ⟨A, c, T, d, e, h1, h2, Kd.C_below h3 hb, Kd.C_below h4 hb⟩
def IntsAt (w : World) (v : Value) (xs : List Int) : Prop := ∃ A c, v = .slice A xs.length c ∧ xs.length ≤ c ∧ CI w A xs.length xs
theorem IntsAt.below {w w1 : World} {v : Value} {xs : List Int} (h : IntsAt w v xs) (hb : Below w.heap.size w w1) : IntsAt w1 v xs := by
  obtain ⟨A, c, e, h1, h3⟩ := h
  exact ⟨A, c, e, h1, Kd.C_below h3 hb⟩
structure Valid (r : Ros) : Prop where
  gates : 1 ≤ r.gates ∧ r.gates ≤ 8
  frm : 0 ≤ r.frm
  frmtil : r.frm < r.til
  til : r.til ≤ 16777216
  clocks : 1 ≤ r.ahead.length ∧ r.ahead.length ≤ 8
  turns : r.turns.length ≤ 24
  row : ∀ a : Int, 0 ≤ a → a < r.ahead.length → (r.ahead.getD a.toNat []).length = r.ahead.length
  zero : ∀ a : Int, 0 ≤ a → a < r.ahead.length → ahd r a a = 0
  bnd : ∀ a b : Int, 0 ≤ a → a < r.ahead.length → 0 ≤ b → b < r.ahead.length → -1048576 ≤ ahd r a b ∧ ahd r a b ≤ 1048576
  tri : ∀ a b c : Int, 0 ≤ a → a < r.ahead.length → 0 ≤ b → b < r.ahead.length → 0 ≤ c → c < r.ahead.length → ahd r a c ≤ ahd r a b + ahd r b c
  turn : ∀ i : Int, 0 ≤ i → i < r.turns.length → (0 ≤ (tn r i).gate ∧ (tn r i).gate < r.gates) ∧ (0 ≤ (tn r i).clock ∧ (tn r i).clock < r.ahead.length) ∧ (0 ≤ (tn r i).clock2 ∧ (tn r i).clock2 < r.ahead.length) ∧
    (0 ≤ (tn r i).frm ∧ (tn r i).frm ≤ 16777216) ∧ (0 ≤ (tn r i).til ∧ (tn r i).til ≤ 16777216) ∧ (0 ≤ (tn r i).cost ∧ (tn r i).cost ≤ 10000)
def begLate (r : Ros) (i : Int) : Int := (tn r i).frm - r.frm + ahd r 0 (tn r i).clock
def endLate (r : Ros) (i : Int) : Int := r.til - (tn r i).til + ahd r (tn r i).clock2 0
def meetLate (r : Ros) (i j : Int) : Int := (tn r j).frm - (tn r i).til + ahd r (tn r i).clock2 (tn r j).clock
def begB (r : Ros) (i : Int) : Bool := decide (begLate r i ≤ 0)
def endB (r : Ros) (i : Int) : Bool := decide (endLate r i ≤ 0)
def folB (r : Ros) (i j : Int) : Bool := decide (i ≠ j) && decide ((tn r i).gate = (tn r j).gate) && decide (meetLate r i j ≤ 0)
end Go.Proofs.YtflolfbkpjgjaaaGreatDoor
end
section
namespace Go.Proofs.YtflolfbkpjgjaaaGreatDoor
open Go.RowKit Go.Proofs.YtflolfbkpjgjaaaGreatDoorW.PrintWords
theorem run_equalIn_array {P : Program} (w : World) (d : Nat) (t elem len n : Nat) (xs ys : Array Value) (ht : P.underlying t = some (.array len elem)) (hs : ∀ w, (sizeOf elem).run P w = .ok n w) (b : Nat → Bool)
    (h : ∀ i, i < len → ∃ x y, (part elem xs (i * n)).run P w = .ok x w ∧ (part elem ys (i * n)).run P w = .ok y w ∧ (Op.equalIn d elem x y).run P w = .ok (b i) w) :
    (Op.equalIn (d + 1) t (.agg xs) (.agg ys)).run P w = .ok ((List.range len).all b) w := by
  simp only [Op.equalIn, Sem.run_bind, run_underlying ht, Result.andThen_ok, hs]
  have key : ∀ (l : List Nat), (∀ i ∈ l, i < len) → ∃ r : Option Bool × Unit, (forIn l ((Option.none, ()) : Option Bool × Unit) fun i r => do
      let a ← part elem xs (i * n)
      let b ← part elem ys (i * n)
      let c ← Op.equalIn d elem a b
      if (!c) = true then pure (ForInStep.done (some false, ())) else pure (ForInStep.yield (Option.none, ()))).run P w = .ok r w ∧ r.fst = if l.all b then Option.none else some false := by
    intro l
    induction l with
    | nil => intro _; exact ⟨(Option.none, ()), by simp, by simp⟩
    | cons i l ih =>
      intro hl
      obtain ⟨x, y, h1, h2, h3⟩ := h i (hl i (List.mem_cons_self ..))
      obtain ⟨r, hr, he⟩ := ih (fun j hj => hl j (List.mem_cons_of_mem _ hj))
      cases hb : b i
      · refine ⟨(some false, ()), ?_, by simp [hb]⟩
        simp [List.forIn_cons, Sem.run_bind, h1, h2, h3, hb]
      · refine ⟨r, ?_, by simp [hb, he]⟩
        simp only [List.forIn_cons, Sem.run_bind, h1, h2, h3, hb, Result.andThen_ok]
        simp only [Bool.not_true, Bool.false_eq_true, if_false, Sem.run_pure, Result.andThen_ok]
        exact hr
  obtain ⟨r, hr, he⟩ := key (List.range' 0 len) (fun i hi => by have := List.mem_range'.1 hi; omega)
  rw [Std.Legacy.Range.forIn_eq_forIn_range']
  simp only [Std.Legacy.Range.size, Nat.sub_zero, Nat.add_sub_cancel, Nat.div_one]
  rw [hr]
  have hall : (List.range' 0 len).all b = (List.range len).all b := by rw [List.range_eq_range']
  rw [hall] at he
  simp only [Result.andThen_ok, he]
  cases (List.range len).all b <;> simp
def ints (m : List Int) : Array Value := (m.map (Value.int .i64)).toArray
theorem size_ints (m : List Int) : (ints m).size = m.length := by simp [ints]
theorem ints_at (m : List Int) (i : Nat) (h : i < m.length) : (ints m)[i]? = some (.int .i64 (m.getD i 0)) := by
  simp [ints, List.getElem?_eq_getElem h, List.getD_eq_getElem?_getD]
theorem run_part114 (w : World) (xs : Array Value) (off : Nat) : (part 114 xs off).run Tryz.prog w = .ok (.agg (xs.extract off (off + 8))) w := by
  have h1 : (isAgg 114).run Tryz.prog w = .ok true w := by kernel_rfl
  have h2 : (sizeOf 114).run Tryz.prog w = .ok 8 w := by kernel_rfl
  simp only [part, Sem.run_bind, h1, Result.andThen_ok, if_true, h2, Sem.run_pure]
theorem run_part3 (w : World) (xs : Array Value) (off : Nat) (v : Value) (h : xs[off]? = some v) : (part 3 xs off).run Tryz.prog w = .ok v w := by
  have h1 : (isAgg 3).run Tryz.prog w = .ok false w := by kernel_rfl
  simp only [part, Sem.run_bind, h1, Result.andThen_ok, Bool.false_eq_true, if_false, h, Sem.run_pure]
theorem eqMat_iff (m m' : List Int) (h : m.length = 64) (h' : m'.length = 64) :
    ((List.range 8).all fun i => (List.range 8).all fun j => m.getD (i * 8 + j) 0 == m'.getD (i * 8 + j) 0) = decide (m = m') := by
  rw [Bool.eq_iff_iff]
  simp only [List.all_eq_true, List.mem_range, beq_iff_eq, decide_eq_true_eq]
  constructor
  · intro hx
    apply List.ext_getElem (by omega)
    intro k h1 h2
    have := hx (k / 8) (by omega) (k % 8) (by omega)
    rw [show k / 8 * 8 + k % 8 = k from by omega] at this
    simpa [List.getD_eq_getElem?_getD, List.getElem?_eq_getElem h1, List.getElem?_eq_getElem h2] using this
  · rintro rfl
    exact fun _ _ _ _ => rfl
theorem ints_part (m : List Int) (i j : Nat) (h : m.length = 64) (hi : i < 8) (hj : j < 8) : ((ints m).extract (i * 8) (i * 8 + 8))[j * 1]? = some (.int .i64 (m.getD (i * 8 + j) 0)) := by
  rw [Nat.mul_one, Array.getElem?_extract_of_lt (by rw [size_ints]; omega)]
  have := ints_at m (i * 8 + j) (by omega)
  rw [Array.getElem?_eq_getElem (by rw [size_ints]; omega)] at this
  exact this
theorem run_equal_mat (w : World) (m m' : List Int) (h : m.length = 64) (h' : m'.length = 64) (d : Nat) :
    (Op.equalIn (d + 3) 116 (.agg (ints m)) (.agg (ints m'))).run Tryz.prog w = .ok (decide (m = m')) w := by
  rw [← eqMat_iff m m' h h']
  exact run_equalIn_array (P := Tryz.prog) w (d + 2) 116 114 8 8 (ints m) (ints m') Tryz.underlying116 (fun w => by kernel_rfl)
    (fun i => (List.range 8).all fun j => m.getD (i * 8 + j) 0 == m'.getD (i * 8 + j) 0)
    (fun i hi => ⟨.agg ((ints m).extract (i * 8) (i * 8 + 8)), .agg ((ints m').extract (i * 8) (i * 8 + 8)), run_part114 w _ _, run_part114 w _ _,
      run_equalIn_array (P := Tryz.prog) w (d + 1) 114 3 8 1 _ _ Tryz.underlying114 (fun w => by kernel_rfl) _ (fun j hj =>
        ⟨.int .i64 (m.getD (i * 8 + j) 0), .int .i64 (m'.getD (i * 8 + j) 0), run_part3 w _ _ _ (ints_part m i j h hi hj), run_part3 w _ _ _ (ints_part m' i j h' hi hj), run_equalIn_int w d 3 .i64 .i64 _ _ Tryz.underlying3⟩)⟩)
theorem run_neq_mat (w : World) (m m' : List Int) (h : m.length = 64) (h' : m'.length = 64) :
    (binOp .neq 116 (.agg (ints m)) (.agg (ints m'))).run Tryz.prog w = .ok (.bool (!decide (m = m'))) w := by
  rw [run_neq_struct, run_equal_mat w m m' h h' 9997]
  rfl
theorem run_storeAt_row {P : Program} (W : World) (ty g : Nat) (t : TypeId) (cur cells : Array Value) (hg : W.heap[g]? = some (.cells cur t (0, 0))) (hsz : cur.size = cells.size) (hi : (P.info? ty).map (·.size) = some cells.size) (h1 : ∀ v ∈ cells.toList, v.oneCell' = true) :
    (Instr.storeAt ty (.pointer (some ⟨g, 0, none⟩)) (.agg cells)).run P W = .ok () (W.setRow g cells) := by
  have hst := run_storeCells_at P g 0 t cells.toList 0 cur W hg (by simp; omega) h1
  have he : (cur.toList.take (0 + 0) ++ cells.toList ++ cur.toList.drop (0 + 0 + cells.toList.length)).toArray = cells := by
    rw [List.drop_of_length_le (by simp; omega)]
    simp
  rw [he] at hst
  cases hq : P.info? ty with
  | none => simp [hq] at hi
  | some i =>
    have hs : cells.size = i.size := by simp [hq] at hi; omega
    simp [Instr.storeAt, Instr.sureAddr, storeVar, sizeOf, typeInfo, hq, Value.cells, hs, hst]
theorem store_row {P : Program} {ops : Array Oper} {rest : List Oper} {o : Oper} {a : Act} {W : World} {Q : Exit → Act → World → Prop} (hgd : o.guard = Option.none) (ty : TypeId) (x y : Operand) (ho : o.op = .store ty x y)
    (g : Nat) (t : TypeId) (cur cells : Array Value) (hx : a.eval x = .pointer (some ⟨g, 0, Option.none⟩)) (hy : a.eval y = .agg cells)
    (hg : W.heap[g]? = some (.cells cur t (0, 0))) (hsz : cur.size = cells.size) (hi : (P.info? ty).map (·.size) = some cells.size) (h1 : ∀ v ∈ cells.toList, v.oneCell' = true)
    (h : wpList P ops Q rest (a.put o.dst undef) (W.setRow g cells)) : wpList P ops Q (o :: rest) a W := by
  refine wpList_plain hgd fun _ hK => ?_
  unfold Oper.wp execOp
  simp only [ho, hx, hy, Sem.run_bind, run_storeAt_row W ty g t cur cells hg hsz hi h1, Result.andThen_ok, Sem.run_pure]
  exact hK _ _ h
theorem ints_one (m : List Int) : ∀ v ∈ (ints m).toList, v.oneCell' = true := by
  intro v hv
  simp [ints] at hv
  obtain ⟨x, _, rfl⟩ := hv
  rfl
theorem ints_set (m : List Int) (i : Nat) (v : Int) : (ints m).setIfInBounds i (.int .i64 v) = ints (m.set i v) := by
  apply Array.ext'
  simp [ints, List.map_set]
end Go.Proofs.YtflolfbkpjgjaaaGreatDoor
end
section
set_option autoImplicit false
namespace Go.Proofs.YtflolfbkpjgjaaaGreatDoor
def w64 (n : Int) : Int := (n + 9223372036854775808) % 18446744073709551616 - 9223372036854775808
def mat (m : List Int) (a c : Nat) : Int := m.getD (a * 8 + c) 0
def stepC (b a : Nat) (m : List Int) (c : Nat) : List Int := m.set (a * 8 + c) (min (mat m a c) (w64 (mat m a b + mat m b c)))
def rowC (n b : Nat) (m : List Int) (a : Nat) : List Int := (List.range n).foldl (stepC b a) m
def roundC (n : Nat) (m : List Int) (b : Nat) : List Int := (List.range n).foldl (rowC n b) m
def closedC (n : Nat) (m : List Int) : List Int := (List.range n).foldl (roundC n) m
def LeM (a b : List Int) : Prop := a.length = b.length ∧ ∀ i, a.getD i 0 ≤ b.getD i 0
theorem LeM.refl (a : List Int) : LeM a a := ⟨rfl, fun _ => Int.le_refl _⟩
theorem LeM.trans {a b c : List Int} (h : LeM a b) (k : LeM b c) : LeM a c := ⟨h.1.trans k.1, fun i => Int.le_trans (h.2 i) (k.2 i)⟩
theorem LeM.antisymm {a b : List Int} (h : LeM a b) (k : LeM b a) : a = b := by
  apply List.ext_getElem h.1
  intro i h1 h2
  have := Int.le_antisymm (h.2 i) (k.2 i)
  simpa [List.getD_eq_getElem?_getD, List.getElem?_eq_getElem h1, List.getElem?_eq_getElem h2] using this
theorem fold_le (f : List Int → Nat → List Int) (hf : ∀ m x, LeM (f m x) m) : ∀ (xs : List Nat) (m : List Int), LeM (xs.foldl f m) m
  | [], m => LeM.refl m
  | x :: xs, m => (fold_le f hf xs (f m x)).trans (hf m x)
theorem fold_fix (f : List Int → Nat → List Int) (hf : ∀ m x, LeM (f m x) m) : ∀ (xs : List Nat) (m : List Int), xs.foldl f m = m → ∀ x ∈ xs, f m x = m
  | [], m, _ => by simp
  | x :: xs, m, h => by
    have h1 : LeM m (f m x) := by
      have := fold_le f hf xs (f m x)
      rw [List.foldl_cons] at h
      rwa [h] at this
    have h2 : f m x = m := (hf m x).antisymm h1
    intro y hy
    rcases List.mem_cons.1 hy with rfl | hy
    · exact h2
    · rw [List.foldl_cons, h2] at h
      exact fold_fix f hf xs m h y hy
theorem fold_same (f : List Int → Nat → List Int) : ∀ (xs : List Nat) (m : List Int), (∀ x ∈ xs, f m x = m) → xs.foldl f m = m
  | [], m, _ => rfl
  | x :: xs, m, h => by
    rw [List.foldl_cons, h x (List.mem_cons_self ..)]
    exact fold_same f xs m (fun y hy => h y (List.mem_cons_of_mem _ hy))
theorem getD_set_int (xs : List Int) (i j : Nat) (v : Int) : (xs.set i v).getD j 0 = if i = j ∧ j < xs.length then v else xs.getD j 0 := by
  simp only [List.getD_eq_getElem?_getD, List.getElem?_set]
  by_cases h : i = j
  · subst h
    by_cases h2 : i < xs.length
    · simp [h2]
    · simp [h2]
  · simp [h]
theorem stepC_le (b a : Nat) (m : List Int) (c : Nat) : LeM (stepC b a m c) m := by
  refine ⟨by simp [stepC], fun i => ?_⟩
  unfold stepC
  rw [getD_set_int]
  split
  · rename_i h
    rw [← h.1]
    exact Int.min_le_left _ _
  · exact Int.le_refl _
theorem rowC_le (n b : Nat) (m : List Int) (a : Nat) : LeM (rowC n b m a) m := fold_le _ (stepC_le b a) _ _
theorem roundC_le (n : Nat) (m : List Int) (b : Nat) : LeM (roundC n m b) m := fold_le _ (rowC_le n b) _ _
theorem closedC_iff (n : Nat) (m : List Int) (hl : m.length = 64) (hn : n ≤ 8) (hb : ∀ i, -1048576 ≤ m.getD i 0 ∧ m.getD i 0 ≤ 1048576) :
    closedC n m = m ↔ ∀ a b c, a < n → b < n → c < n → mat m a c ≤ mat m a b + mat m b c := by
  have hw : ∀ a b c, w64 (mat m a b + mat m b c) = mat m a b + mat m b c := by
    intro a b c
    have h1 := hb (a * 8 + b)
    have h2 := hb (b * 8 + c)
    unfold w64 mat
    omega
  constructor
  · intro h a b c ha hb' hc
    have h1 := fold_fix _ (roundC_le n) _ m h b (List.mem_range.2 hb')
    have h2 := fold_fix _ (rowC_le n b) _ m h1 a (List.mem_range.2 ha)
    have h3 := fold_fix _ (stepC_le b a) _ m h2 c (List.mem_range.2 hc)
    have h4 := congrArg (fun l => l.getD (a * 8 + c) 0) h3
    simp only [stepC] at h4
    rw [getD_set_int, if_pos ⟨rfl, by omega⟩, hw a b c] at h4
    unfold mat at h4 ⊢
    omega
  · intro h
    refine fold_same _ _ m fun b hb' => fold_same _ _ m fun a ha => fold_same _ _ m fun c hc => ?_
    have hb' := List.mem_range.1 hb'
    have ha := List.mem_range.1 ha
    have hc := List.mem_range.1 hc
    have h1 := h a b c ha hb' hc
    unfold stepC
    rw [hw a b c, Int.min_eq_left h1]
    apply List.ext_getElem?
    intro i
    rw [List.getElem?_set]
    split
    · rename_i e
      subst e
      rw [if_pos (by omega), List.getElem?_eq_getElem (show a * 8 + c < m.length by omega)]
      simp [mat, List.getD_eq_getElem?_getD, List.getElem?_eq_getElem (show a * 8 + c < m.length by omega)]
    · rfl
end Go.Proofs.YtflolfbkpjgjaaaGreatDoor
end
section
namespace Go.Proofs.YtflolfbkpjgjaaaGreatDoorW.PrintLast
section
variable {P : Program} {ops : Array Oper} {Q : Exit → Act → World → Prop} {md : Region.Mode} {S : World → Prop} {ds : List Nat}
def ListedClosed (md : Region.Mode) (ops : Array Oper) (listed : Array Bool) : Prop :=
  ∀ j oj, ops[j]? = some oj → listed.getD j false = true → ∀ e ∈ oj.after, Region.binds md e = true → listed.getD e.on false = true
theorem ListedClosed.set {listed : Array Bool} {i : Nat} (h : ListedClosed md ops listed) (hi : i ∈ Region.ready md ops listed) : ListedClosed md ops (listed.setIfInBounds i true) := by
  obtain ⟨_, oi, hoi, hall⟩ := mem_ready.1 hi
  intro j oj hj hl e he hb
  by_cases hij : i = j
  · subst hij
    have : oj = oi := Option.some.inj (hj.symm.trans hoi)
    subst this
    exact getD_set_true (hall e he hb)
  · rw [getD_set_ne false hij] at hl
    exact getD_set_true (h j oj hj hl e he hb)
def wpAnyLast (P : Program) (md : Region.Mode) (ops : Array Oper) (Q : Exit → Act → World → Prop) (S : World → Prop) (ds : List Nat) : Nat → Array Bool → Act → World → Prop
  | 0, listed, a, w => Region.ready md ops listed = [] ∧ Q .normal a w
  | fuel + 1, listed, a, w =>
    (Region.ready md ops listed = [] → Q .normal a w) ∧
    ∀ i ∈ Region.ready md ops listed, wpOp P ops Q i (fun a' w' => (i ∉ ds → S w → S w') ∧ wpAnyLast P md ops Q S ds fuel (listed.setIfInBounds i true) a' w') a w
end
section
variable {P : Program} {ops : Array Oper} {Q : Exit → Act → World → Prop} {md : Region.Mode} {S : World → Prop} {ds : List Nat}
def AllReadyL (P : Program) (md : Region.Mode) (ops : Array Oper) (Q : Exit → Act → World → Prop) (S : World → Prop) (ds : List Nat) (fuel : Nat) (listed : Array Bool) (a : Act) (w : World) (rs : List Nat) : Prop :=
  ∀ i ∈ rs, wpOp P ops Q i (fun a' w' => (i ∉ ds → S w → S w') ∧ wpAnyLast P md ops Q S ds fuel (listed.setIfInBounds i true) a' w') a w
theorem AllReadyL.nil {fuel : Nat} {listed : Array Bool} {a : Act} {w : World} : AllReadyL P md ops Q S ds fuel listed a w [] := fun _ h => by cases h
theorem AllReadyL.cons {fuel : Nat} {listed : Array Bool} {a : Act} {w : World} {i : Nat} {o : Oper} {rs : List Nat} (ho : ops[i]? = some o) (hd : i ∉ ds)
    (h : ∀ K' : Act → World → Prop, Shut (∀ a w, S w → (S w → wpAnyLast P md ops Q S ds fuel (listed.setIfInBounds i true) a w) → K' a w) → if Region.wanted o (yielded ops a.tmps) = true then Oper.wp P o a w K' Q else K' (a.put o.dst undef) w)
    (hs : AllReadyL P md ops Q S ds fuel listed a w rs) : AllReadyL P md ops Q S ds fuel listed a w (i :: rs) := fun j hj => by
  rcases List.mem_cons.1 hj with rfl | hj
  · exact wpOp_step ho (fun K' hK => h K' (fun a w hS hW => hK a w ⟨fun _ _ => hS, hW hS⟩))
  · exact hs j hj
end
end Go.Proofs.YtflolfbkpjgjaaaGreatDoorW.PrintLast
end
section
namespace Go.Proofs.YtflolfbkpjgjaaaGreatDoorW.PrintWords
open Go.RowKit
namespace Kd
def tag {α : Type} (f : Nat → Nat) (d : Kd α) : Kd (α × Nat) where
  sz := d.sz
  E := d.E
  K := fun w x cs => d.K w x.1 cs
  M := fun w base ok x cs => d.M w base (fun k => ok k ∧ f k = x.2) x.1 cs
  K_len := fun h => d.K_len h
  K_one := fun h => d.K_one h
  K_below := fun hb h => d.K_below hb h
  K_of_M := fun h => d.K_of_M h
  M_mono := fun hok h => d.M_mono (fun k hk => ⟨hok k hk.1, hk.2⟩) h
  M_bound := fun h => d.M_mono (fun _ hk => ⟨⟨hk.1.1, hk.2⟩, hk.1.2⟩) (d.M_bound h)
  M_move := fun hm h => d.M_move (fun k hk => hm k hk.1) h
  M_lower := fun hb h => d.M_lower hb h
def raw (sz : Nat) : Kd (List Value) where
  sz := sz
  E := []
  K := fun _ x cs => cs = x ∧ cs.length = sz ∧ ∀ u ∈ cs, u.oneCell' = true
  M := fun _ _ _ x cs => cs = x ∧ cs.length = sz ∧ ∀ u ∈ cs, u.oneCell' = true
  K_len := fun h => h.2.1
  K_one := fun h => h.2.2
  K_below := fun _ h => h
  K_of_M := fun h => h
  M_mono := fun _ h => h
  M_bound := fun h => h
  M_move := fun _ h => h
  M_lower := fun _ h => h
def S {α : Type} (d : Kd α) (e : Nat) (w : World) (base : Nat) (ok : Nat → Prop) (v : Value) (xs : List α) : Prop := ∃ f, (tag f d).R e w base ok v xs.zipIdx
section
variable {α β : Type} {d : Kd α} {d' : Kd β} {e e' : Nat} {w w1 W : World} {base b : Nat} {ok ok' okv oku : Nat → Prop} {u v : Value} {xs : List α} {ys : List β}
theorem R_tight (hE : d.E = []) (h : d.R e w base ok v xs) : d.R e w base (fun k => some k = v.ownBlock) v xs := by
  obtain ⟨h0, inner, ho, hr⟩ := h
  refine ⟨fun k hk => hk.symm, inner, ho, hr.imp_ (fun p c hp => d.M_mono (fun k hk => ?_) (d.M_bound hp))⟩
  obtain ⟨_, _, _, q, hq, _⟩ := hk
  rw [hE] at hq
  cases hq
end
section
variable {α β : Type} {d : Kd α} {d' : Kd β} {e e' g : Nat} {w w1 W : World} {base b : Nat} {ok ok' okv oku : Nat → Prop} {u v : Value} {xs : List α} {ys : List β}
end
section
variable {P : Program} {ops : Array Oper} {rest : List Oper} {o : Oper} {a : Act} {Q : Exit → Act → World → Prop} {Kc : Act → World → Prop} {α : Type}
end
def gap {α : Type} (f : Nat → Nat) (d : Kd α) (i : Nat) (c : List Value) : Kd (α × Nat) where
  sz := d.sz
  E := d.E
  K := fun w x cs => (x.2 = i → cs = c ∧ cs.length = d.sz ∧ ∀ u ∈ cs, u.oneCell' = true) ∧ (x.2 ≠ i → d.K w x.1 cs)
  M := fun w base ok x cs => (x.2 = i → cs = c ∧ cs.length = d.sz ∧ ∀ u ∈ cs, u.oneCell' = true) ∧ (x.2 ≠ i → d.M w base (fun k => ok k ∧ f k = x.2) x.1 cs)
  K_len := fun {w x cs} h => by
    by_cases hx : x.2 = i
    · exact (h.1 hx).2.1
    · exact d.K_len (h.2 hx)
  K_one := fun {w x cs} h => by
    by_cases hx : x.2 = i
    · exact (h.1 hx).2.2
    · exact d.K_one (h.2 hx)
  K_below := fun hb h => ⟨h.1, fun hx => d.K_below hb (h.2 hx)⟩
  K_of_M := fun h => ⟨h.1, fun hx => d.K_of_M (h.2 hx)⟩
  M_mono := fun hok h => ⟨h.1, fun hx => d.M_mono (fun k hk => ⟨hok k hk.1, hk.2⟩) (h.2 hx)⟩
  M_bound := fun h => ⟨h.1, fun hx => d.M_mono (fun _ hk => ⟨⟨hk.1.1, hk.2⟩, hk.1.2⟩) (d.M_bound (h.2 hx))⟩
  M_move := fun hm h => ⟨h.1, fun hx => d.M_move (fun k hk => hm k hk.1) (h.2 hx)⟩
  M_lower := fun hb h => ⟨h.1, fun hx => d.M_lower hb (h.2 hx)⟩
def H {α : Type} (d : Kd α) (e : Nat) (w : World) (base : Nat) (ok : Nat → Prop) (v : Value) (xs : List α) (i : Int) (oki : Nat → Prop) (c : List Value) : Prop :=
  (∀ k, oki k → ok k) ∧ ∃ f, (gap f d i.toNat c).R e w base (fun k => ok k ∧ ¬ oki k) v xs.zipIdx
section
variable {α β : Type} {d : Kd α} {e e' g n cap : Nat} {w w1 W : World} {base : Nat} {ok ok' oki okp : Nat → Prop} {u v : Value} {xs : List α} {i : Int} {c : List Value}
end
section
variable {P : Program} {ops : Array Oper} {rest : List Oper} {o : Oper} {a : Act} {Q : Exit → Act → World → Prop} {α : Type}
end
end Kd
end Go.Proofs.YtflolfbkpjgjaaaGreatDoorW.PrintWords
end
section
namespace Go.Proofs.YtflolfbkpjgjaaaGreatDoorW.PrintWords
open Go.RowKit
namespace Kd
structure Heap {α : Type} (d : Kd α) : Prop where
  K : ∀ {w w1 : World} {x : α} {cs : List Value}, (∀ k, k < w.heap.size → w1.heap[k]? = w.heap[k]?) → d.K w x cs → d.K w1 x cs
theorem cell_heap {w w1 : World} (hb : ∀ k, k < w.heap.size → w1.heap[k]? = w.heap[k]?) {a : Addr} {v : Value} (h : w.cell? a = some v) : w1.cell? a = some v := by
  have := hb a.block (World.block_lt_of_cell? w a h)
  simpa [World.cell?, this] using h
theorem Heap.C {α : Type} {d : Kd α} (hd : Heap d) {w w1 : World} {A : Option Addr} {n : Nat} {xs : List α} (hb : ∀ k, k < w.heap.size → w1.heap[k]? = w.heap[k]?) (h : d.C w A n xs) : d.C w1 A n xs :=
  ⟨h.1, h.2.1, fun hn => by
    obtain ⟨ad, e, hc⟩ := h.2.2 hn
    refine ⟨ad, e, fun j p hj => ?_⟩
    obtain ⟨c, hs, hr, hcell⟩ := hc j p hj
    exact ⟨c, hs, hd.K hb hr, fun i u hu => cell_heap hb (hcell i u hu)⟩⟩
section
variable {α : Type} {d : Kd α} {e base g n c : Nat} {ok : Nat → Prop} {w w0 W : World} {A : Option Addr} {xs : List α}
end
end Kd
end Go.Proofs.YtflolfbkpjgjaaaGreatDoorW.PrintWords
end
section
namespace Go.Proofs.YtflolfbkpjgjaaaGreatDoorW.PrintWords
open Go.RowKit
def Kept (w W : World) (S : Nat → Prop) : Prop := w.heap.size ≤ W.heap.size ∧ ∀ i, i < w.heap.size → ¬ S i → W.heap[i]? = w.heap[i]?
section
variable {w W W2 : World} {S S2 S' : Nat → Prop}
theorem Kept.refl (w : World) (S : Nat → Prop) : Kept w w S := ⟨Nat.le_refl _, fun _ _ _ => rfl⟩
theorem Kept.of_below (h : Below w.heap.size w W) (S : Nat → Prop) : Kept w W S := ⟨h.size, fun i hi _ => h.block i hi⟩
theorem Kept.mono (h : Kept w W S) (hs : ∀ k, S k → S' k) : Kept w W S' := ⟨h.1, fun i hi hn => h.2 i hi (fun hk => hn (hs i hk))⟩
theorem Kept.then_ (h : Kept w W S) (k : Kept W W2 S2) (hs : ∀ k, S2 k → S k ∨ w.heap.size ≤ k) : Kept w W2 S :=
  ⟨Nat.le_trans h.1 k.1, fun i hi hn => (k.2 i (Nat.lt_of_lt_of_le hi h.1) (fun h2 => (hs i h2).elim hn (fun h3 => by omega))).trans (h.2 i hi hn)⟩
theorem Kept.of_grown {row : Option Nat} (hg : W.grownBy W2 row) (h : Kept w W S) (hr : ∀ k, row = some k → S k ∨ w.heap.size ≤ k) : Kept w W2 S :=
  h.then_ (S2 := fun k => row = some k) ⟨hg.size, fun i hi hn => hg.block i hi (fun he => hn he.symm)⟩ hr
theorem Kept.below (h : Kept w W S) (hb : Below W.heap.size W W2) : Kept w W2 S := h.then_ (Kept.of_below hb (fun _ => False)) (fun _ hk => hk.elim)
theorem Kept.alloc (h : Kept w W S) (o : Obj) : Kept w (W.alloc o) S := h.below (below_alloc (Below.refl _ _) o)
theorem Kept.drew (h : Kept w W S) : Kept w W.drew S := h
theorem Kept.drewN (h : Kept w W S) (m : Nat) : Kept w (W.drewN m) S := h
theorem Kept.setCell (h : Kept w W S) {p : Addr} (hp : S p.block ∨ w.heap.size ≤ p.block) (u : Value) : Kept w (W.setCell p u) S :=
  h.then_ (S2 := fun k => k = p.block) ⟨by simp [World.setCell], fun i _ hn => Below.heap_setCell W p u i hn⟩ (fun k hk => by rw [hk]; exact hp)
theorem blk_kept {g : Nat} {o : Obj} (hb : W.heap[g]? = some o) (hk : Kept W W2 S) (hne : ¬ S g) : W2.heap[g]? = some o := (hk.2 g (blk_lt hb) hne).trans hb
theorem cell_kept {a : Addr} {v : Value} (hc : W.cell? a = some v) (hk : Kept W W2 S) (hne : ¬ S a.block) : W2.cell? a = some v := by
  have := hk.2 a.block (World.block_lt_of_cell? W a hc) hne
  simpa [World.cell?, this] using hc
end
namespace Kd
section
variable {α : Type} {d : Kd α} {e base n c : Nat} {ok oki S S2 : Nat → Prop} {w w0 W W1 W2 : World} {v : Value} {A : Option Addr} {xs : List α} {i : Int} {cs : List Value}
end
end Kd
end Go.Proofs.YtflolfbkpjgjaaaGreatDoorW.PrintWords
end
section
namespace Go.Proofs.YtflolfbkpjgjaaaGreatDoorW.PrintWords
open Go.RowKit
def Foot (P : World → Prop) (W : World) (ok : Nat → Prop) : Prop := ∀ W' : World, (∀ k, ok k → k < W.heap.size → W'.heap[k]? = W.heap[k]?) → P W'
theorem heap_lt {W W1 : World} {k : Nat} (h : W1.heap[k]? = W.heap[k]?) (hlt : k < W.heap.size) : k < W1.heap.size := by
  rw [Array.getElem?_eq_getElem hlt] at h
  exact (Array.getElem?_eq_some_iff.1 h).1
namespace Foot
variable {P Q : World → Prop} {W W1 : World} {ok ok' : Nat → Prop}
theorem now (h : Foot P W ok) : P W := h W (fun _ _ _ => rfl)
theorem mono (h : Foot P W ok) (hok : ∀ k, ok k → ok' k) : Foot P W ok' := fun W' hW => h W' (fun k hk hlt => hW k (hok k hk) hlt)
theorem bound (h : Foot P W ok) : Foot P W (fun k => ok k ∧ k < W.heap.size) := fun W' hW => h W' (fun k hk hlt => hW k ⟨hk, hlt⟩ hlt)
theorem step (h : Foot P W ok) (hm : ∀ k, ok k → k < W.heap.size → W1.heap[k]? = W.heap[k]?) : Foot P W1 ok := fun W' hW => h W' (fun k hk hlt => (hW k hk (heap_lt (hm k hk hlt) hlt)).trans (hm k hk hlt))
theorem imp (h : Foot P W ok) (hi : ∀ W', P W' → Q W') : Foot Q W ok := fun W' hW => hi W' (h W' hW)
end Foot
namespace Kd
def F {α : Type} (d : Kd α) (W : World) (ok : Nat → Prop) (A : Option Addr) (n : Nat) (xs : List α) : Prop := Foot (fun W => d.C W A n xs) W ok
def FK {α : Type} (d : Kd α) (W : World) (ok : Nat → Prop) (x : α) (c : List Value) : Prop := Foot (fun W => d.K W x c) W ok
section
variable {α β : Type} {d : Kd α} {e base n n' cc g N : Nat} {ok ok' okp S : Nat → Prop} {w w0 w1 W W1 : World} {A A' : Option Addr} {u v v1 : Value} {xs : List α} {xs' : List β} {d' : Kd β} {x : α} {c : List Value}
theorem F_now (h : F d W ok A n xs) : d.C W A n xs := Foot.now h
theorem F_mono (h : F d W ok A n xs) (hok : ∀ k, ok k → ok' k) : F d W ok' A n xs := Foot.mono h hok
theorem F_step (h : F d W ok A n xs) (hm : ∀ k, ok k → k < W.heap.size → W1.heap[k]? = W.heap[k]?) : F d W1 ok A n xs := Foot.step h hm
theorem F_imp (h : F d W ok A n xs) (hi : ∀ W', d.C W' A n xs → d'.C W' A' n' xs') : F d' W ok A' n' xs' := Foot.imp h hi
theorem F_below (h : F d W ok A n xs) (hb : Below W.heap.size W W1) : F d W1 ok A n xs := F_step h (fun k _ hlt => hb.block k hlt)
theorem F_alloc (h : F d W ok A n xs) (o : Obj) : F d (W.alloc o) ok A n xs := F_below h (below_alloc (Below.refl _ _) o)
theorem F_drew (h : F d W ok A n xs) : F d W.drew ok A n xs := F_below h (below_drew (Below.refl _ _))
theorem F_drewN (h : F d W ok A n xs) (m : Nat) : F d (W.drewN m) ok A n xs := F_below h (pw_below_drewN (Below.refl _ _) m)
theorem F_far (h : F d W ok A n xs) {p : Addr} (hok : ∀ k, ok k → k ≠ p.block) (u : Value) : F d (W.setCell p u) ok A n xs := F_step h (fun k hk _ => Below.heap_setCell W p u k (hok k hk))
theorem R_F (h : d.R e W base ok (.slice A n cc) xs) : F d W ok A n xs := fun W' hW => by
  have h2 := R_reads' (R_step h hW)
  rw [h2.1]
  exact h2.2.2
theorem FK_now (h : FK d W ok x c) : d.K W x c := Foot.now h
theorem FK_mono (h : FK d W ok x c) (hok : ∀ k, ok k → ok' k) : FK d W ok' x c := Foot.mono h hok
theorem FK_bound (h : FK d W ok x c) : FK d W (fun k => ok k ∧ k < W.heap.size) x c := Foot.bound h
theorem FK_step (h : FK d W ok x c) (hm : ∀ k, ok k → k < W.heap.size → W1.heap[k]? = W.heap[k]?) : FK d W1 ok x c := Foot.step h hm
end
end Kd
end Go.Proofs.YtflolfbkpjgjaaaGreatDoorW.PrintWords
end
section
namespace Go.Proofs.YtflolfbkpjgjaaaGreatDoorW.PrintWords
open Go.RowKit
namespace Kd
def chunks (sz : Nat) (n : Nat) (inner : List Value) : List (List Value) := (List.range n).map fun j => (inner.drop (j * sz)).take sz
theorem chunks_length (sz n : Nat) (inner : List Value) : (chunks sz n inner).length = n := by simp [chunks]
theorem chunks_at {sz n : Nat} {inner : List Value} {j : Nat} (hj : j < n) : (chunks sz n inner)[j]? = some ((inner.drop (j * sz)).take sz) := by simp [chunks, hj]
theorem chunks_get {sz n : Nat} {inner : List Value} {j : Nat} {c : List Value} (h : (chunks sz n inner)[j]? = some c) : c = (inner.drop (j * sz)).take sz := by
  have hj : j < n := by have := (List.getElem?_eq_some_iff.1 h).1; rwa [chunks_length] at this
  rw [chunks_at hj] at h
  injection h with h
  exact h.symm
theorem reps_raw {α : Type} {Rr : α → List Value → Prop} {sz : Nat} {xs : List α} {inner : List Value} (h : Reps Rr sz xs inner) (hR : ∀ x c, Rr x c → c.length = sz ∧ ∀ u ∈ c, u.oneCell' = true) : Reps (fun x cs => cs = x ∧ cs.length = sz ∧ ∀ u ∈ cs, u.oneCell' = true) sz (chunks sz xs.length inner) inner := by
  refine ⟨by rw [chunks_length]; exact h.1, fun j p hj => ?_⟩
  have hjl : j < xs.length := by have := (List.getElem?_eq_some_iff.1 hj).1; rwa [chunks_length] at this
  have hp := chunks_get hj
  exact ⟨hp.symm, hR _ _ (h.2 j _ (List.getElem?_eq_getElem hjl))⟩
section
variable {α : Type} {d : Kd α} {e base n cc g : Nat} {ok ok' okp S : Nat → Prop} {w w1 W W1 : World} {A : Option Addr} {u v v1 : Value} {xs : List α} {x : α} {c : List Value}
def N {α : Type} (d : Kd α) (e : Nat) (w : World) (base : Nat) (ok : Nat → Prop) (v : Value) (xs : List α) : Prop :=
  (∀ k, v.ownBlock = some k → ok k) ∧ ∃ rows : List (List Value), rows.length = xs.length ∧ (raw d.sz).R e w base (fun k => some k = v.ownBlock) v rows ∧ ∀ (j : Nat) (x : α) (c : List Value), xs[j]? = some x → rows[j]? = some c → FK d w (fun k => ok k ∧ some k ≠ v.ownBlock) x c
theorem raw_tight {sz : Nat} {rows : List (List Value)} (h : (raw sz).R e w base ok v rows) : (raw sz).R e w base (fun k => some k = v.ownBlock) v rows := R_tight rfl h
theorem N_mono (h : N d e w base ok v xs) (hok : ∀ k, ok k → ok' k) : N d e w base ok' v xs := by
  obtain ⟨h0, rows, hl, hR, hf⟩ := h
  exact ⟨fun k hk => hok k (h0 k hk), rows, hl, hR, fun j x c hx hc => FK_mono (hf j x c hx hc) (fun k hk => ⟨hok k hk.1, hk.2⟩)⟩
theorem N_typed (h : N d e w base ok v xs) : ∀ k, v.ownBlock = some k → ∃ cells, w.heap[k]? = some (.cells cells e (0, 0)) := by
  obtain ⟨_, rows, _, hR, _⟩ := h
  exact R_typed hR
theorem N_lower {base' : Nat} (h : N d e w base ok v xs) (hb : base' ≤ base) : N d e w base' ok v xs := by
  obtain ⟨h0, rows, hl, hR, hf⟩ := h
  exact ⟨h0, rows, hl, R_lower hR hb, hf⟩
theorem N_step (h : N d e w base ok v xs) (hm : ∀ k, ok k → k < w.heap.size → w1.heap[k]? = w.heap[k]?) : N d e w1 base ok v xs := by
  obtain ⟨h0, rows, hl, hR, hf⟩ := h
  exact ⟨h0, rows, hl, R_step hR (fun k hk hlt => hm k (h0 k hk.symm) hlt), fun j x c hx hc => FK_step (hf j x c hx hc) (fun k hk hlt => hm k hk.1 hlt)⟩
theorem N_below (h : N d e w base ok v xs) (hb : Below w.heap.size w w1) : N d e w1 base ok v xs := N_step h (fun k _ hk => hb.block k hk)
theorem N_alloc (h : N d e w base ok v xs) (o : Obj) : N d e (w.alloc o) base ok v xs := N_below h (below_alloc (Below.refl _ _) o)
theorem N_drew (h : N d e w base ok v xs) : N d e w.drew base ok v xs := N_below h (below_drew (Below.refl _ _))
theorem N_drewN (h : N d e w base ok v xs) (m : Nat) : N d e (w.drewN m) base ok v xs := N_below h (pw_below_drewN (Below.refl _ _) m)
theorem N_far (h : N d e w base ok v xs) {p : Addr} (hok : ∀ k, ok k → k ≠ p.block) (u : Value) : N d e (w.setCell p u) base ok v xs := N_step h (fun k ho _ => Below.heap_setCell w p u k (hok k ho))
theorem N_slice (h : N d e w base ok v xs) : ∃ A c, v = .slice A xs.length c := by
  obtain ⟨_, rows, hl, hR, _⟩ := h
  obtain ⟨A, c, he⟩ := R_slice hR
  exact ⟨A, c, by rw [he, hl]⟩
theorem N_reads' {n c : Nat} (h : N d e w base ok (.slice A n c) xs) : n = xs.length ∧ n ≤ c ∧ d.C w A xs.length xs := by
  obtain ⟨_, rows, hl, hR, hf⟩ := h
  obtain ⟨hn, hc, hC⟩ := R_reads' hR
  refine ⟨by omega, hc, ?_⟩
  rw [hl] at hC
  refine ⟨rfl, hC.2.1, fun hp => ?_⟩
  obtain ⟨ad, he, hcell⟩ := hC.2.2 hp
  refine ⟨ad, he, fun j p hj => ?_⟩
  have hjl : j < rows.length := by have := (List.getElem?_eq_some_iff.1 hj).1; omega
  obtain ⟨c', hcl, hK, hcc⟩ := hcell j _ (List.getElem?_eq_getElem hjl)
  have hk := FK_now (hf j p _ hj (List.getElem?_eq_getElem hjl))
  refine ⟨c', hcl, ?_, hcc⟩
  rw [show c' = rows[j] from hK.1]
  exact hk
theorem N_reads (h : N d e w base ok v xs) : ∃ A c, v = .slice A xs.length c ∧ xs.length ≤ c ∧ d.C w A xs.length xs := by
  obtain ⟨A, c, rfl⟩ := N_slice h
  exact ⟨A, c, rfl, (N_reads' h).2⟩
end
end Kd
end Go.Proofs.YtflolfbkpjgjaaaGreatDoorW.PrintWords
end
section
namespace Go.Proofs.YtflolfbkpjgjaaaGreatDoorW.PrintWords
open Go.RowKit
namespace Kd
section
variable {α : Type} {d : Kd α} {e base n cap g : Nat} {ok ok' okp : Nat → Prop} {w w1 W : World} {v v1 : Value} {xs ys : List α}
theorem N_made {rows : List (List Value)} (hR : (raw d.sz).R e w1 base (fun k => k = W.heap.size) v1 rows) (hg : W.grownBy w1 none) (hat : ∃ b, v1.ownBlock = some b ∧ W.heap.size ≤ b) (hl : rows.length = xs.length) (hf : ∀ (j : Nat) (x : α) (c : List Value), xs[j]? = some x → rows[j]? = some c → FK d W okp x c)
    (hok : ∀ k, okp k → ok k) (hfresh : ok W.heap.size) : N d e w1 base ok v1 xs := by
  obtain ⟨b, hb, hle⟩ := hat
  refine ⟨fun k hk => by rw [hR.1 k hk]; exact hfresh, rows, hl, raw_tight hR, fun j x c hx hc => ?_⟩
  refine FK_mono (FK_step (FK_bound (hf j x c hx hc)) (fun k hk hlt => hg.block k hlt (by simp))) (fun k hk => ⟨hok k hk.1, fun he => ?_⟩)
  rw [hb] at he
  injection he with he
  have := hk.2
  omega
end
section
variable {P : Program} {ops : Array Oper} {rest : List Oper} {o : Oper} {a : Act} {Q : Exit → Act → World → Prop} {Kc : Act → World → Prop} {α : Type}
theorem N_lit (d : Kd α) {w0 W : World} (base e : Nat) (hgd : o.guard = none) {N' : Tmp} (_hd : o.dst = some N') {xs : List α} {inner : List Value} {ok okp : Nat → Prop}
    (hrun : (execOp a.eval o).run P W = .ok (.value (.slice (some ⟨W.heap.size, 0, none⟩) xs.length xs.length)) (W.alloc (.cells inner.toArray e)))
    (hrep : Reps (FK d W okp) d.sz xs inner) (hok : ∀ k, okp k → ok k) (hfresh : ok W.heap.size) (HB : Below base w0 W) (hbase : base ≤ W.heap.size) (hm : xs.length ≤ 9223372036854775807)
    (h : ∀ v1 w1, N d e w1 base ok v1 xs → Below base w0 w1 → W.grownBy w1 none → (∃ b, v1.ownBlock = some b ∧ W.heap.size ≤ b) → wpList P ops Q rest (a.put o.dst v1) w1) :
    wpList P ops Q (o :: rest) a W := by
  refine R_lit (raw d.sz) base e hgd _hd (xs := chunks d.sz xs.length inner) (inner := inner) (ok := fun k => k = W.heap.size) (okp := fun _ => False) (by rw [chunks_length]; exact hrun) (reps_raw hrep (fun y c hk => ⟨d.K_len (FK_now hk), d.K_one (FK_now hk)⟩)) (fun _ hk => hk.elim) rfl HB hbase (by rw [chunks_length]; exact hm) ?_
  intro v1 w1 hr hb hg hat
  exact h v1 w1 (N_made hr hg hat (chunks_length _ _ _) (fun j y c hy hc => by rw [chunks_get hc]; exact hrep.2 j y hy) hok hfresh) hb hg hat
end
end Kd
end Go.Proofs.YtflolfbkpjgjaaaGreatDoorW.PrintWords
end
section
namespace Go.Proofs.YtflolfbkpjgjaaaGreatDoorW.PrintMore
open Go.RowKit Go.Proofs.YtflolfbkpjgjaaaGreatDoorW.PrintWords
namespace Kd
open Go.Proofs.YtflolfbkpjgjaaaGreatDoorW.PrintWords.Kd
end Kd
namespace Kd
open Go.Proofs.YtflolfbkpjgjaaaGreatDoorW.PrintWords.Kd
section
variable {α : Type} {d : Kd α} {e base g N : Nat} {ok : Nat → Prop} {W w1 : World} {u v : Value} {xs : List α}
end
end Kd
theorem max2_int (k k' : IntKind) (x y : Int) : Builtin.max2 (.int k x) (.int k' y) = pure (.int k (if x < y then y else x)) := by simp only [Builtin.max2, gt_iff_lt]
theorem min2_int (k k' : IntKind) (x y : Int) : Builtin.min2 (.int k x) (.int k' y) = pure (.int k (if y < x then y else x)) := by simp only [Builtin.min2]
theorem max_two (ats : Array TypeId) (ty : TypeId) (a b : Value) : Builtin.max_ ats ty #[a, b] = (Builtin.max2 a b >>= fun s => pure s) := by simp only [Builtin.max_, List.foldlM_cons, List.foldlM_nil]
theorem min_two (ats : Array TypeId) (ty : TypeId) (a b : Value) : Builtin.min_ ats ty #[a, b] = (Builtin.min2 a b >>= fun s => pure s) := by simp only [Builtin.min_, List.foldlM_cons, List.foldlM_nil]
theorem max_three (ats : Array TypeId) (ty : TypeId) (a b c : Value) : Builtin.max_ ats ty #[a, b, c] = (Builtin.max2 a b >>= fun s => Builtin.max2 s c >>= fun s => pure s) := by simp only [Builtin.max_, List.foldlM_cons, List.foldlM_nil]
theorem min_three (ats : Array TypeId) (ty : TypeId) (a b c : Value) : Builtin.min_ ats ty #[a, b, c] = (Builtin.min2 a b >>= fun s => Builtin.min2 s c >>= fun s => pure s) := by simp only [Builtin.min_, List.foldlM_cons, List.foldlM_nil]
theorem max_four (ats : Array TypeId) (ty : TypeId) (a b c d : Value) : Builtin.max_ ats ty #[a, b, c, d] = (Builtin.max2 a b >>= fun s => Builtin.max2 s c >>= fun s => Builtin.max2 s d >>= fun s => pure s) := by simp only [Builtin.max_, List.foldlM_cons, List.foldlM_nil]
theorem min_four (ats : Array TypeId) (ty : TypeId) (a b c d : Value) : Builtin.min_ ats ty #[a, b, c, d] = (Builtin.min2 a b >>= fun s => Builtin.min2 s c >>= fun s => Builtin.min2 s d >>= fun s => pure s) := by simp only [Builtin.min_, List.foldlM_cons, List.foldlM_nil]
end Go.Proofs.YtflolfbkpjgjaaaGreatDoorW.PrintMore
namespace Go.Proofs.YtflolfbkpjgjaaaGreatDoorW.PrintWords
open Go.RowKit
section
variable {P : Program} {ops : Array Oper} {rest : List Oper} {o : Oper} {a : Act} {Q : Exit → Act → World → Prop} {W : World}
end
namespace Kd
section
variable {α : Type} {d : Kd α} {e base : Nat} {ok : Nat → Prop} {W w1 : World} {v : Value} {xs : List α}
end
section
variable {α : Type} {d : Kd α} {e base g n cap : Nat} {ok oki okp : Nat → Prop} {W : World} {xs : List α} {i : Int} {c : List Value}
end
section
variable {α : Type} {d : Kd α} {e base b b' g N : Nat} {ok ok1 : Nat → Prop} {W W2 w1 : World} {u v : Value} {xs ys : List α} {S : Nat → Prop}
end
end Kd
end Go.Proofs.YtflolfbkpjgjaaaGreatDoorW.PrintWords
namespace Go.Proofs.YtflolfbkpjgjaaaGreatDoorW.PrintWords
open Go.RowKit
namespace Kd
def V {α : Type} (d : Kd α) (_e : Nat) (W : World) (_base : Nat) (ok : Nat → Prop) (v : Value) (xs : List α) : Prop := ∃ A c, v = .slice A xs.length c ∧ xs.length ≤ c ∧ F d W ok A xs.length xs
section
variable {α β : Type} {d : Kd α} {e base base' n m c g N' lo hi : Nat} {ok ok' S : Nat → Prop} {w W w1 : World} {A : Option Addr} {ad : Addr} {u v v1 : Value} {xs : List α}
theorem V_map (h : V d e W base ok v xs) (hF : ∀ A, F d W ok A xs.length xs → F d w1 ok' A xs.length xs) : V d e w1 base' ok' v xs := by
  obtain ⟨A, c, hv, hl, hf⟩ := h
  exact ⟨A, c, hv, hl, hF A hf⟩
theorem V_mk (hl : xs.length ≤ c) (hf : F d W ok A xs.length xs) : V d e W base ok (.slice A xs.length c) xs := ⟨A, c, rfl, hl, hf⟩
theorem V_slice (h : V d e W base ok v xs) : ∃ A c, v = .slice A xs.length c := by
  obtain ⟨A, c, hv, _⟩ := h
  exact ⟨A, c, hv⟩
theorem V_at (h : V d e W base ok (.slice A n c) xs) : n = xs.length ∧ n ≤ c ∧ F d W ok A xs.length xs := by
  obtain ⟨A', c', hv, hl, hf⟩ := h
  injection hv with ha hn hc
  subst ha; subst hc
  exact ⟨hn, by rw [hn]; exact hl, hf⟩
theorem V_reads' (h : V d e W base ok (.slice A n c) xs) : n = xs.length ∧ n ≤ c ∧ d.C W A xs.length xs := ⟨(V_at h).1, (V_at h).2.1, F_now (V_at h).2.2⟩
theorem R_V (h : d.R e W base ok v xs) : V d e W base' ok v xs := by
  obtain ⟨A, c, rfl⟩ := R_slice h
  exact ⟨A, c, rfl, (R_reads' h).2.1, R_F h⟩
theorem V_mono (h : V d e W base ok v xs) (hok : ∀ k, ok k → ok' k) : V d e W base ok' v xs := V_map h (fun _ hf => F_mono hf hok)
theorem V_alloc (h : V d e W base ok v xs) (o : Obj) : V d e (W.alloc o) base ok v xs := V_map h (fun _ hf => F_alloc hf o)
theorem V_drew (h : V d e W base ok v xs) : V d e W.drew base ok v xs := V_map h (fun _ hf => F_drew hf)
theorem V_drewN (h : V d e W base ok v xs) (m : Nat) : V d e (W.drewN m) base ok v xs := V_map h (fun _ hf => F_drewN hf m)
theorem V_far (h : V d e W base ok v xs) {p : Addr} (hok : ∀ k, ok k → k ≠ p.block) (u : Value) : V d e (W.setCell p u) base ok v xs := V_map h (fun _ hf => F_far hf hok u)
theorem F_take (h : F d W ok A xs.length xs) (hm : m ≤ xs.length) : F d W ok A (xs.take m).length (xs.take m) := F_imp h (fun _ hC => C_take hC hm)
theorem FK_slice_mk {l : List α} (hl : l.length ≤ c) (hf : F d W ok A l.length l) : FK (Kd.slice e d) W ok l [.slice A l.length c] := fun W' hW => ⟨A, c, rfl, hl, hf W' hW⟩
theorem R_newM {M : Nat → Prop} (h : d.R e w1 W.heap.size ok v xs) (hle : w.heap.size ≤ W.heap.size) (hM : ∀ k, w.heap.size ≤ k → M k) : d.R e w1 W.heap.size (fun k => M k ∧ ok k) v xs := R_mono (R_bound h) (fun k hk => ⟨hM k (Nat.le_trans hle hk.2.1), hk.1⟩)
end
end Kd
end Go.Proofs.YtflolfbkpjgjaaaGreatDoorW.PrintWords
end
section
namespace Go.Proofs.YtflolfbkpjgjaaaGreatDoor
open Go.RowKit Go.Proofs.YtflolfbkpjgjaaaGreatDoorW.PrintWords Go.Proofs.YtflolfbkpjgjaaaGreatDoorW.PrintMore
attribute [local go_sem] min2_int min_two
def zeros64 : List Int := List.replicate 64 0
theorem w64_eq (n : Int) : wrap64 n = w64 n := by unfold wrap64 w64; rfl
theorem stepC_heap {wr : World} {g : Nat} {M : List Int} (h : wr.heap[g]? = some (.cells (ints M) 116 (0, 0))) (b a c : Nat) :
    (wr.setCell ⟨g, a * 8 + c, none⟩ (.int .i64 (if wrap64 (mat M a b + mat M b c) < mat M a c then wrap64 (mat M a b + mat M b c) else mat M a c))).heap[g]? = some (.cells (ints (stepC b a M c)) 116 (0, 0)) := by
  have := blk_set h (a * 8 + c) (.int .i64 (if wrap64 (mat M a b + mat M b c) < mat M a c then wrap64 (mat M a b + mat M b c) else mat M a c))
  rw [ints_set] at this
  have e : (if wrap64 (mat M a b + mat M b c) < mat M a c then wrap64 (mat M a b + mat M b c) else mat M a c) = min (mat M a c) (w64 (mat M a b + mat M b c)) := by
    rw [← w64_eq, Int.min_def]
    split <;> split <;> omega
  rw [e] at this ⊢
  exact this
set_option maxHeartbeats 1000000 in
set_option maxRecDepth 100000 in
theorem closed_calls (m : List Int) (n : Nat) (hm : m.length = 64) (hn : n ≤ 8) (w : World) :
    Calls Tryz.prog 126 #[.agg (ints m), .int .i64 n] w fun e w' => e = .returned (.agg (ints (closedC n m))) ∧ Below w.heap.size w w' := by
  go_enter Tryz.func126, Tryz.ntmps126
  go_wp2_with (first | ((with_reducible refine gate_dst (N := 2) rfl ?_); refine box_event ?hg (N := 2) ?hd (cs := ints m) (t := 116) ?hr ?_; (case hd => rfl); (case hg => rfl); (case hr => first | (go_simp; done) | (go_simp; rfl)); intro g hg w3 hbox hb; have BK := Aside0.mk hbox; have HB := Aside0.mk hb; have HG := Aside0.mk hg; clear hbox hb hg) | ((with_reducible refine gate_dst (N := 4) rfl ?_); refine box_event ?hg (N := 4) ?hd (cs := ints zeros64) (t := 116) ?hr ?_; (case hd => rfl); (case hg => rfl); (case hr => first | (go_simp; done) | (go_simp; rfl)); intro g4 hg w4 hbox hb; have BK4 := Aside0.mk hbox; have HB4 := Aside0.mk hb; have HG4 := Aside0.mk hg; clear hbox hb hg))
  have hgn : Aside0 (g ≠ g4 ∧ w.heap.size ≤ g ∧ w.heap.size ≤ g4) := ⟨by have h1 := blk_lt BK.out; have h2 := HG4.out; have h3 := HG.out; have h4 := HB.out.size; omega⟩
  have BK' := Aside0.mk (blk_below BK.out HB4.out)
  have HB' := Aside0.mk (below_step HB.out HB4.out)
  clear BK HB HB4 HG HG4
  go_loopw [9] (fun i wr => ∃ k : Nat, k ≤ n ∧ i = .int .i64 k ∧ Aside0 (wr.heap[g]? = some (.cells (ints ((List.range k).foldl (roundC n) m)) 116 (0, 0))) ∧ Aside0 (wr.heap[g4]? = some (.cells (ints zeros64) 116 (0, 0))) ∧ Aside0 (Below w.heap.size w wr)) (fun i _ => n - (intOf i).toNat)
  case atStart => exact ⟨0, Nat.zero_le _, rfl, BK', BK4, HB'⟩
  case round =>
    obtain ⟨k, hk, rfl, HK, HZ, HW⟩ := hrel
    have hl1 : ((List.range k).foldl (roundC n) m).length = 64 := ((fold_le _ (roundC_le n) _ m).1).trans hm
    by_cases hlt : k < n
    · have hsucc : Aside0 ((List.range (k + 1)).foldl (roundC n) m = roundC n ((List.range k).foldl (roundC n) m) k) := ⟨by rw [List.range_succ, List.foldl_append]; rfl⟩
      generalize (List.range k).foldl (roundC n) m = M1 at *
      go_wp2
      obtain ⟨wo, rfl⟩ : ∃ wo : World, wo = wr := ⟨_, rfl⟩
      go_loopw [13] (fun i wr => ∃ k1 : Nat, k1 ≤ n ∧ i = .int .i64 k1 ∧ Aside0 (wr.heap[g]? = some (.cells (ints ((List.range k1).foldl (rowC n k) M1)) 116 (0, 0))) ∧ Aside0 (wr.heap[g4]? = some (.cells (ints zeros64) 116 (0, 0))) ∧ Aside0 (Below w.heap.size w wr)) (fun i _ => n - (intOf i).toNat)
      case atStart => exact ⟨0, Nat.zero_le _, rfl, HK, HZ, HW⟩
      case round =>
        clear HK HZ HW
        obtain ⟨k1, hk1, rfl, HK, HZ, HW⟩ := hrel
        have hl2 : ((List.range k1).foldl (rowC n k) M1).length = 64 := ((fold_le _ (rowC_le n k) _ M1).1).trans hl1
        by_cases hlt1 : k1 < n
        · have hsucc1 : Aside0 ((List.range (k1 + 1)).foldl (rowC n k) M1 = rowC n k ((List.range k1).foldl (rowC n k) M1) k1) := ⟨by rw [List.range_succ, List.foldl_append]; rfl⟩
          generalize (List.range k1).foldl (rowC n k) M1 = M3 at *
          go_wp2
          obtain ⟨wo1, rfl⟩ : ∃ wo1 : World, wo1 = wr := ⟨_, rfl⟩
          go_loopw [17] (fun i wr => ∃ k2 : Nat, k2 ≤ n ∧ i = .int .i64 k2 ∧ Aside0 (wr.heap[g]? = some (.cells (ints ((List.range k2).foldl (stepC k k1) M3)) 116 (0, 0))) ∧ Aside0 (wr.heap[g4]? = some (.cells (ints zeros64) 116 (0, 0))) ∧ Aside0 (Below w.heap.size w wr)) (fun i _ => n - (intOf i).toNat)
          case atStart => exact ⟨0, Nat.zero_le _, rfl, HK, HZ, HW⟩
          case round =>
            clear HK HZ HW
            obtain ⟨k2, hk2, rfl, HK, HZ, HW⟩ := hrel
            have hl3 : ((List.range k2).foldl (stepC k k1) M3).length = 64 := ((fold_le _ (stepC_le k k1) _ M3).1).trans hl2
            by_cases hlt2 : k2 < n
            · have hsucc2 : Aside0 ((List.range (k2 + 1)).foldl (stepC k k1) M3 = stepC k k1 ((List.range k2).foldl (stepC k k1) M3) k2) := ⟨by rw [List.range_succ, List.foldl_append]; rfl⟩
              generalize (List.range k2).foldl (stepC k k1) M3 = M5 at *
              have c1 : wr.cell? ⟨g, k1 * 8 + k2, none⟩ = some (.int .i64 (mat M5 k1 k2)) := (blk_cell HK.out _).trans (ints_at M5 _ (by omega))
              have c2 : wr.cell? ⟨g, k1 * 8 + k, none⟩ = some (.int .i64 (mat M5 k1 k)) := (blk_cell HK.out _).trans (ints_at M5 _ (by omega))
              have c3 : wr.cell? ⟨g, k * 8 + k2, none⟩ = some (.int .i64 (mat M5 k k2)) := (blk_cell HK.out _).trans (ints_at M5 _ (by omega))
              have f1 := blk_frozen HK.out (k1 * 8 + k2)
              have i0 : (0 : Int) ≤ (k : Int) := by omega
              have i1 : (0 : Int) ≤ (k1 : Int) := by omega
              have i2 : (0 : Int) ≤ (k2 : Int) := by omega
              have i3 : (k : Int) < 8 := by omega
              have i4 : (k1 : Int) < 8 := by omega
              have i5 : (k2 : Int) < 8 := by omega
              go_wp2
              go_still_tail 21, (by kernel_rfl)
              change wpList _ _ _ _ _ wr.drew
              go_wp2
              go_roundw
              case rel => exact ⟨k2 + 1, by omega, by go_num, ⟨by rw [hsucc2.out]; exact stepC_heap HK.out k k1 k2⟩, ⟨blk_far (p := ⟨g, k1 * 8 + k2, none⟩) HZ.out (Ne.symm hgn.out.1) _⟩, ⟨below_drew (below_set HW.out hgn.out.2.1)⟩⟩
              case measure => simp [intOf]; omega
            · have hkn : k2 = n := by omega
              subst hkn
              go_wp2
              go_roundw
              case rel => exact ⟨k1 + 1, by omega, by go_num, ⟨by rw [hsucc1.out]; exact HK.out⟩, HZ, HW⟩
              case measure => simp [intOf]; omega
        · have hkn : k1 = n := by omega
          subst hkn
          go_wp2
          go_roundw
          case rel => exact ⟨k + 1, by omega, by go_num, ⟨by rw [hsucc.out]; exact HK.out⟩, HZ, HW⟩
          case measure => simp [intOf]; omega
    · go_wp2_with (first | (refine wpList_load_row rfl 116 (.tmp 2) rfl g rfl 116 (ints ((List.range k).foldl (roundC n) m)) (0, 0) _ HK.out Tryz.underlying116 rfl (by rw [size_ints, hl1]; kernel_rfl) ?_) | (refine store_row rfl 116 (.tmp 4) (.tmp 44) rfl g4 116 (ints zeros64) (ints ((List.range k).foldl (roundC n) m)) rfl rfl HZ.out (by rw [size_ints, size_ints, hl1]; rfl) (by rw [size_ints, hl1]; kernel_rfl) (ints_one _) ?_))
      have hkn : k = n := by omega
      subst hkn
      refine bodyPost_ret (results_cell_row rfl _ _ g4 116 (ints ((List.range k).foldl (roundC k) m)) (0, 0) _ rfl (setRow_heap _ _ _ _ _ _ HZ.out) Tryz.underlying116 rfl (by rw [size_ints, hl1]; kernel_rfl)) rfl ⟨rfl, ?_⟩
      exact below_setRow HW.out hgn.out.2.2 _
end Go.Proofs.YtflolfbkpjgjaaaGreatDoor
end
section
namespace Go.Proofs.YtflolfbkpjgjaaaGreatDoor
open Go.RowKit Go.Proofs.YtflolfbkpjgjaaaGreatDoorW.PrintWords Go.Proofs.YtflolfbkpjgjaaaGreatDoorW.PrintMore
theorem CI_cells {w : World} {A : Option Addr} {n : Nat} {xs : List Int} (h : CI w A n xs) (hn : xs.length = n) (h0 : 0 < n) :
    ∃ ad, A = some ad ∧ ∀ j v, (xs.map (Value.int .i64))[j]? = some v → w.cell? (ad.add j) = some v := by
  obtain ⟨ad, e, _⟩ := CI_at h 0 (by omega) (by omega)
  refine ⟨ad, e, fun j v hv => ?_⟩
  have hj : j < xs.length := by
    rcases Nat.lt_or_ge j xs.length with h1 | h1
    · exact h1
    · rw [List.getElem?_eq_none (by simpa using h1)] at hv; simp at hv
  obtain ⟨ad', e', hc⟩ := CI_at h j (by omega) (by omega)
  rw [e] at e'
  cases e'
  rw [List.getElem?_map, List.getElem?_eq_getElem hj] at hv
  simp at hv
  subst hv
  rw [show ((j : Int)).toNat = j from rfl] at hc
  rw [hc]
  simp [List.getD_eq_getElem?_getD, List.getElem?_eq_getElem hj]
theorem splice_map {α β : Type} (f : α → β) (L : List α) (o : Nat) (cs : List α) : splice (L.map f) o (cs.map f) = (splice L o cs).map f := by
  simp [splice, List.map_take, List.map_drop]
def stepM (l : List (List Int)) (m : List Int) (a : Nat) : List Int := splice m (a * 8) (l.getD a [])
def matOf (l : List (List Int)) : List Int := (List.range l.length).foldl (stepM l) zeros64
theorem stepM_length (l : List (List Int)) (hl : l.length ≤ 8) (hr : ∀ a, a < l.length → (l.getD a []).length = l.length) : ∀ (k : Nat), k ≤ l.length → ((List.range k).foldl (stepM l) zeros64).length = 64
  | 0, _ => rfl
  | k + 1, h => by
    have := stepM_length l hl hr k (by omega)
    rw [List.range_succ, List.foldl_append]
    simp only [List.foldl_cons, List.foldl_nil, stepM]
    rw [length_splice _ _ _ (by rw [this, hr k (by omega)]; omega), this]
theorem getD_splice (L : List Int) (o : Nat) (cs : List Int) (i : Nat) (h : o + cs.length ≤ L.length) : (splice L o cs).getD i 0 = if o ≤ i ∧ i < o + cs.length then cs.getD (i - o) 0 else L.getD i 0 := by
  simp only [List.getD_eq_getElem?_getD]
  congr 1
  unfold splice
  by_cases h1 : i < o
  · rw [List.getElem?_append_left (by rw [List.length_take]; omega), List.getElem?_take, if_pos h1, if_neg (by omega)]
  · rw [List.getElem?_append_right (by rw [List.length_take]; omega), List.length_take, show min o L.length = o from by omega]
    by_cases h2 : i < o + cs.length
    · rw [List.getElem?_append_left (by omega), if_pos ⟨by omega, h2⟩]
    · rw [List.getElem?_append_right (by omega), List.getElem?_drop, if_neg (by omega), show o + cs.length + (i - o - cs.length) = i from by omega]
theorem matOf_at (l : List (List Int)) (hl : l.length ≤ 8) (hr : ∀ a, a < l.length → (l.getD a []).length = l.length) : ∀ (k : Nat), k ≤ l.length → ∀ a c, a < 8 → c < 8 →
    mat ((List.range k).foldl (stepM l) zeros64) a c = if a < k ∧ c < l.length then (l.getD a []).getD c 0 else 0
  | 0, _, a, c, ha, hc => by
    rw [if_neg (by omega)]
    show zeros64.getD (a * 8 + c) 0 = 0
    simp only [zeros64, List.getD_eq_getElem?_getD, List.getElem?_replicate]
    split <;> rfl
  | k + 1, h, a, c, ha, hc => by
    have ih := matOf_at l hl hr k (by omega) a c ha hc
    have hlen := stepM_length l hl hr k (by omega)
    have hrk := hr k (by omega)
    rw [List.range_succ, List.foldl_append]
    simp only [List.foldl_cons, List.foldl_nil]
    generalize (List.range k).foldl (stepM l) zeros64 = M at *
    unfold mat stepM at *
    rw [getD_splice _ _ _ _ (by rw [hlen, hrk]; omega), hrk]
    by_cases h1 : a = k
    · subst h1
      by_cases h2 : c < l.length
      · rw [if_pos (by omega), if_pos (by omega)]
        congr 1
        omega
      · rw [if_neg (by omega), ih, if_neg (by omega), if_neg (by omega)]
    · rw [if_neg (by omega), ih]
      by_cases h2 : a < k ∧ c < l.length
      · rw [if_pos h2, if_pos (by omega)]
      · rw [if_neg h2, if_neg (by omega)]
set_option maxHeartbeats 1000000 in
set_option maxRecDepth 100000 in
theorem matrixOf_calls (A : Option Addr) (c : Nat) (l : List (List Int)) (hl : l.length ≤ 8) (hr : ∀ a, a < l.length → (l.getD a []).length = l.length) (w : World) (hA : CII w A l.length l) :
    Calls Tryz.prog 125 #[.slice A l.length c] w fun e w' => e = .returned (.agg (ints (matOf l))) ∧ Below w.heap.size w w' := by
  go_enter Tryz.func125, Tryz.ntmps125
  go_wp2_with ((with_reducible refine gate_dst (N := 2) rfl ?_); refine box_event ?hg (N := 2) ?hd (cs := ints zeros64) (t := 116) ?hr ?_; (case hd => rfl); (case hg => rfl); (case hr => first | (go_simp; done) | (go_simp; rfl)); intro g hg w3 hbox hb; have BK := Aside0.mk hbox; have HB := Aside0.mk hb; have HG := Aside0.mk hg; clear hbox hb hg)
  go_loopw [6] (fun i wr => ∃ k : Nat, k ≤ l.length ∧ i = .int .i64 k ∧ Aside0 (wr.heap[g]? = some (.cells (ints ((List.range k).foldl (stepM l) zeros64)) 116 (0, 0))) ∧ Aside0 (Below w.heap.size w wr)) (fun i _ => l.length - (intOf i).toNat)
  case atStart => exact ⟨0, Nat.zero_le _, rfl, BK, HB⟩
  case round =>
    obtain ⟨k, hk, rfl, HK, HW⟩ := hrel
    have hl1 := stepM_length l hl hr k hk
    by_cases hlt : k < l.length
    · have hsucc : Aside0 ((List.range (k + 1)).foldl (stepM l) zeros64 = stepM l ((List.range k).foldl (stepM l) zeros64) k) := ⟨by rw [List.range_succ, List.foldl_append]; rfl⟩
      generalize hM : (List.range k).foldl (stepM l) zeros64 = M1 at *
      clear hM
      have hrk := hr k hlt
      obtain ⟨ad, A0, c0, rfl, g1, g2, g3⟩ := CII_at hA k (by omega) (by omega)
      rw [show ((k : Int)).toNat = k from rfl] at g1 g2 g3
      have g1' := (HW.out.cell (World.block_lt_of_cell? w _ g1)).trans g1
      have HX := Aside0.mk g3
      have HL := Aside0.mk hrk
      rw [hrk] at g1'
      clear g1 g3
      have i1 : (0 : Int) ≤ (k : Int) := by omega
      have i4 : (k : Int) < 8 := by omega
      go_wp2
      go_still_tail 7, (by kernel_rfl)
      change wpList _ _ _ _ _ wr.drew
      refine wpList_copy_splice rfl (.tmp 11) (.tmp 15) 26 26 rfl 3 Tryz.underlying26 (by kernel_rfl) (some ⟨g, k * 8, none⟩) A0 8 8 l.length c0 rfl rfl g (k * 8) (M1.map (Value.int .i64)) 116 HK.out ((l.getD k []).map (Value.int .i64)) (by rw [List.length_map, HL.out]; exact (Nat.min_eq_left hl).symm) ?hp (by rw [List.length_map, List.length_map, HL.out]; omega) (by intro v hv; simp only [List.mem_map] at hv; obtain ⟨x, _, rfl⟩ := hv; rfl) w.heap.size w (below_drew HW.out) (by rw [HG.out]; exact Nat.le_refl _) ?_
      case hp =>
        intro _
        refine ⟨rfl, ?_⟩
        obtain ⟨ad5, e5, hc5⟩ := CI_cells HX.out rfl (by rw [HL.out]; omega)
        exact ⟨ad5, e5, fun j v hv => (HW.out.cell (World.block_lt_of_cell? w _ (hc5 j v hv))).trans (hc5 j v hv)⟩
      intro w5 hg5 hb5
      have HK5 := Aside0.mk hg5.out
      have HW5 := Aside0.mk hb5
      clear hg5 hb5
      go_wp2
      go_roundw
      case rel => exact ⟨k + 1, by omega, by go_num, ⟨by rw [hsucc.out]; have h5 := HK5.out; rw [splice_map] at h5; exact h5⟩, HW5⟩
      case measure => simp [intOf]; omega
    · have hkn : k = l.length := by omega
      go_wp2_with (first | (refine wpList_load_row rfl 116 (.tmp 2) rfl g rfl 116 (ints ((List.range k).foldl (stepM l) zeros64)) (0, 0) _ HK.out Tryz.underlying116 rfl (by rw [size_ints, hl1]; kernel_rfl) ?_) | (refine store_row rfl 116 (.tmp 2) (.tmp 18) rfl g 116 (ints ((List.range k).foldl (stepM l) zeros64)) (ints ((List.range k).foldl (stepM l) zeros64)) rfl rfl HK.out rfl (by rw [size_ints, hl1]; kernel_rfl) (ints_one _) ?_))
      refine bodyPost_ret (results_cell_row rfl _ _ g 116 (ints ((List.range k).foldl (stepM l) zeros64)) (0, 0) _ rfl (setRow_heap _ _ _ _ _ _ HK.out) Tryz.underlying116 rfl (by rw [size_ints, hl1]; kernel_rfl)) rfl ⟨by rw [hkn]; rfl, ?_⟩
      exact below_setRow HW.out (by rw [HG.out]; exact Nat.le_refl _) _
end Go.Proofs.YtflolfbkpjgjaaaGreatDoor
end
section
namespace Go.Proofs.YtflolfbkpjgjaaaGreatDoor
open Go.RowKit Go.Proofs.YtflolfbkpjgjaaaGreatDoorW.PrintWords
set_option maxHeartbeats 400000 in
theorem within_calls (n lo hi : Int) (w : World) :
    Calls Tryz.prog 103 #[.int .i64 n, .int .i64 lo, .int .i64 hi] w fun e w' => e = .returned (.bool (decide (lo ≤ n) && decide (n ≤ hi))) ∧ w = w' := by
  by_cases h : lo ≤ n
  · have hd : decide (lo ≤ n) = true := by simpa using h
    go_enter Tryz.func103, Tryz.ntmps103
    go_wp2
    go_ret
    exact ⟨by rw [show decide (lo ≤ n) = true from by simpa using h]; rfl, rfl⟩
  · have hd : decide (lo ≤ n) = false := by simpa using h
    go_enter Tryz.func103, Tryz.ntmps103
    go_wp2
    go_ret
    exact ⟨rfl, rfl⟩
set_option maxHeartbeats 400000 in
set_option maxRecDepth 100000 in
theorem lagOf_calls (v : Value) (r : Ros) (x y : Int) (a due : Int) (w : World) (hv : RosAt w v r) (V : Valid r)
    (x0 : 0 ≤ x) (x1 : x < r.ahead.length) (y0 : 0 ≤ y) (y1 : y < r.ahead.length) (k1 : 0 ≤ a) (k2 : a ≤ 16777216) (k3 : 0 ≤ due) (k4 : due ≤ 16777216) :
    Calls Tryz.prog 154 #[v, .int .i64 x, .int .i64 a, .int .i64 y, .int .i64 due] w
      fun e w' => e = .returned (.agg #[.int .i64 (due - a + ahd r x y), .bool (x == y)]) ∧ Below w.heap.size w w' := by
  obtain ⟨A, c, T, d, rfl, h1, h2, h3, h4⟩ := hv
  obtain ⟨ad, A0, c0, rfl, g1, g2, g3⟩ := CII_at h3 x x0 x1
  have hrow := V.row x x0 x1
  obtain ⟨ad', e', g4⟩ := CI_at g3 y y0 (by rw [hrow]; exact y1)
  subst e'
  have hb := V.bnd x y x0 x1 y0 y1
  have hb1 := hb.1
  have hb2 := hb.2
  change w.cell? (ad'.add y.toNat) = some (.int .i64 (ahd r x y)) at g4
  generalize ahd r x y = q at *
  have z1 : y < ((r.ahead.getD x.toNat []).length : Int) := by rw [hrow]; exact y1
  generalize (r.ahead.getD x.toNat []).length = n0 at *
  have p1 := World.block_lt_of_cell? w _ g1
  have p2 := World.block_lt_of_cell? w _ g4
  clear hrow g3 h3 h4 V hb
  go_enter Tryz.func154, Tryz.ntmps154
  go_wp2
  refine bodyPost_ret (v := .agg #[.int .i64 (due - a + q), .bool (x == y)]) (by simp [results, Tryz.results154, go_sem]) rfl ⟨rfl, ?_⟩
  repeat (first | exact Below.refl _ _ | apply below_alloc | apply pw_below_drewN | apply below_drew | refine below_set ?_ (by omega))
set_option maxHeartbeats 400000 in
set_option maxRecDepth 100000 in
theorem begin_calls (v : Value) (r : Ros) (i : Int) (w : World) (hv : RosAt w v r) (V : Valid r) (i0 : 0 ≤ i) (i1 : i < r.turns.length) :
    Calls Tryz.prog 96 #[v, .int .i64 i] w fun e w' => e = .returned (.agg #[.int .i64 (begLate r i), .bool (0 == (tn r i).clock)]) ∧ Below w.heap.size w w' := by
  have hR := hv
  obtain ⟨A, c, T, d, rfl, h1, h2, h3, h4⟩ := hv
  obtain ⟨ad, rfl, g0, g1, g2, g3, g4, g5⟩ := CT_at h4 i i0 i1
  have vt := V.turn i i0 i1
  change w.cell? _ = some (.int .i64 (tn r i).gate) at g0
  change w.cell? _ = some (.int .i64 (tn r i).clock) at g1
  change w.cell? _ = some (.int .i64 (tn r i).frm) at g2
  change w.cell? _ = some (.int .i64 (tn r i).clock2) at g3
  change w.cell? _ = some (.int .i64 (tn r i).til) at g4
  change w.cell? _ = some (.int .i64 (tn r i).cost) at g5
  have p0 := World.block_lt_of_cell? w _ g0
  have vf := V.frm
  have vg := V.frmtil
  have vh := V.til
  have vc := V.clocks
  have HV := Lib.hid V
  clear V
  have HR := Lib.hid hR
  clear hR
  go_enter Tryz.func96, Tryz.ntmps96
  go_wp2_with fail
  refine (lagOf_calls _ r 0 (tn r i).clock r.frm (tn r i).frm _ (HR.out.below ?_) HV.out (by omega) (by omega) vt.2.1.1 vt.2.1.2 (by omega) (by omega) vt.2.2.2.1.1 vt.2.2.2.1.2).mono ?_
  · repeat (first | exact Below.refl _ _ | apply below_alloc | apply pw_below_drewN | apply below_drew | refine below_set ?_ (by omega))
  rintro e w1 ⟨rfl, hb⟩
  obtain ⟨hc, hf⟩ := bcell hb
  have hz : w.heap.size + 2 < w1.heap.size := by have := hb.size; simp at this; omega
  go_wp2
  refine bodyPost_ret (v := .agg #[.int .i64 (begLate r i), .bool (0 == (tn r i).clock)]) (by simp [results, Tryz.results96, go_sem, hc]; rfl) rfl ⟨rfl, ?_⟩
  repeat (first | exact Below.refl _ _ | apply below_alloc | apply pw_below_drewN | apply below_drew | refine below_set ?_ (by omega) | refine below_step ?_ hb)
set_option maxHeartbeats 400000 in
set_option maxRecDepth 100000 in
theorem end_calls (v : Value) (r : Ros) (i : Int) (w : World) (hv : RosAt w v r) (V : Valid r) (i0 : 0 ≤ i) (i1 : i < r.turns.length) :
    Calls Tryz.prog 106 #[v, .int .i64 i] w fun e w' => e = .returned (.agg #[.int .i64 (endLate r i), .bool ((tn r i).clock2 == 0)]) ∧ Below w.heap.size w w' := by
  have hR := hv
  obtain ⟨A, c, T, d, rfl, h1, h2, h3, h4⟩ := hv
  obtain ⟨ad, rfl, g0, g1, g2, g3, g4, g5⟩ := CT_at h4 i i0 i1
  have vt := V.turn i i0 i1
  change w.cell? _ = some (.int .i64 (tn r i).gate) at g0
  change w.cell? _ = some (.int .i64 (tn r i).clock) at g1
  change w.cell? _ = some (.int .i64 (tn r i).frm) at g2
  change w.cell? _ = some (.int .i64 (tn r i).clock2) at g3
  change w.cell? _ = some (.int .i64 (tn r i).til) at g4
  change w.cell? _ = some (.int .i64 (tn r i).cost) at g5
  have p0 := World.block_lt_of_cell? w _ g0
  have vf := V.frm
  have vg := V.frmtil
  have vh := V.til
  have vc := V.clocks
  have HV := Lib.hid V
  clear V
  have HR := Lib.hid hR
  clear hR
  go_enter Tryz.func106, Tryz.ntmps106
  go_wp2_with fail
  refine (lagOf_calls _ r (tn r i).clock2 0 (tn r i).til r.til _ (HR.out.below ?_) HV.out vt.2.2.1.1 vt.2.2.1.2 (by omega) (by omega) vt.2.2.2.2.1.1 vt.2.2.2.2.1.2 (by omega) (by omega)).mono ?_
  · repeat (first | exact Below.refl _ _ | apply below_alloc | apply pw_below_drewN | apply below_drew | refine below_set ?_ (by omega))
  rintro e w1 ⟨rfl, hb⟩
  obtain ⟨hc, hf⟩ := bcell hb
  have hz : w.heap.size + 2 < w1.heap.size := by have := hb.size; simp at this; omega
  go_wp2
  refine bodyPost_ret (v := .agg #[.int .i64 (endLate r i), .bool ((tn r i).clock2 == 0)]) (by simp [results, Tryz.results106, go_sem, hc]; rfl) rfl ⟨rfl, ?_⟩
  repeat (first | exact Below.refl _ _ | apply below_alloc | apply pw_below_drewN | apply below_drew | refine below_set ?_ (by omega) | refine below_step ?_ hb)
set_option maxHeartbeats 400000 in
set_option maxRecDepth 100000 in
theorem meet_calls (v : Value) (r : Ros) (i j : Int) (w : World) (hv : RosAt w v r) (V : Valid r) (i0 : 0 ≤ i) (i1 : i < r.turns.length) (j0 : 0 ≤ j) (j1 : j < r.turns.length) :
    Calls Tryz.prog 155 #[v, .int .i64 i, .int .i64 j] w fun e w' => e = .returned (.agg #[.int .i64 (meetLate r i j), .bool ((tn r i).clock2 == (tn r j).clock)]) ∧ Below w.heap.size w w' := by
  have hR := hv
  obtain ⟨A, c, T, d, rfl, h1, h2, h3, h4⟩ := hv
  obtain ⟨ad, rfl, g0, g1, g2, g3, g4, g5⟩ := CT_at h4 i i0 i1
  have vt := V.turn i i0 i1
  change w.cell? _ = some (.int .i64 (tn r i).gate) at g0
  change w.cell? _ = some (.int .i64 (tn r i).clock) at g1
  change w.cell? _ = some (.int .i64 (tn r i).frm) at g2
  change w.cell? _ = some (.int .i64 (tn r i).clock2) at g3
  change w.cell? _ = some (.int .i64 (tn r i).til) at g4
  change w.cell? _ = some (.int .i64 (tn r i).cost) at g5
  have p0 := World.block_lt_of_cell? w _ g0
  have p1 := Nat.lt_add_right 1 p0
  have p2 := Nat.lt_add_right 2 p0
  have p3 := Nat.lt_add_right 3 p0
  have p4 := Nat.lt_add_right 4 p0
  obtain ⟨ad', ex, g0x, g1x, g2x, g3x, g4x, g5x⟩ := CT_at h4 j j0 j1
  cases ex
  have vtx := V.turn j j0 j1
  change w.cell? _ = some (.int .i64 (tn r j).gate) at g0x
  change w.cell? _ = some (.int .i64 (tn r j).clock) at g1x
  change w.cell? _ = some (.int .i64 (tn r j).frm) at g2x
  change w.cell? _ = some (.int .i64 (tn r j).clock2) at g3x
  change w.cell? _ = some (.int .i64 (tn r j).til) at g4x
  change w.cell? _ = some (.int .i64 (tn r j).cost) at g5x
  have p0x := World.block_lt_of_cell? w _ g0x
  have p1x := Nat.lt_add_right 1 p0x
  have p2x := Nat.lt_add_right 2 p0x
  have p3x := Nat.lt_add_right 3 p0x
  have p4x := Nat.lt_add_right 4 p0x
  have vf := V.frm
  have vg := V.frmtil
  have vh := V.til
  have vc := V.clocks
  have HV := Lib.hid V
  clear V
  have HR := Lib.hid hR
  clear hR
  go_enter Tryz.func155, Tryz.ntmps155
  go_wp2_with fail
  go_region
  all_goals go_wp2_with fail
  all_goals
    refine (lagOf_calls _ r (tn r i).clock2 (tn r j).clock (tn r i).til (tn r j).frm _ (HR.out.below ?_) HV.out vt.2.2.1.1 vt.2.2.1.2 vtx.2.1.1 vtx.2.1.2 vt.2.2.2.2.1.1 vt.2.2.2.2.1.2 vtx.2.2.2.1.1 vtx.2.2.2.1.2).mono ?_
    · repeat (first | exact Below.refl _ _ | apply below_alloc | apply pw_below_drewN | apply below_drew | refine below_set ?_ (by omega))
    rintro e w1 ⟨rfl, hb⟩
    obtain ⟨hc, hf⟩ := bcell hb
    have hz : w.heap.size + 3 < w1.heap.size := by have := hb.size; simp at this; omega
    go_wp2
    refine bodyPost_ret (v := .agg #[.int .i64 (meetLate r i j), .bool ((tn r i).clock2 == (tn r j).clock)]) (by simp [results, Tryz.results155, go_sem, hc]; rfl) rfl ⟨rfl, ?_⟩
    repeat (first | exact Below.refl _ _ | apply below_alloc | apply pw_below_drewN | apply below_drew | refine below_set ?_ (by omega) | refine below_step ?_ hb)
set_option maxHeartbeats 400000 in
set_option maxRecDepth 100000 in
theorem never_calls (late : Int) (self : Bool) (w : World) :
    Calls Tryz.prog 97 #[.agg #[.int .i64 late, .bool self]] w fun e w' => e = .returned (.bool (decide (late ≤ 0))) ∧ Below w.heap.size w w' := by
  go_enter Tryz.func97, Tryz.ntmps97
  go_wp2
  go_ret
  exact ⟨rfl, by repeat (first | exact Below.refl _ _ | apply below_alloc | apply pw_below_drewN | apply below_drew | refine below_set ?_ (by omega))⟩
end Go.Proofs.YtflolfbkpjgjaaaGreatDoor
end
section
namespace Go.Proofs.YtflolfbkpjgjaaaGreatDoor
open Go.RowKit Go.Proofs.YtflolfbkpjgjaaaGreatDoorW.PrintWords
def inB (n lo hi : Int) : Bool := decide (lo ≤ n) && decide (n ≤ hi)
theorem inB_iff (n lo hi : Int) : inB n lo hi = true ↔ lo ≤ n ∧ n ≤ hi := by simp [inB]
theorem within_in (n lo hi : Int) (w : World) : Calls Tryz.prog 103 #[.int .i64 n, .int .i64 lo, .int .i64 hi] w fun e w' => e = .returned (.bool (inB n lo hi)) ∧ w = w' := within_calls n lo hi w
def isTurnB (t : Trn) : Bool := inB t.gate 0 7 && (inB t.clock 0 7 && (inB t.clock2 0 7 && (inB t.frm 0 16777216 && (inB t.til 0 16777216 && inB t.cost 0 10000))))
set_option maxHeartbeats 1000000 in
set_option maxRecDepth 100000 in
theorem isTurn_calls (t : Trn) (w : World) : Calls Tryz.prog 127 #[.agg #[.int .i64 t.gate, .int .i64 t.clock, .int .i64 t.frm, .int .i64 t.clock2, .int .i64 t.til, .int .i64 t.cost]] w
    fun e w' => e = .returned (.bool (isTurnB t)) ∧ Below w.heap.size w w' := by
  unfold isTurnB
  go_enter Tryz.func127, Tryz.ntmps127
  go_wp2_with (go_at_call 103; refine (within_in _ _ _ _).mono ?_; rintro e w' ⟨rfl, rfl⟩)
  all_goals go_ret
  all_goals exact ⟨by simp [*], by repeat (first | exact Below.refl _ _ | apply below_alloc | apply pw_below_drewN | apply below_drew)⟩
end Go.Proofs.YtflolfbkpjgjaaaGreatDoor
end
section
namespace Go.Proofs.YtflolfbkpjgjaaaGreatDoor
open Go.RowKit Go.Proofs.YtflolfbkpjgjaaaGreatDoorW.PrintWords Go.Proofs.YtflolfbkpjgjaaaGreatDoorW.PrintMore
def headB (r : Ros) : Bool := inB r.gates 1 8 && (inB r.frm 0 16777216 && (inB r.til 0 16777216 && (!decide (r.til ≤ r.frm) && (inB r.ahead.length 1 8 && !decide ((24 : Int) < r.turns.length)))))
def cellB (a b : Nat) (d : Int) : Bool := inB d (-1048576) 1048576 && !(((a : Int) == (b : Int)) && (d != 0))
def rowB (n a : Nat) (l : List Int) : Bool := (((l.length : Int) == (n : Int))) && (List.range n).all fun b => cellB a b (l.getD b 0)
def rowsB (r : Ros) : Bool := (List.range r.ahead.length).all fun a => rowB r.ahead.length a (r.ahead.getD a [])
def matB (r : Ros) : Bool := decide (matOf r.ahead = closedC r.ahead.length (matOf r.ahead))
def turnB (r : Ros) (t : Trn) : Bool := isTurnB t && (!decide (r.gates ≤ t.gate) && (!decide ((r.ahead.length : Int) ≤ t.clock) && !decide ((r.ahead.length : Int) ≤ t.clock2)))
def turnsB (r : Ros) : Bool := (List.range r.turns.length).all fun i => turnB r (r.turns.getD i Trn.z)
def checkB (r : Ros) : Bool := headB r && (rowsB r && (matB r && turnsB r))
def checkE (r : Ros) : Int := if checkB r then 0 else 70
theorem all_range_false {n k : Nat} {f : Nat → Bool} (hk : k < n) (h : f k = false) : (List.range n).all f = false := by
  rw [List.all_eq_false]
  exact ⟨k, List.mem_range.2 hk, by simp [h]⟩
theorem all_range_succ (k : Nat) (f : Nat → Bool) : (List.range (k + 1)).all f = ((List.range k).all f && f k) := by
  rw [List.range_succ, List.all_append]; simp
set_option maxHeartbeats 2000000 in
set_option maxRecDepth 100000 in
theorem check_head (v : Value) (r : Ros) (w : World) (hv : RosAt w v r) (hh : headB r = false) :
    Calls Tryz.prog 48 #[v] w fun e w' => e = .returned (.int .i64 70) ∧ Below w.heap.size w w' := by
  obtain ⟨A, c, T, d, rfl, h1, h2, h3, h4⟩ := hv
  have H3 := Aside0.mk h3
  have H4 := Aside0.mk h4
  have HH := Aside0.mk hh
  clear h3 h4 hh
  go_enter Tryz.func48, Tryz.ntmps48
  go_wp2_with (first | (go_at_call 103; refine (within_in _ _ _ _).mono ?_; rintro e w' ⟨rfl, rfl⟩))
  all_goals first
    | (go_ret; exact ⟨rfl, by repeat (first | exact Below.refl _ _ | apply below_alloc | apply pw_below_drewN | apply below_drew)⟩)
    | (exfalso; have hx := HH.out; unfold headB at hx; simp [*] at hx; omega)
theorem closedC_le (n : Nat) (m : List Int) : LeM (closedC n m) m := fold_le _ (roundC_le n) _ _
theorem rangeAt_below {w w1 : World} {b o : Nat} {cs : List Value} (h : w.rangeAt b o cs) (hb : Below w.heap.size w w1) : w1.rangeAt b o cs := fun j v hv =>
  (hb.cell (World.block_lt_of_cell? w _ (h j v hv))).trans (h j v hv)
def rosC (r : Ros) (A : Option Addr) (c : Nat) (T : Option Addr) (d : Nat) : Array Value := #[.int .i64 r.gates, .int .i64 r.frm, .int .i64 r.til, .slice A r.ahead.length c, .slice T r.turns.length d]
theorem rosC_cells {w : World} {g : Nat} {r : Ros} {A : Option Addr} {c : Nat} {T : Option Addr} {d : Nat} (h : w.heap[g]? = some (.cells (rosC r A c T d) 25 (0, 0))) :
    w.cell? ⟨g, 0, none⟩ = some (.int .i64 r.gates) ∧ w.cell? ⟨g, 1, none⟩ = some (.int .i64 r.frm) ∧ w.cell? ⟨g, 2, none⟩ = some (.int .i64 r.til) ∧ w.cell? ⟨g, 3, none⟩ = some (.slice A r.ahead.length c) ∧ w.cell? ⟨g, 4, none⟩ = some (.slice T r.turns.length d) :=
  ⟨(blk_cell h 0).trans rfl, (blk_cell h 1).trans rfl, (blk_cell h 2).trans rfl, (blk_cell h 3).trans rfl, (blk_cell h 4).trans rfl⟩
set_option maxHeartbeats 4000000 in
set_option maxRecDepth 100000 in
theorem check_body (v : Value) (r : Ros) (w : World) (hv : RosAt w v r) (hh : headB r = true) :
    Calls Tryz.prog 48 #[v] w fun e w' => e = .returned (.int .i64 (checkE r)) ∧ Below w.heap.size w w' := by
  obtain ⟨A, c, T, d, rfl, h1, h2, h3, h4⟩ := hv
  have H3 := Aside0.mk h3
  have H4 := Aside0.mk h4
  have HC : Aside0 (checkB r = (rowsB r && (matB r && turnsB r))) := ⟨by unfold checkB; rw [hh, Bool.true_and]⟩
  unfold headB at hh
  simp only [Bool.and_eq_true, Bool.not_eq_true', decide_eq_false_iff_not] at hh
  obtain ⟨b1, b2, b3, b4, b5, b6⟩ := hh
  have HN : Aside0 (1 ≤ r.ahead.length ∧ r.ahead.length ≤ 8) := ⟨by have := (inB_iff _ _ _).1 b5; omega⟩
  have b4' : decide (r.til ≤ r.frm) = false := decide_eq_false b4
  have hn8 : r.ahead.length ≤ 8 := HN.out.2
  have hm24 : r.turns.length ≤ 24 := by omega
  have b6' : decide ((24 : Int) < r.turns.length) = false := decide_eq_false b6
  clear h3 h4 b4 b6
  go_enter Tryz.func48, Tryz.ntmps48
  go_wp2_with (first | ((with_reducible refine gate_dst (N := 1) rfl ?_); refine box_event ?hg (N := 1) ?hd (cs := rosC r A c T d) (t := 25) ?hr ?_; (case hd => rfl); (case hg => rfl); (case hr => first | (go_simp; done) | (go_simp; rfl)); intro g hg w3 hbox hb; have BK := Aside0.mk hbox; have HB := Aside0.mk hb; have HG := Aside0.mk hg; obtain ⟨q0, q1, q2, q3, q4⟩ := rosC_cells hbox; clear hbox hb hg) | (go_at_call 103; refine (within_in _ _ _ _).mono ?_; rintro e w' ⟨rfl, rfl⟩))
  clear q0 q1 q2 q3 q4
  go_loopw [51] (fun i wr => ∃ k : Nat, k ≤ r.ahead.length ∧ i = .int .i64 k ∧ Aside0 ((List.range k).all (fun a => rowB r.ahead.length a (r.ahead.getD a [])) = true) ∧ Aside0 (wr.heap[g]? = some (.cells (rosC r A c T d) 25 (0, 0))) ∧ Aside0 (Below w.heap.size w wr)) (fun i _ => r.ahead.length - (intOf i).toNat)
  case atStart => exact ⟨0, Nat.zero_le _, rfl, ⟨rfl⟩, BK, HB⟩
  case round =>
    clear BK HB
    obtain ⟨k, hk, rfl, HO, BK, HB⟩ := hrel
    by_cases hlt : k < r.ahead.length
    · obtain ⟨ad, A0, c0, hA, g1, g2, g3⟩ := CII_at H3.out k (by omega) (by omega)
      cases hA
      rw [show ((k : Int)).toNat = k from rfl] at g1 g2 g3
      have g1' := (HB.out.cell (World.block_lt_of_cell? w _ g1)).trans g1
      have HX := Aside0.mk g3
      clear g1 g3
      have HO' : ∀ b : Bool, Aside0 (rowB r.ahead.length k (r.ahead.getD k []) = b) → Aside0 ((List.range (k + 1)).all (fun a => rowB r.ahead.length a (r.ahead.getD a [])) = b) := fun b hb => ⟨by rw [all_range_succ, HO.out, hb.out, Bool.true_and]⟩
      have HF : Aside0 (rowB r.ahead.length k (r.ahead.getD k []) = false) → Aside0 (checkE r = 70) := fun hb => ⟨by unfold checkE; rw [HC.out]; unfold rowsB; rw [all_range_false hlt hb.out]; rfl⟩
      have HU : Aside0 (rowB r.ahead.length k (r.ahead.getD k []) = ((((r.ahead.getD k []).length : Int) == (r.ahead.length : Int)) && (List.range r.ahead.length).all fun b => cellB k b ((r.ahead.getD k []).getD b 0))) := ⟨by unfold rowB; rfl⟩
      generalize r.ahead.getD k [] = row at *
      by_cases hrl : row.length = r.ahead.length
      · rw [hrl] at g1' g2 HX
        have HL := Aside0.mk hrl
        have hne : (((r.ahead.length : Int)) != (r.ahead.length : Int)) = false := by simp
        clear hrl
        go_wp2
        obtain ⟨wo, rfl⟩ : ∃ wo : World, wo = wr := ⟨_, rfl⟩
        go_loopw [62] (fun i wr => ∃ j : Nat, j ≤ r.ahead.length ∧ i = .int .i64 j ∧ Aside0 ((List.range j).all (fun b => cellB k b (row.getD b 0)) = true) ∧ Aside0 (wr.heap[g]? = some (.cells (rosC r (some ad) c T d) 25 (0, 0))) ∧ Aside0 (Below w.heap.size w wr)) (fun i _ => r.ahead.length - (intOf i).toNat)
        case atStart => exact ⟨0, Nat.zero_le _, rfl, ⟨rfl⟩, BK, HB⟩
        case round =>
          clear BK HB
          obtain ⟨j, hj, rfl, HOj, BK, HB⟩ := hrel
          by_cases hlt1 : j < r.ahead.length
          · obtain ⟨ad', hA', g4⟩ := CI_at HX.out j (by omega) (by omega)
            cases hA'
            rw [show ((j : Int)).toNat = j from rfl] at g4
            have g4' := (HB.out.cell (World.block_lt_of_cell? w _ g4)).trans g4
            clear g4
            have HS : ∀ b : Bool, Aside0 (cellB k j (row.getD j 0) = b) → Aside0 ((List.range (j + 1)).all (fun b => cellB k b (row.getD b 0)) = b) := fun b hb => ⟨by rw [all_range_succ, HOj.out, hb.out, Bool.true_and]⟩
            have HE : Aside0 (cellB k j (row.getD j 0) = false) → Aside0 (checkE r = 70) := fun hb => HF ⟨by rw [HU.out, all_range_false hlt1 hb.out, Bool.and_false]⟩
            have HD : Aside0 (∀ d : Int, cellB k j d = (inB d (-1048576) 1048576 && !(((k : Int) == (j : Int)) && (d != 0)))) := ⟨fun _ => rfl⟩
            generalize row.getD j 0 = dd at *
            clear HU HF
            have RET : ∀ w' : World, Aside0 (cellB k j dd = false) → Aside0 (Below w.heap.size w w') → (Ending.returned (.int .i64 70) = Ending.returned (.int .i64 (checkE r)) ∧ Below w.heap.size w w') := fun w' h1 h2 => ⟨by rw [(HE h1).out], h2.out⟩
            clear HE
            cases e1 : inB dd (-1048576) 1048576
            · have hcell : Aside0 (cellB k j dd = false) := ⟨by rw [HD.out, e1, Bool.false_and]⟩
              go_wp2_with (go_at_call 103; refine (within_in _ _ _ _).mono ?_; rintro e w' ⟨rfl, rfl⟩)
              go_ret
              exact RET _ hcell HB
            · cases e2 : ((k : Int) == (j : Int))
              · have hcell : Aside0 (cellB k j dd = true) := ⟨by rw [HD.out, e1, e2, Bool.false_and]; rfl⟩
                go_wp2_with (go_at_call 103; refine (within_in _ _ _ _).mono ?_; rintro e w' ⟨rfl, rfl⟩)
                go_roundw
                case rel => exact ⟨j + 1, by omega, by go_num, HS _ hcell, BK, HB⟩
                case measure => simp [intOf]; omega
              · cases e3 : (dd != 0)
                · have hcell : Aside0 (cellB k j dd = true) := ⟨by rw [HD.out, e1, e2, e3, Bool.and_false]; rfl⟩
                  go_wp2_with (go_at_call 103; refine (within_in _ _ _ _).mono ?_; rintro e w' ⟨rfl, rfl⟩)
                  go_roundw
                  case rel => exact ⟨j + 1, by omega, by go_num, HS _ hcell, BK, HB⟩
                  case measure => simp [intOf]; omega
                · have hcell : Aside0 (cellB k j dd = false) := ⟨by rw [HD.out, e1, e2, e3]; rfl⟩
                  go_wp2_with (go_at_call 103; refine (within_in _ _ _ _).mono ?_; rintro e w' ⟨rfl, rfl⟩)
                  go_ret
                  exact RET _ hcell HB
          · have hjn : Aside0 ((List.range r.ahead.length).all (fun b => cellB k b (row.getD b 0)) = true) := by
              have e : j = r.ahead.length := by omega
              rw [← e]
              exact HOj
            go_wp2
            go_roundw
            case rel => exact ⟨k + 1, by omega, by go_num, HO' true ⟨by rw [HU.out, HL.out, hjn.out, beq_self_eq_true]; rfl⟩, BK, HB⟩
            case measure => simp [intOf]; omega
      · have hne : (((row.length : Int)) != (r.ahead.length : Int)) = true := by rw [bne_iff_ne]; omega
        go_wp2
        go_ret
        exact ⟨by rw [(HF ⟨by rw [HU.out, beq_eq_false_iff_ne.2 (by omega), Bool.false_and]⟩).out]; rfl, HB.out⟩
    · have HR : Aside0 (rowsB r = true) := by
        have e : k = r.ahead.length := by omega
        rw [e] at HO
        exact HO
      have hr : Aside0 (∀ a, a < r.ahead.length → (r.ahead.getD a []).length = r.ahead.length) := ⟨fun a ha => by
        have := List.all_eq_true.1 HR.out a (List.mem_range.2 ha)
        unfold rowB at this
        rw [Bool.and_eq_true, beq_iff_eq] at this
        exact Int.ofNat.inj this.1⟩
      clear HO
      have hm64 : (matOf r.ahead).length = 64 := stepM_length r.ahead hn8 hr.out _ (Nat.le_refl _)
      have HMM := Aside0.mk hm64
      clear hm64
      obtain ⟨q0, q1, q2, q3, q4⟩ := rosC_cells BK.out
      go_wp2_with (first | (refine store_row rfl 116 (.tmp 8) (.tmp 83) rfl g8 116 (ints zeros64) (ints (matOf r.ahead)) rfl rfl BM.out (by rw [size_ints, size_ints, HMM.out]; rfl) (by rw [size_ints, HMM.out]; kernel_rfl) (ints_one _) ?_) | (go_at_call 125; refine (matrixOf_calls A c r.ahead HN.out.2 hr.out _ (Kd.C_below H3.out HB.out)).mono ?_; rintro e w5 ⟨rfl, hb5⟩; clear q0 q1 q2 q3 q4; have BK5 := Aside0.mk (blk_below BK.out hb5); have HB5 := Aside0.mk (below_step HB.out hb5); clear hb5) | ((with_reducible refine gate_dst (N := 8) rfl ?_); refine box_event ?hg (N := 8) ?hd (cs := ints zeros64) (t := 116) ?hr ?_; (case hd => rfl); (case hg => rfl); (case hr => first | (go_simp; done) | (go_simp; rfl)); intro g8 hg8 w8 hbox hb; have BM := Aside0.mk hbox; have BK8 := Aside0.mk (blk_below BK5.out hb); have HB8 := Aside0.mk (below_step HB5.out hb); have HG8 := Aside0.mk hg8; clear hbox hb hg8))
      have BM9 := Aside0.mk (setRow_heap _ _ _ (ints (matOf r.ahead)) _ _ BM.out)
      have BK9 : Aside0 ((w8.setRow g8 (ints (matOf r.ahead))).heap[g]? = some (.cells (rosC r A c T d) 25 (0, 0))) := ⟨(setRow_other _ _ _ _ (by have h1 := blk_lt BK5.out; have h2 := HG8.out; omega)).trans BK8.out⟩
      have HB9 : Aside0 (Below w.heap.size w (w8.setRow g8 (ints (matOf r.ahead)))) := ⟨below_setRow HB8.out (by have h1 := HB5.out.size; have h2 := HG8.out; omega) _⟩
      generalize w8.setRow g8 (ints (matOf r.ahead)) = w9 at *
      clear BM BK8 HB8 BK5 HB5 BK HB
      have HMB : Aside0 (matB r = decide (matOf r.ahead = closedC r.ahead.length (matOf r.ahead))) := ⟨rfl⟩
      obtain ⟨cs, hcs⟩ : ∃ cs : List Value, Aside0 (cs = (matOf r.ahead).map (Value.int .i64)) := ⟨_, ⟨rfl⟩⟩
      obtain ⟨dd, hdd⟩ : ∃ dd : Array Value, Aside0 (dd = ints (closedC r.ahead.length (matOf r.ahead))) := ⟨_, ⟨rfl⟩⟩
      have hneq : ∀ W, (binOp .neq 116 (.agg cs.toArray) (.agg dd)).run Tryz.prog W = .ok (.bool (!matB r)) W := fun W => by
        rw [HMB.out, hcs.out, hdd.out]
        exact run_neq_mat W _ _ HMM.out ((closedC_le _ _).1.trans HMM.out)
      have hcl : ∀ W, Calls Tryz.prog 126 #[.agg cs.toArray, .int .i64 r.ahead.length] W fun e w' => e = .returned (.agg dd) ∧ Below W.heap.size W w' := fun W => by
        rw [hcs.out, hdd.out]
        exact closed_calls (matOf r.ahead) r.ahead.length HMM.out hn8 W
      clear HMB
      have hu := Tryz.underlying116
      have hi : (Tryz.prog.info? 116).map (·.size) = some cs.length := by rw [hcs.out, List.length_map, HMM.out]; kernel_rfl
      have h64 : cs.length = 64 := by rw [hcs.out, List.length_map, HMM.out]
      have h1c : ∀ v ∈ cs, v.oneCell' = true := by intro v hv; rw [hcs.out] at hv; simp only [List.mem_map] at hv; obtain ⟨x, _, rfl⟩ := hv; rfl
      have hrg : w9.rangeAt g8 0 cs := by
        rw [hcs.out]
        intro j v hv
        rw [Nat.zero_add]
        exact (blk_cell BM9.out j).trans (by simpa [ints] using hv)
      refine wp_region_held_drew (S := fun w' => w'.rangeAt g8 0 cs) (by kernel_rfl) ((World.rangeAt_drew _ _ _ _).2 hrg) (fun hS1 => ?_)
      refine wpAnyH_take (i := 0)  rfl (by kernel_rfl) (by kernel_rfl) (by kernel_rfl) (fun _ _ _ h => h) (yieldsIf_load_mid (by rfl) _ _ rfl _ _ rfl _ _ (fun w h => h) hu rfl hi) hS1 ?_
      try simp only [Act.put, List.setIfInBounds_toArray, List.set_cons_zero, List.set_cons_succ]
      refine wpAnyH_take (i := 1)  rfl (by kernel_rfl) (by kernel_rfl) (by kernel_rfl) (fun _ _ _ h => h) (yieldsIf_load_mid (by rfl) _ _ rfl _ _ rfl _ _ (fun w h => h) hu rfl hi) hS1 ?_
      try simp only [Act.put, List.setIfInBounds_toArray, List.set_cons_zero, List.set_cons_succ]
      refine wpAnyH_take (i := 2) (v := .int .i64 r.ahead.length) rfl (by kernel_rfl) (by kernel_rfl) (by kernel_rfl) (fun _ _ _ h => h) (Or.inl ⟨by rfl, fun w _ => by go_simp⟩) hS1 ?_
      try simp only [Act.put, List.setIfInBounds_toArray, List.set_cons_zero, List.set_cons_succ]
      refine wpAnyH_ready (rs := [3]) (by kernel_rfl) (by simp) (AllReadyH.cons rfl (fun K' hK => ?_) AllReadyH.nil)
      go_simp
      refine (hcl _).mono ?_
      rintro e w10 ⟨rfl, hb10⟩
      refine hK.out _ _ (rangeAt_below hS1 hb10) (fun hS2 => ?_)
      clear hK K'
      try simp only [Act.put, List.setIfInBounds_toArray, List.set_cons_zero, List.set_cons_succ]
      refine wpAnyH_take (i := 4) (v := .bool (!matB r)) rfl (by kernel_rfl) (by kernel_rfl) (by kernel_rfl) (fun _ _ _ h => h) (Or.inl ⟨by rfl, fun w _ => by go_simp⟩) hS2 ?_
      try simp only [Act.put, List.setIfInBounds_toArray, List.set_cons_zero, List.set_cons_succ]
      refine wpAnyH_done (by kernel_rfl) ?_ _
      have BK := Aside0.mk (blk_below (blk_drew BK9.out) hb10)
      have HB := Aside0.mk (below_step (below_drew HB9.out) hb10)
      clear hS1 hS2 hb10 hrg hcl hneq hu hi h64 h1c BM9 BK9 HB9
      cases hmat : matB r
      · go_wp2
        go_ret
        exact ⟨by unfold checkE; rw [HC.out, hmat, Bool.false_and, Bool.and_false]; rfl, HB.out⟩
      · have HC2 : Aside0 (checkE r = if turnsB r then 0 else 70) := ⟨by unfold checkE; rw [HC.out, HR.out, hmat, Bool.true_and, Bool.true_and]⟩
        clear hmat HC
        obtain ⟨q0, q1, q2, q3, q4⟩ := rosC_cells BK.out
        go_wp2
        clear q0 q1 q2 q3 q4
        go_loopw [92] (fun i wr => ∃ k : Nat, k ≤ r.turns.length ∧ i = .int .i64 k ∧ Aside0 ((List.range k).all (fun i => turnB r (r.turns.getD i Trn.z)) = true) ∧ Aside0 (wr.heap[g]? = some (.cells (rosC r A c T d) 25 (0, 0))) ∧ Aside0 (Below w.heap.size w wr)) (fun i _ => r.turns.length - (intOf i).toNat)
        case atStart => exact ⟨0, Nat.zero_le _, rfl, ⟨rfl⟩, BK, HB⟩
        case round =>
          clear BK HB
          obtain ⟨k, hk, rfl, HO, BK, HB⟩ := hrel
          by_cases hlt : k < r.turns.length
          · obtain ⟨ad, hA, g0, g1, g2, g3, g4, g5⟩ := CT_at (Kd.C_below H4.out HB.out) k (by omega) (by omega)
            cases hA
            rw [show ((k : Int)).toNat = k from rfl] at g0 g1 g2 g3 g4 g5
            have HS : ∀ b : Bool, Aside0 (turnB r (r.turns.getD k Trn.z) = b) → Aside0 ((List.range (k + 1)).all (fun i => turnB r (r.turns.getD i Trn.z)) = b) := fun b hb => ⟨by rw [all_range_succ, HO.out, hb.out, Bool.true_and]⟩
            have HE : Aside0 (turnB r (r.turns.getD k Trn.z) = false) → Aside0 (checkE r = 70) := fun hb => ⟨by rw [HC2.out]; unfold turnsB; rw [all_range_false hlt hb.out]; rfl⟩
            generalize r.turns.getD k Trn.z = tt at *
            have RET : ∀ w' : World, Aside0 (turnB r tt = false) → Aside0 (Below w.heap.size w w') → (Ending.returned (.int .i64 70) = Ending.returned (.int .i64 (checkE r)) ∧ Below w.heap.size w w') := fun w' h1 h2 => ⟨by rw [(HE h1).out], h2.out⟩
            have HD : Aside0 (turnB r tt = (isTurnB tt && (!decide (r.gates ≤ tt.gate) && (!decide ((r.ahead.length : Int) ≤ tt.clock) && !decide ((r.ahead.length : Int) ≤ tt.clock2))))) := ⟨rfl⟩
            clear HE
            have p0 := World.block_lt_of_cell? wr _ g0
            have pg := blk_lt BK.out
            obtain ⟨q0, q1, q2, q3, q4⟩ := rosC_cells BK.out
            cases e1 : isTurnB tt
            · have hcell : Aside0 (turnB r tt = false) := ⟨by rw [HD.out, e1, Bool.false_and]⟩
              go_wp2_with (go_at_call 127; refine (isTurn_calls tt _).mono ?_; rintro e w11 ⟨rfl, hb11⟩; obtain ⟨hc11, hf11⟩ := bcell hb11; have hz11 : wr.heap.size < w11.heap.size := (by have := hb11.size; simp at this; omega); have BK11 := Aside0.mk (blk_below (blk_alloc BK.out _) hb11); have HB11 := Aside0.mk (below_step (below_alloc HB.out _) hb11))
              go_ret
              exact RET _ hcell HB11
            · rw [e1, Bool.true_and] at HD
              go_wp2_with (go_at_call 127; refine (isTurn_calls tt _).mono ?_; rintro e w11 ⟨rfl, hb11⟩; obtain ⟨hc11, hf11⟩ := bcell hb11; have hz11 : wr.heap.size < w11.heap.size := (by have := hb11.size; simp at this; omega); have BK11 := Aside0.mk (blk_below (blk_alloc BK.out _) hb11); have HB11 := Aside0.mk (below_step (below_alloc HB.out _) hb11))
              all_goals first
                | (go_ret; exact RET _ ⟨by rw [HD.out]; first | (simp [*]; done) | (simp [*]; omega)⟩ HB11)
                | (go_roundw
                   case rel => exact ⟨k + 1, by omega, by go_num, HS true ⟨by rw [HD.out]; first | (simp [*]; done) | (simp [*]; omega)⟩, BK11, HB11⟩
                   case measure => simp [intOf]; omega)
          · have HO' : Aside0 (turnsB r = true) := by
              have e : k = r.turns.length := by omega
              rw [e] at HO
              exact HO
            go_wp2
            go_ret
            exact ⟨by rw [HC2.out, HO'.out]; rfl, HB.out⟩
end Go.Proofs.YtflolfbkpjgjaaaGreatDoor
end
section
namespace Go.Proofs.YtflolfbkpjgjaaaGreatDoor
open Go.RowKit Go.Proofs.YtflolfbkpjgjaaaGreatDoorW.PrintWords
theorem check_calls (v : Value) (r : Ros) (w : World) (hv : RosAt w v r) : Calls Tryz.prog 48 #[v] w fun e w' => e = .returned (.int .i64 (checkE r)) ∧ Below w.heap.size w w' := by
  cases h : headB r
  · have : checkE r = 70 := by unfold checkE checkB; rw [h, Bool.false_and]; rfl
    rw [this]
    exact check_head v r w hv h
  · exact check_body v r w hv h
theorem all_range_iff (n : Nat) (f : Nat → Bool) : (List.range n).all f = true ↔ ∀ i, i < n → f i = true := by
  rw [List.all_eq_true]
  exact ⟨fun h i hi => h i (List.mem_range.2 hi), fun h i hi => h i (List.mem_range.1 hi)⟩
theorem headB_iff (r : Ros) : headB r = true ↔ (1 ≤ r.gates ∧ r.gates ≤ 8) ∧ 0 ≤ r.frm ∧ r.frm < r.til ∧ r.til ≤ 16777216 ∧ (1 ≤ r.ahead.length ∧ r.ahead.length ≤ 8) ∧ r.turns.length ≤ 24 := by
  unfold headB
  simp only [Bool.and_eq_true, inB_iff, Bool.not_eq_true', decide_eq_false_iff_not]
  omega
theorem rowsB_iff (r : Ros) : rowsB r = true ↔ ∀ a, a < r.ahead.length → (r.ahead.getD a []).length = r.ahead.length ∧ ∀ b, b < r.ahead.length → (-1048576 ≤ (r.ahead.getD a []).getD b 0 ∧ (r.ahead.getD a []).getD b 0 ≤ 1048576) ∧ (a = b → (r.ahead.getD a []).getD b 0 = 0) := by
  unfold rowsB
  rw [all_range_iff]
  refine forall_congr' fun a => forall_congr' fun ha => ?_
  unfold rowB
  rw [Bool.and_eq_true, all_range_iff, beq_iff_eq, Int.natCast_inj]
  refine and_congr Iff.rfl (forall_congr' fun b => forall_congr' fun hb => ?_)
  unfold cellB
  rw [Bool.and_eq_true, inB_iff]
  refine and_congr Iff.rfl ?_
  rw [Bool.not_eq_true', Bool.and_eq_false_iff, beq_eq_false_iff_ne, bne_eq_false_iff_eq]
  constructor
  · rintro (h | h) e
    · exact absurd (congrArg Int.ofNat e) h
    · exact h
  · intro h
    by_cases e : a = b
    · exact .inr (h e)
    · exact .inl (fun h' => e (Int.ofNat.inj h'))
theorem matB_iff (r : Ros) (hl : r.ahead.length ≤ 8) (h : rowsB r = true) : matB r = true ↔ ∀ a b c, a < r.ahead.length → b < r.ahead.length → c < r.ahead.length →
    (r.ahead.getD a []).getD c 0 ≤ (r.ahead.getD a []).getD b 0 + (r.ahead.getD b []).getD c 0 := by
  rw [rowsB_iff] at h
  have hr : ∀ a, a < r.ahead.length → (r.ahead.getD a []).length = r.ahead.length := fun a ha => (h a ha).1
  have hm : (matOf r.ahead).length = 64 := stepM_length r.ahead hl hr _ (Nat.le_refl _)
  have hat : ∀ a c, a < 8 → c < 8 → mat (matOf r.ahead) a c = if a < r.ahead.length ∧ c < r.ahead.length then (r.ahead.getD a []).getD c 0 else 0 := matOf_at r.ahead hl hr _ (Nat.le_refl _)
  have hb : ∀ i, -1048576 ≤ (matOf r.ahead).getD i 0 ∧ (matOf r.ahead).getD i 0 ≤ 1048576 := by
    intro i
    by_cases hi : i < 64
    · have := hat (i / 8) (i % 8) (by omega) (by omega)
      unfold mat at this
      rw [show i / 8 * 8 + i % 8 = i from by omega] at this
      rw [this]
      split
      · rename_i hc
        exact ((h _ hc.1).2 _ hc.2).1
      · omega
    · rw [List.getD_eq_getElem?_getD, List.getElem?_eq_none (by omega)]
      simp
  unfold matB
  rw [decide_eq_true_eq, eq_comm, closedC_iff _ _ hm hl hb]
  refine forall_congr' fun a => forall_congr' fun b => forall_congr' fun c => forall_congr' fun ha => forall_congr' fun hb' => forall_congr' fun hc => ?_
  rw [hat a c (by omega) (by omega), hat a b (by omega) (by omega), hat b c (by omega) (by omega), if_pos ⟨ha, hc⟩, if_pos ⟨ha, hb'⟩, if_pos ⟨hb', hc⟩]
theorem turnsB_iff (r : Ros) : turnsB r = true ↔ ∀ i, i < r.turns.length → isTurnB (r.turns.getD i Trn.z) = true ∧ (r.turns.getD i Trn.z).gate < r.gates ∧ (r.turns.getD i Trn.z).clock < r.ahead.length ∧ (r.turns.getD i Trn.z).clock2 < r.ahead.length := by
  unfold turnsB
  rw [all_range_iff]
  refine forall_congr' fun i => forall_congr' fun hi => ?_
  unfold turnB
  simp only [Bool.and_eq_true, Bool.not_eq_true', decide_eq_false_iff_not, Int.not_le]
theorem isTurnB_iff (t : Trn) : isTurnB t = true ↔ (0 ≤ t.gate ∧ t.gate ≤ 7) ∧ (0 ≤ t.clock ∧ t.clock ≤ 7) ∧ (0 ≤ t.clock2 ∧ t.clock2 ≤ 7) ∧ (0 ≤ t.frm ∧ t.frm ≤ 16777216) ∧ (0 ≤ t.til ∧ t.til ≤ 16777216) ∧ (0 ≤ t.cost ∧ t.cost ≤ 10000) := by
  unfold isTurnB
  simp only [Bool.and_eq_true, inB_iff]
theorem checkB_iff (r : Ros) : checkB r = true ↔ Valid r := by
  unfold checkB
  rw [Bool.and_eq_true, Bool.and_eq_true, Bool.and_eq_true]
  constructor
  · rintro ⟨h1, h2, h3, h4⟩
    rw [headB_iff] at h1
    obtain ⟨g, f, ft, tl, cl, tu⟩ := h1
    rw [matB_iff r cl.2 h2] at h3
    rw [rowsB_iff] at h2
    rw [turnsB_iff] at h4
    refine ⟨g, f, ft, tl, cl, tu, fun a a0 a1 => (h2 a.toNat (by omega)).1, fun a a0 a1 => ((h2 a.toNat (by omega)).2 a.toNat (by omega)).2 rfl, fun a b a0 a1 b0 b1 => ((h2 a.toNat (by omega)).2 b.toNat (by omega)).1,
      fun a b c a0 a1 b0 b1 c0 c1 => h3 a.toNat b.toNat c.toNat (by omega) (by omega) (by omega), fun i i0 i1 => ?_⟩
    have := h4 i.toNat (by omega)
    rw [isTurnB_iff] at this
    unfold tn
    omega
  · intro V
    have h2 : rowsB r = true := by
      rw [rowsB_iff]
      intro a ha
      have e : ((a : Nat) : Int).toNat = a := rfl
      refine ⟨V.row a (by omega) (by omega), fun b hb => ⟨V.bnd a b (by omega) (by omega) (by omega) (by omega), ?_⟩⟩
      rintro rfl
      exact V.zero a (by omega) (by omega)
    refine ⟨(headB_iff r).2 ⟨V.gates, V.frm, V.frmtil, V.til, V.clocks, V.turns⟩, h2, ?_, ?_⟩
    · rw [matB_iff r V.clocks.2 h2]
      exact fun a b c ha hb hc => V.tri a b c (by omega) (by omega) (by omega) (by omega) (by omega) (by omega)
    · rw [turnsB_iff]
      intro i hi
      have h1 := V.turn i (by omega) (by omega)
      have h3 := V.gates
      have h4 := V.clocks
      unfold tn at h1
      rw [show ((i : Nat) : Int).toNat = i from rfl] at h1
      rw [isTurnB_iff]
      omega
theorem checkE_valid {r : Ros} (V : Valid r) : checkE r = 0 := by unfold checkE; rw [(checkB_iff r).2 V]; rfl
theorem checkE_not {r : Ros} (V : ¬ Valid r) : checkE r = 70 := by
  unfold checkE
  have : checkB r = false := by
    cases h : checkB r
    · rfl
    · exact absurd ((checkB_iff r).1 h) V
  rw [this]
  rfl
end Go.Proofs.YtflolfbkpjgjaaaGreatDoor
end
section
namespace Go.Proofs.YtflolfbkpjgjaaaGreatDoorW.PrintWords
theorem Reps.one {α : Type} {R : α → List Value → Prop} {ps : List α} {cs : List Value} {p : α} {v : Value} (hp : R p [v]) (h : Reps R 1 ps cs) : Reps R 1 (p :: ps) (v :: cs) := by
  refine ⟨by simp [h.1], fun j q hq => ?_⟩
  cases j with
  | zero =>
    simp only [List.getElem?_cons_zero, Option.some.injEq] at hq
    subst hq
    simpa using hp
  | succ j =>
    simp only [List.getElem?_cons_succ] at hq
    have h1 := h.2 j q hq
    simpa [Nat.mul_one] using h1
theorem Reps.front {α : Type} {R : α → List Value → Prop} {size : Nat} {ps : List α} {cs c all : List Value} {p : α} (hp : R p c) (hc : c.length = size) (h : Reps R size ps cs) (ha : c ++ cs = all) : Reps R size (p :: ps) all := by
  subst ha
  refine ⟨by rw [List.length_append, hc, h.1, List.length_cons, Nat.succ_mul, Nat.add_comm], fun j q hq => ?_⟩
  cases j with
  | zero =>
    simp only [List.getElem?_cons_zero, Option.some.injEq] at hq
    subst hq
    rw [Nat.zero_mul, List.drop_zero, List.take_append_of_le_length (by omega), List.take_of_length_le (by omega)]
    exact hp
  | succ j =>
    simp only [List.getElem?_cons_succ] at hq
    have h1 := h.2 j q hq
    rw [Nat.succ_mul, List.drop_append, List.drop_of_length_le (by rw [hc]; exact Nat.le_add_left _ _), List.nil_append, hc, Nat.add_sub_cancel]
    exact h1
theorem Reps.c2 {α : Type} {R : α → List Value → Prop} {ps : List α} {cs : List Value} {p : α} {va vb : Value} (hp : R p [va, vb]) (h : Reps R 2 ps cs) : Reps R 2 (p :: ps) (va :: vb :: cs) := Reps.front hp rfl h rfl
theorem Reps.c3 {α : Type} {R : α → List Value → Prop} {ps : List α} {cs : List Value} {p : α} {va vb vc : Value} (hp : R p [va, vb, vc]) (h : Reps R 3 ps cs) : Reps R 3 (p :: ps) (va :: vb :: vc :: cs) := Reps.front hp rfl h rfl
theorem Reps.c4 {α : Type} {R : α → List Value → Prop} {ps : List α} {cs : List Value} {p : α} {va vb vc vd : Value} (hp : R p [va, vb, vc, vd]) (h : Reps R 4 ps cs) : Reps R 4 (p :: ps) (va :: vb :: vc :: vd :: cs) := Reps.front hp rfl h rfl
theorem Reps.c5 {α : Type} {R : α → List Value → Prop} {ps : List α} {cs : List Value} {p : α} {va vb vc vd ve : Value} (hp : R p [va, vb, vc, vd, ve]) (h : Reps R 5 ps cs) : Reps R 5 (p :: ps) (va :: vb :: vc :: vd :: ve :: cs) := Reps.front hp rfl h rfl
theorem Reps.c6 {α : Type} {R : α → List Value → Prop} {ps : List α} {cs : List Value} {p : α} {va vb vc vd ve vf : Value} (hp : R p [va, vb, vc, vd, ve, vf]) (h : Reps R 6 ps cs) : Reps R 6 (p :: ps) (va :: vb :: vc :: vd :: ve :: vf :: cs) := Reps.front hp rfl h rfl
theorem Reps.c7 {α : Type} {R : α → List Value → Prop} {ps : List α} {cs : List Value} {p : α} {va vb vc vd ve vf vg : Value} (hp : R p [va, vb, vc, vd, ve, vf, vg]) (h : Reps R 7 ps cs) : Reps R 7 (p :: ps) (va :: vb :: vc :: vd :: ve :: vf :: vg :: cs) := Reps.front hp rfl h rfl
theorem Reps.c8 {α : Type} {R : α → List Value → Prop} {ps : List α} {cs : List Value} {p : α} {va vb vc vd ve vf vg vh : Value} (hp : R p [va, vb, vc, vd, ve, vf, vg, vh]) (h : Reps R 8 ps cs) : Reps R 8 (p :: ps) (va :: vb :: vc :: vd :: ve :: vf :: vg :: vh :: cs) := Reps.front hp rfl h rfl
theorem Reps.c9 {α : Type} {R : α → List Value → Prop} {ps : List α} {cs : List Value} {p : α} {va vb vc vd ve vf vg vh vi : Value} (hp : R p [va, vb, vc, vd, ve, vf, vg, vh, vi]) (h : Reps R 9 ps cs) : Reps R 9 (p :: ps) (va :: vb :: vc :: vd :: ve :: vf :: vg :: vh :: vi :: cs) := Reps.front hp rfl h rfl
theorem Reps.c10 {α : Type} {R : α → List Value → Prop} {ps : List α} {cs : List Value} {p : α} {va vb vc vd ve vf vg vh vi vj : Value} (hp : R p [va, vb, vc, vd, ve, vf, vg, vh, vi, vj]) (h : Reps R 10 ps cs) : Reps R 10 (p :: ps) (va :: vb :: vc :: vd :: ve :: vf :: vg :: vh :: vi :: vj :: cs) := Reps.front hp rfl h rfl
end Go.Proofs.YtflolfbkpjgjaaaGreatDoorW.PrintWords
end
section
namespace Go.Proofs.YtflolfbkpjgjaaaGreatDoorW.PrintLast
def up (b : Nat → Bool) (i : Nat) : Nat → Bool := fun j => if j = i then true else b j
section
variable {P : Program} {ops : Array Oper} {Q : Exit → Act → World → Prop} {md : Region.Mode} {T : Bool × List (List Nat × List Nat)} {B : List Nat} {O : List Nat} {b : Nat → Bool} {i j n : Nat}
def Closed (T : List (List Nat × List Nat)) (O : List Nat) (b : Nat → Bool) : Prop := ∀ d r, T[d]? = some r → O.contains d = true → b d = true → ∀ n ∈ r.1, O.contains n = true → b n = true
end
end Go.Proofs.YtflolfbkpjgjaaaGreatDoorW.PrintLast
end
section
namespace Go.Proofs.YtflolfbkpjgjaaaGreatDoorW.PrintWords
open Go.RowKit
section
variable {P : Program} {ops : Array Oper} {rest : List Oper} {o : Oper} {a : Act} {Q : Exit → Act → World → Prop} {W : World}
theorem gate_guard (hw : Region.wanted o (yielded ops a.tmps) = true) (h : wpList P ops Q ({ o with guard := none } :: rest) a W) : wpList P ops Q (o :: rest) a W := by
  have h1 : Region.wanted { o with guard := none } (yielded ops a.tmps) = true := rfl
  unfold wpList at h ⊢
  rw [if_pos h1] at h
  rw [if_pos hw]
  exact h
end
end Go.Proofs.YtflolfbkpjgjaaaGreatDoorW.PrintWords
end
section
namespace Go.Proofs.YtflolfbkpjgjaaaGreatDoor
open Go.RowKit Go.Proofs.YtflolfbkpjgjaaaGreatDoorW.PrintWords
open Go.Proofs.YtflolfbkpjgjaaaGreatDoorW.PrintLast Go.Proofs.YtflolfbkpjgjaaaGreatDoorW.PrintMore
attribute [local go_sem] max2_int min2_int max_two min_two max_three min_three max_four min_four
def errW : Option Int → Value
  | none => .nilIface
  | some c => .iface 0 (.int .i64 c)
theorem errW_none : errW none = .nilIface := rfl
theorem errW_some (c : Int) : errW (some c) = .iface 0 (.int .i64 c) := rfl
theorem info3 : (Tryz.prog.info? 3).map (fun i => (i.zero, i.size, i.bytes)) = some (some (.int .i64 0), 1, 8) := by kernel_rfl
theorem info26 : (Tryz.prog.info? 26).map (fun i => (i.zero, i.size, i.bytes)) = some (some (.slice none 0 0), 1, 24) := by kernel_rfl
theorem info45 : (Tryz.prog.info? 45).map (fun i => (i.zero, i.size, i.bytes)) = some (some (.agg #[(.int .i64 0), (.int .i64 0), (.int .i64 0), (.int .i64 0), (.int .i64 0), (.int .i64 0)]), 6, 48) := by kernel_rfl
def rd_L1 (xs : List (List Int)) (i : Int) : (List Int) := xs.getD i.toNat ([] : List Int)
theorem at_L1 {w : World} {A : Option Addr} {n : Nat} {xs : List (List Int)} (h : Kd.C (Kd.slice 3 (Kd.int .i64)) w A n xs) (i : Int) (h0 : 0 ≤ i) (h1 : i < n) : ∃ ad A0 c0, A = some ad ∧ w.cell? (ad.add i.toNat) = some (.slice A0 (rd_L1 xs i).length c0) ∧ (rd_L1 xs i).length ≤ c0 ∧ (Kd.int .i64).C w A0 (rd_L1 xs i).length (rd_L1 xs i) := by
  obtain ⟨ad, c, e, _, hK, hc0⟩ := Kd.C_get h ([] : List Int) i h0 h1
  have hc : ∀ j u, c[j]? = some u → w.cell? (ad.add (i.toNat * 1 + j)) = some u := hc0
  obtain ⟨A0, c0, rfl, l0, g0⟩ := hK
  exact ⟨ad, A0, c0, e, by have hq := hc 0 _ rfl; rwa [Nat.mul_one, Nat.add_zero] at hq, l0, g0⟩
theorem kTrn_mk (w : World) (x : Trn)  : kTrn.K w x [.int .i64 x.gate, .int .i64 x.clock, .int .i64 x.frm, .int .i64 x.clock2, .int .i64 x.til, .int .i64 x.cost] := ⟨[.int .i64 x.gate], [.int .i64 x.clock, .int .i64 x.frm, .int .i64 x.clock2, .int .i64 x.til, .int .i64 x.cost], rfl, rfl, ⟨[.int .i64 x.clock], [.int .i64 x.frm, .int .i64 x.clock2, .int .i64 x.til, .int .i64 x.cost], rfl, rfl, ⟨[.int .i64 x.frm], [.int .i64 x.clock2, .int .i64 x.til, .int .i64 x.cost], rfl, rfl, ⟨[.int .i64 x.clock2], [.int .i64 x.til, .int .i64 x.cost], rfl, rfl, ⟨[.int .i64 x.til], [.int .i64 x.cost], rfl, rfl, rfl⟩⟩⟩⟩⟩
theorem kTrn_mkM (w : World) (base : Nat) (ok : Nat → Prop) (x : Trn)  : kTrn.M w base ok x [.int .i64 x.gate, .int .i64 x.clock, .int .i64 x.frm, .int .i64 x.clock2, .int .i64 x.til, .int .i64 x.cost] := ⟨[.int .i64 x.gate], [.int .i64 x.clock, .int .i64 x.frm, .int .i64 x.clock2, .int .i64 x.til, .int .i64 x.cost], rfl, rfl, ⟨[.int .i64 x.clock], [.int .i64 x.frm, .int .i64 x.clock2, .int .i64 x.til, .int .i64 x.cost], rfl, rfl, ⟨[.int .i64 x.frm], [.int .i64 x.clock2, .int .i64 x.til, .int .i64 x.cost], rfl, rfl, ⟨[.int .i64 x.clock2], [.int .i64 x.til, .int .i64 x.cost], rfl, rfl, ⟨[.int .i64 x.til], [.int .i64 x.cost], rfl, rfl, rfl⟩⟩⟩⟩⟩
end Go.Proofs.YtflolfbkpjgjaaaGreatDoor
end
