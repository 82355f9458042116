/- Words for memory and small laws of the seat's proofs; no program in sight. -/
import Derived.WalkKit
import Derived.WalkLawsBesides
import Derived.WalkSpells
import Derived.Lib.Hide
import Derived.Deep.Draws
import Derived.Maps.AppendAt
namespace Go.Proofs.Ytpgmfjipkhldmaa
set_option linter.unusedVariables false
open Go.RowKit

theorem Below.via {W w w' : World} (h : Below w.heap.size w W) (hb : Below W.heap.size W w') : Below w.heap.size w w' := h.trans (hb.mono h.size)
theorem Below.alloc1 {w w' : World} (h : Below w.heap.size w w') (o : Obj) : Below w.heap.size w (w'.alloc o) := h.alloc h.size o
theorem Below.drewN {B : Nat} {a w : World} (h : Below B a w) (n : Nat) : Below B a (w.drewN n) := ⟨h.os, h.tape, h.output, h.size, h.block⟩
theorem bcell {W w1 : World} (hb : Below W.heap.size W w1) : (∀ b o, b < W.heap.size → w1.cell? ⟨b, o, none⟩ = W.cell? ⟨b, o, none⟩) ∧ (∀ b o, b < W.heap.size → w1.frozen? ⟨b, o, none⟩ = W.frozen? ⟨b, o, none⟩) :=
  ⟨fun b o h => hb.cell (p := ⟨b, o, none⟩) h, fun b o h => hb.frozen (p := ⟨b, o, none⟩) h⟩
theorem ret_bool {a b : Bool} (h : a = b) : Ending.returned (.bool a) = .returned (.bool b) := by rw [h]
theorem ret_int {k : IntKind} {a b : Int} (h : a = b) : Ending.returned (.int k a) = .returned (.int k b) := by rw [h]
theorem ret_val {a b : Value} (h : a = b) : Ending.returned a = .returned b := by rw [h]

/-- 'lo ≤ n ≤ hi', as a test. -/
def inB (n lo hi : Int) : Bool := decide (lo ≤ n) && decide (n ≤ hi)
theorem inB_lo {n lo hi : Int} (h : n < lo) : inB n lo hi = false := by unfold inB; simp; omega
theorem inB_hi {n lo hi : Int} (h : lo ≤ n) : inB n lo hi = decide (n ≤ hi) := by unfold inB; simp [h]
theorem inB_true {n lo hi : Int} : inB n lo hi = true ↔ lo ≤ n ∧ n ≤ hi := by unfold inB; simp
theorem inB_false {n lo hi : Int} : inB n lo hi = false ↔ n < lo ∨ hi < n := by
  rw [← Bool.not_eq_true, inB_true]; omega

/-! ### What may have changed: blocks from B on and below T, and new ones -/
structure Fr (B T : Nat) (w w' : World) : Prop where
  os : w'.os = w.os
  tape : w'.tape = w.tape
  output : w'.output = w.output
  size : w.heap.size ≤ w'.heap.size
  block : ∀ k, k < w.heap.size → (k < B ∨ T ≤ k) → w'.heap[k]? = w.heap[k]?

section
variable {B T B' T' size n c : Nat} {e : TypeId} {w w' w'' : World} {A : Option Addr} {xs : List Value}

theorem Fr.refl (B T : Nat) (w : World) : Fr B T w w := ⟨rfl, rfl, rfl, Nat.le_refl _, fun _ _ _ => rfl⟩
theorem Fr.trans (h : Fr B T w w') (k : Fr B T w' w'') : Fr B T w w'' :=
  ⟨k.os.trans h.os, k.tape.trans h.tape, k.output.trans h.output, Nat.le_trans h.size k.size, fun i hi hb => (k.block i (Nat.lt_of_lt_of_le hi h.size) hb).trans (h.block i hi hb)⟩
theorem Fr.wide (h : Fr B T w w') (hB : B' ≤ B) (hT : T ≤ T') : Fr B' T' w w' := ⟨h.os, h.tape, h.output, h.size, fun k hk hb => h.block k hk (by omega)⟩
theorem Fr.of_below (h : Below w.heap.size w w') (B T : Nat) : Fr B T w w' := ⟨h.os, h.tape, h.output, h.size, fun k hk _ => h.block k hk⟩
theorem Fr.below (h : Fr B T w w') {W : Nat} (h1 : W ≤ B) (h2 : W ≤ w.heap.size) : Below W w w' := ⟨h.os, h.tape, h.output, h.size, fun k hk => h.block k (by omega) (.inl (by omega))⟩
theorem Fr.below0 (h : Fr B 0 w w') : Below w.heap.size w w' := ⟨h.os, h.tape, h.output, h.size, fun k hk => h.block k hk (.inr (Nat.zero_le _))⟩
theorem Fr.alloc (h : Fr B T w w') (o : Obj) : Fr B T w (w'.alloc o) := h.trans ⟨rfl, rfl, rfl, by simp, fun k hk _ => Below.heap_alloc _ _ _ hk⟩
theorem Fr.drew (h : Fr B T w w') : Fr B T w w'.drew := ⟨h.os, h.tape, h.output, h.size, h.block⟩
theorem Fr.drewN (h : Fr B T w w') (n : Nat) : Fr B T w (w'.drewN n) := ⟨h.os, h.tape, h.output, h.size, h.block⟩
theorem Fr.setCell (h : Fr B T w w') {p : Addr} (h1 : B ≤ p.block) (h2 : p.block < T) (u : Value) : Fr B T w (w'.setCell p u) :=
  h.trans ⟨rfl, rfl, rfl, by simp, fun k _ hb => Below.heap_setCell _ _ _ _ (by omega)⟩
/-- What is written behind in memory of the call's own. -/
theorem Fr.own (h : Fr B T w w') (k : Fr w.heap.size T' w' w'') : Fr B T w w'' :=
  ⟨k.os.trans h.os, k.tape.trans h.tape, k.output.trans h.output, Nat.le_trans h.size k.size, fun i hi hb => (k.block i (Nat.lt_of_lt_of_le hi h.size) (.inl hi)).trans (h.block i hi hb)⟩
theorem Fr.cell (h : Fr B T w w') {p : Addr} (hp : p.block < w.heap.size) (hb : p.block < B ∨ T ≤ p.block) : w'.cell? p = w.cell? p := World.cell?_of_block (w := w) (h.block p.block hp hb)

/-! ### A slice that reads as a list of cells; its block lies from B on and below T -/
def Rd (w : World) (B T size : Nat) (A : Option Addr) (n : Nat) (xs : List Value) : Prop :=
  xs.length = n * size ∧ (0 < n → ∃ b o, A = some ⟨b, o, none⟩ ∧ B ≤ b ∧ b < T ∧ ∀ j u, xs[j]? = some u → w.cell? ⟨b, o + j, none⟩ = some u)

theorem Rd.nil (w : World) (B T size : Nat) (A : Option Addr) : Rd w B T size A 0 [] := ⟨by simp, fun h => absurd h (by omega)⟩
theorem Rd.mono (h : Rd w B T size A n xs) (hB : B' ≤ B) (hT : T ≤ T') : Rd w B' T' size A n xs :=
  ⟨h.1, fun hn => by
    obtain ⟨b, o, h1, h2, h3, h4⟩ := h.2 hn
    exact ⟨b, o, h1, by omega, by omega, h4⟩⟩
theorem Rd.fr (h : Rd w B T size A n xs) (hf : Fr B' T' w w') (hd : T ≤ B' ∨ T' ≤ B) : Rd w' B T size A n xs :=
  ⟨h.1, fun hn => by
    obtain ⟨b, o, h1, h2, h3, h4⟩ := h.2 hn
    exact ⟨b, o, h1, h2, h3, fun j u hu => (hf.cell (p := ⟨b, o + j, none⟩) (World.block_lt_of_cell? w _ (h4 j u hu)) (by show b < B' ∨ T' ≤ b; omega)).trans (h4 j u hu)⟩⟩
theorem Rd.below (h : Rd w B T size A n xs) (hb : Below w.heap.size w w') : Rd w' B T size A n xs := h.fr (Fr.of_below hb T T) (.inl (Nat.le_refl _))
theorem Rd.belowT (h : Rd w B T size A n xs) (hb : Below T w w') : Rd w' B T size A n xs :=
  ⟨h.1, fun hn => by
    obtain ⟨b, o, h1, h2, h3, h4⟩ := h.2 hn
    exact ⟨b, o, h1, h2, h3, fun j u hu => (hb.cell (p := ⟨b, o + j, none⟩) h3).trans (h4 j u hu)⟩⟩
theorem Rd.drew (h : Rd w B T size A n xs) : Rd w.drew B T size A n xs := h
theorem Rd.alloc (h : Rd w B T size A n xs) (o : Obj) : Rd (w.alloc o) B T size A n xs := h.below ((Below.refl _ _).alloc (Nat.le_refl _) o)
theorem Rd.set (h : Rd w B T size A n xs) {p : Addr} (hp : p.block < B ∨ T ≤ p.block) (u : Value) : Rd (w.setCell p u) B T size A n xs :=
  h.fr (B' := p.block) (T' := p.block + 1) ((Fr.refl _ _ _).setCell (Nat.le_refl _) (Nat.lt_succ_self _) u) (by omega)
theorem Rd.lt (h : Rd w B T size A n xs) (hs : 0 < size) (hn : 0 < n) : ∃ b o, A = some ⟨b, o, none⟩ ∧ B ≤ b ∧ b < T ∧ b < w.heap.size := by
  obtain ⟨b, o, h1, h2, h3, h4⟩ := h.2 hn
  have hl : 0 < xs.length := by rw [h.1]; exact Nat.mul_pos hn hs
  exact ⟨b, o, h1, h2, h3, World.block_lt_of_cell? w _ (h4 0 xs[0] (List.getElem?_eq_getElem hl))⟩
/-- .. and in what memory it lies. -/
theorem Rd.here (h : Rd w B T size A n xs) (hs : 0 < size) : Rd w 0 w.heap.size size A n xs :=
  ⟨h.1, fun hn => by
    obtain ⟨b, o, h1, h2, h3, h4⟩ := h.2 hn
    obtain ⟨b', o', h1', _, _, h5⟩ := h.lt hs hn
    rw [h1] at h1'
    injection h1' with h1'
    injection h1' with hb ho
    subst hb
    exact ⟨b, o, h1, Nat.zero_le _, h5, h4⟩⟩
/-- A cut 's[k:]', the model's way. -/
theorem Rd.cut (h : Rd w B T size A n xs) {k cap : Nat} (hk : k ≤ n) (hc : n ≤ cap) : Rd w B T size (if cap = k then A else A.map (·.add (k * size))) (n - k) (xs.drop (k * size)) := by
  refine ⟨by rw [List.length_drop, h.1, Nat.sub_mul], fun hn => ?_⟩
  obtain ⟨b, o, rfl, h2, h3, h4⟩ := h.2 (by omega)
  rw [if_neg (by omega)]
  refine ⟨b, o + k * size, by simp [Addr.add_lit], h2, h3, fun j u hu => ?_⟩
  rw [Nat.add_assoc]
  exact h4 _ u (by rw [← hu, List.getElem?_drop])
/-- A cut 's[:k]'. -/
theorem Rd.take (h : Rd w B T size A n xs) {k : Nat} (hk : k ≤ n) : Rd w B T size A k (xs.take (k * size)) := by
  refine ⟨by rw [List.length_take, h.1]; exact Nat.min_eq_left (Nat.mul_le_mul_right _ hk), fun hn => ?_⟩
  obtain ⟨b, o, h1, h2, h3, h4⟩ := h.2 (by omega)
  refine ⟨b, o, h1, h2, h3, fun j u hu => h4 j u ?_⟩
  rw [List.getElem?_take] at hu
  split at hu
  · exact hu
  · cases hu

/-! ### A slice of the call's own: its block is known whole -/
def Own (w : World) (B T : Nat) (e : TypeId) (size : Nat) (A : Option Addr) (n c : Nat) (xs : List Value) : Prop :=
  xs.length = n * size ∧ ((n = 0 ∧ c = 0) ∨ ∃ g o cur, A = some ⟨g, o, none⟩ ∧ B ≤ g ∧ g < T ∧ w.heap[g]? = some (.cells cur e (0, 0)) ∧ n ≤ c ∧ c ≤ maxLen ∧ o + c * size ≤ cur.size ∧ ∀ j u, xs[j]? = some u → cur[o + j]? = some u)

theorem Own.nil (w : World) (B T : Nat) (e : TypeId) (size : Nat) (A : Option Addr) : Own w B T e size A 0 0 [] := ⟨by simp, .inl ⟨rfl, rfl⟩⟩
theorem Own.rd (h : Own w B T e size A n c xs) : Rd w B T size A n xs := by
  refine ⟨h.1, fun hn => ?_⟩
  rcases h.2 with ⟨h0, _⟩ | ⟨g, o, cur, h1, h2, h3, h4, _, _, _, h5⟩
  · omega
  · exact ⟨g, o, h1, h2, h3, fun j u hu => by rw [cell_of_row w g (o + j) cur e (0, 0) h4]; exact h5 j u hu⟩
theorem Own.le (h : Own w B T e size A n c xs) : n ≤ c := by
  rcases h.2 with ⟨h0, h1⟩ | ⟨g, o, cur, _, _, _, _, h5, _⟩ <;> omega
theorem Own.mono (h : Own w B T e size A n c xs) (hB : B' ≤ B) (hT : T ≤ T') : Own w B' T' e size A n c xs :=
  ⟨h.1, h.2.imp id fun ⟨g, o, cur, h1, h2, h3, hr⟩ => ⟨g, o, cur, h1, by omega, by omega, hr⟩⟩
theorem Own.fr (h : Own w B T e size A n c xs) (hf : Fr B' T' w w') (hd : T ≤ B' ∨ T' ≤ B) : Own w' B T e size A n c xs :=
  ⟨h.1, h.2.imp id fun ⟨g, o, cur, h1, h2, h3, h4, hr⟩ => ⟨g, o, cur, h1, h2, h3, (hf.block g (Array.getElem?_eq_some_iff.1 h4).1 (by omega)).trans h4, hr⟩⟩
theorem Own.below (h : Own w B T e size A n c xs) (hb : Below w.heap.size w w') : Own w' B T e size A n c xs := h.fr (Fr.of_below hb T T) (.inl (Nat.le_refl _))
theorem Own.drew (h : Own w B T e size A n c xs) : Own w.drew B T e size A n c xs := h
theorem Own.alloc (h : Own w B T e size A n c xs) (o : Obj) : Own (w.alloc o) B T e size A n c xs := h.below ((Below.refl _ _).alloc (Nat.le_refl _) o)
theorem Own.set (h : Own w B T e size A n c xs) {p : Addr} (hp : p.block < B ∨ T ≤ p.block) (u : Value) : Own (w.setCell p u) B T e size A n c xs :=
  h.fr (B' := p.block) (T' := p.block + 1) ((Fr.refl _ _ _).setCell (Nat.le_refl _) (Nat.lt_succ_self _) u) (by omega)
/-- Where element k lies, and that it may be written. -/
theorem Own.at_ (h : Own w B T e size A n c xs) (hn : 0 < n) : ∃ g o, A = some ⟨g, o, none⟩ ∧ B ≤ g ∧ g < T ∧ g < w.heap.size ∧ (∀ j u, xs[j]? = some u → w.cell? ⟨g, o + j, none⟩ = some u) ∧ (∀ j, w.frozen? ⟨g, j, none⟩ = false) ∧
    ∀ j u, j < xs.length → Own (w.setCell ⟨g, o + j, none⟩ u) B T e size A n c (xs.set j u) := by
  rcases h.2 with ⟨h0, _⟩ | ⟨g, o, cur, h1, h2, h3, h4, h5, h6, h7, h8⟩
  · omega
  · refine ⟨g, o, h1, h2, h3, (Array.getElem?_eq_some_iff.1 h4).1, fun j u hu => by rw [cell_of_row w g (o + j) cur e (0, 0) h4]; exact h8 j u hu, fun j => frozen_of_row w g j cur e h4, fun j u hj => ?_⟩
    refine ⟨by rw [List.length_set]; exact h.1, .inr ⟨g, o, cur.setIfInBounds (o + j) u, h1, h2, h3, heap_setCell_same w g (o + j) cur e u h4, h5, h6, by simpa using h7, fun i x hx => ?_⟩⟩
    by_cases hij : j = i
    · subst hij
      have hlt : o + j < cur.size := by
        have := h.1
        have h9 := Nat.mul_le_mul_right size h5
        omega
      rw [List.getElem?_set_self hj] at hx
      injection hx with hx
      subst hx
      simp [hlt]
    · rw [List.getElem?_set_ne hij] at hx
      rw [Array.getElem?_setIfInBounds_ne (by omega)]
      exact h8 i x hx
/-- out of the library's word for a row of the call's own -/
theorem Own.of_row {v : Value} (h : w.ownsRow B e size v n xs) (hT : w.heap.size ≤ T) : ∃ A c, v = .slice A n c ∧ Own w B T e size A n c xs := by
  rcases h.2 with ⟨rfl, rfl⟩ | ⟨g, cap, cur, rfl, h2, h3, h4, h5, h6, h7⟩
  · exact ⟨none, 0, rfl, h.1, .inl ⟨rfl, rfl⟩⟩
  · refine ⟨_, cap, rfl, h.1, .inr ⟨g, 0, cur, rfl, h2, Nat.lt_of_lt_of_le (Array.getElem?_eq_some_iff.1 h3).1 hT, h3, h4, h5, by omega, fun j u hu => ?_⟩⟩
    rw [← h7, List.getElem?_take] at hu
    split at hu
    · simpa using hu
    · cases hu
theorem Own.cut (h : Own w B T e size A n c xs) {k : Nat} (hk : k ≤ n) : Own w B T e size (if c = k then A else A.map (·.add (k * size))) (n - k) (c - k) (xs.drop (k * size)) := by
  refine ⟨by rw [List.length_drop, h.1, Nat.sub_mul], ?_⟩
  have hle := h.le
  rcases h.2 with ⟨h0, h1⟩ | ⟨g, o, cur, rfl, h2, h3, h4, h5, h6, h7, h8⟩
  · exact .inl ⟨by omega, by omega⟩
  · by_cases hck : c = k
    · exact .inl ⟨by omega, by omega⟩
    · rw [if_neg hck]
      refine .inr ⟨g, o + k * size, cur, by simp [Addr.add_lit], h2, h3, h4, by omega, by omega, ?_, fun j u hu => ?_⟩
      · have := Nat.add_mul k (c - k) size
        rw [show k + (c - k) = c by omega] at this
        omega
      · rw [Nat.add_assoc]
        exact h8 _ u (by rw [← hu, List.getElem?_drop])
/-- 's[:k]', 's[:k:m]' -/
theorem Own.take (h : Own w B T e size A n c xs) {k m : Nat} (hk : k ≤ n) (hm : k ≤ m) (hmc : m ≤ c) : Own w B T e size A k m (xs.take (k * size)) := by
  refine ⟨by rw [List.length_take, h.1]; exact Nat.min_eq_left (Nat.mul_le_mul_right _ hk), ?_⟩
  rcases h.2 with ⟨h0, h1⟩ | ⟨g, o, cur, h1, h2, h3, h4, h5, h6, h7, h8⟩
  · exact .inl ⟨by omega, by omega⟩
  · have := Nat.mul_le_mul_right size hmc
    refine .inr ⟨g, o, cur, h1, h2, h3, h4, hm, by omega, by omega, fun j u hu => h8 j u ?_⟩
    rw [List.getElem?_take] at hu
    split at hu
    · exact hu
    · cases hu
/-- A block that the call has just laid. -/
theorem Own.new (w : World) (cs : Array Value) (k : Nat) (hk : k ≤ maxLen) (hs : cs.size = k * size) : Own (w.alloc (.cells cs e)) w.heap.size (w.heap.size + 1) e size (some ⟨w.heap.size, 0, none⟩) k k cs.toList :=
  ⟨by simpa using hs, .inr ⟨w.heap.size, 0, cs, rfl, Nat.le_refl _, Nat.lt_succ_self _, heap_alloc_new w _, Nat.le_refl _, hk, by omega, fun j u hu => by simpa using hu⟩⟩
end

/-! ### append onto a slice of the call's own, whatever is appended -/
section
variable {P : Program} (w : World)

theorem run_firstCells_any (size n c : Nat) (hs : 0 < size) (A : Option Addr) (B T : Nat) (xs : List Value) (h : Rd w B T size A n xs) :
    (Builtin.firstCells size n (.slice A n c)).run P w = .ok xs.toArray w := by
  rcases Nat.eq_zero_or_pos n with rfl | hn
  · have hx : xs = [] := List.eq_nil_of_length_eq_zero (by simpa using h.1)
    subst hx
    cases A with
    | none => exact run_firstCells_none w size 0 0 c
    | some a => exact run_firstCells_some w size 0 a 0 c [] (by simp) (by simp)
  · obtain ⟨b, o, rfl, _, _, h4⟩ := h.2 hn
    exact run_firstCells_some w size n _ n c xs h.1 (fun j u hu => by rw [Addr.add_lit]; exact h4 j u hu)

theorem run_app (t ty e : TypeId) (i : TypeInfo) (z : Value) (size bytes : Nat) (ht : P.underlying t = some (.slice e)) (hi : P.info? e = some i) (hz : i.zero = some z)
    (hsize : i.size = size) (hby : i.bytes = bytes) (hzs : z.cells.size = size) (hsz : 0 < size)
    (B T B2 T2 : Nat) (A A2 : Option Addr) (n c m c2 : Nat) (xs news : List Value) (hown : Own w B T e size A n c xs) (hr : Rd w B2 T2 size A2 m news) (h1 : ∀ u ∈ news, u.oneCell' = true)
    (h63 : n + m ≤ maxLen) (hbytes : (n + m) * bytes ≤ 140737488355328) (hbase : B ≤ w.heap.size) :
    ∃ A' c' w', (Builtin.append_ #[t, t] ty #[.slice A n c, .slice A2 m c2]).run P w = .ok (.slice A' (n + m) c') w' ∧ Own w' B w'.heap.size e size A' (n + m) c' (xs ++ news) ∧ Fr B T w w' := by
  subst hsize
  subst hby
  have hsmall : n + m ≤ 9223372036854775807 := by simp only [maxLen] at h63; omega
  have hlen : (xs ++ news).length = (n + m) * i.size := by rw [List.length_append, hown.1, hr.1, Nat.add_mul]
  have hfx := fun w1 : World => fun h : Rd w1 B2 T2 i.size A2 m news => run_firstCells_any (P := P) w1 i.size m c2 hsz A2 B2 T2 news h
  have hle := hown.le
  have hlt : ∀ g, (∃ o, A = some ⟨g, o, none⟩ ∧ ∃ cur, w.heap[g]? = some (Obj.cells cur e (0, 0))) → g < w.heap.size := fun g ⟨_, _, _, h⟩ => (Array.getElem?_eq_some_iff.1 h).1
  by_cases hroom : n + m ≤ c
  · rcases hown.2 with ⟨rfl, rfl⟩ | ⟨g, o, cur, rfl, h2, h3, h4, h5, h6, h7, h8⟩
    · have hm : m = 0 := by omega
      subst hm
      have hnews : news = [] := List.eq_nil_of_length_eq_zero (by simpa using hr.1)
      have hxs : xs = [] := List.eq_nil_of_length_eq_zero (by simpa using hown.1)
      subst hnews
      subst hxs
      refine ⟨A, 0, w, ?_, by simpa using Own.nil w B w.heap.size e i.size A, Fr.refl _ _ _⟩
      have := hfx w hr
      cases A <;> simp [Builtin.append_, run_underlying ht, sizeOf, typeInfo, hi, Builtin.lenOf, this, storeCells]
    · have hst := run_storeCells_at P g (o + n * i.size) e news 0 cur w h4 (by
        have := Nat.mul_le_mul_right i.size hroom
        rw [Nat.add_mul] at this
        rw [hr.1]; omega) h1
      simp only [Nat.add_zero] at hst
      refine ⟨some ⟨g, o, none⟩, c, w.setRow g (cur.toList.take (o + n * i.size) ++ news ++ cur.toList.drop (o + n * i.size + news.length)).toArray, ?_, ⟨hlen, .inr ⟨g, o, _, rfl, h2, ?_, setRow_heap w g cur _ e _ h4, hroom, h6, ?_, ?_⟩⟩, ⟨rfl, rfl, rfl, by simp, fun k _ hk => setRow_other w g k _ (by omega)⟩⟩
      · simp [Builtin.append_, run_underlying ht, sizeOf, typeInfo, hi, Builtin.lenOf, hroom, hfx w hr, Addr.add_lit, hst]
      · simpa using (Array.getElem?_eq_some_iff.1 h4).1
      · simp only [List.size_toArray, List.length_append, List.length_take, List.length_drop, Array.length_toList]
        have := Nat.mul_le_mul_right i.size hroom
        rw [Nat.add_mul, ← hr.1] at this
        omega
      · intro j u hu
        have hjl : j < (xs ++ news).length := (List.getElem?_eq_some_iff.1 hu).1
        have hsz2 : o + n * i.size + news.length ≤ cur.size := by
          have := Nat.mul_le_mul_right i.size hroom
          rw [Nat.add_mul, ← hr.1] at this
          omega
        have hxl := hown.1
        rw [List.getElem?_toArray, List.append_assoc, ]
        by_cases hj : j < xs.length
        · rw [List.getElem?_append_left (by simp; omega), List.getElem?_take, if_pos (by omega)]
          rw [List.getElem?_append_left hj] at hu
          simpa using h8 j u hu
        · rw [List.getElem?_append_right (by simp; omega)]
          rw [List.getElem?_append_right (by omega)] at hu
          rw [List.length_append] at hjl
          rw [List.getElem?_append_left (by simp; omega), ← hu]
          congr 1
          simp only [List.length_take, Array.length_toList]
          omega
  · have hgrow : c < n + m := by omega
    have hfo := run_firstCells_any (P := P) w.drew i.size n c hsz A B T xs hown.rd
    have hn : ¬ (n + m ≤ c) := hroom
    have h63' : ¬ (9223372036854775807 < ((n : Int) + (m : Int))) := by omega
    have h48' : ¬ (281474976710656 < Builtin.nextslicecap (n + m) c * i.bytes) := by have := growslice_fits hgrow hbytes; omega
    have hcap := grownCap_ge w (n + m) c e
    have hcm : grownCap w (n + m) c e ≤ maxLen := grownCap_le_maxLen w (n + m) c e h63
    refine ⟨some ⟨w.heap.size, 0, none⟩, grownCap w (n + m) c e, w.drew.alloc (.cells (xs.toArray ++ news.toArray ++ Builtin.zeroCells z.cells (grownCap w (n + m) c e - (n + m))) e), ?_, ⟨hlen, .inr ⟨w.heap.size, 0, _, rfl, hbase, by simp, heap_alloc_new w.drew _, hcap, hcm, ?_, ?_⟩⟩, (Fr.refl _ _ _).drew.alloc _⟩
    · simp [Builtin.append_, run_underlying ht, sizeOf, typeInfo, zeroValue, hi, hz, Builtin.lenOf, hn, h63', h48', Question.forced, hfx w.drew hr, hfo, newRow, grownCap]
      congr 2
      apply Array.ext'
      simp [List.append_assoc]
    · simp only [Array.size_append, List.size_toArray, size_zeroCells, hzs, hown.1, hr.1, ← Nat.add_mul]
      rw [Nat.zero_add]
      refine Nat.mul_le_mul_right _ ?_
      omega
    · intro j u hu
      rw [Nat.zero_add]
      rw [show xs.toArray ++ news.toArray = (xs ++ news).toArray by simp]
      rw [Array.getElem?_append_left (by simpa using (List.getElem?_eq_some_iff.1 hu).1)]
      simpa using hu

theorem wp_app {o : Oper} {a : Act} {K : Act → World → Prop} {Q : Exit → Act → World → Prop} (s x : Operand) (t : TypeId)
    (ho : o.op = .call { callee := .builtin .append, args := #[s, x], argTypes := #[t, t] })
    (e : TypeId) (i : TypeInfo) (z : Value) (size bytes : Nat) (ht : P.underlying t = some (.slice e)) (hi : P.info? e = some i) (hz : i.zero = some z)
    (hsize : i.size = size) (hby : i.bytes = bytes) (hzs : z.cells.size = size) (hsz : 0 < size)
    (B T B2 T2 : Nat) (A A2 : Option Addr) (n c m c2 : Nat) (xs news : List Value) (hs : a.eval s = .slice A n c) (hx : a.eval x = .slice A2 m c2) (hown : Own w B T e size A n c xs) (hr : Rd w B2 T2 size A2 m news) (h1 : ∀ u ∈ news, u.oneCell' = true)
    (h63 : n + m ≤ maxLen) (hbytes : (n + m) * bytes ≤ 140737488355328) (hbase : B ≤ w.heap.size)
    (h : ∀ A' c' w', Own w' B w'.heap.size e size A' (n + m) c' (xs ++ news) → Fr B T w w' → K (a.put o.dst (.slice A' (n + m) c')) w') : o.wp P a w K Q := by
  obtain ⟨A', c', w', hrun, h2, h3⟩ := run_app (P := P) w t o.type e i z size bytes ht hi hz hsize hby hzs hsz B T B2 T2 A A2 n c m c2 xs news hown hr h1 h63 hbytes hbase
  unfold Oper.wp execOp
  simp only [ho, resolve, invoke, builtin, Sem.run_bind, Sem.run_pure, Result.andThen_ok, List.map_toArray, List.map_cons, List.map_nil, hs, hx, hrun]
  exact h A' c' w' h2 h3

theorem wpList_app {ops : Array Oper} {rest : List Oper} {o : Oper} {a : Act} {Q : Exit → Act → World → Prop} (hgd : o.guard = none) (s x : Operand) (t : TypeId)
    (ho : o.op = .call { callee := .builtin .append, args := #[s, x], argTypes := #[t, t] })
    (e : TypeId) (i : TypeInfo) (z : Value) (size bytes : Nat) (ht : P.underlying t = some (.slice e)) (hi : P.info? e = some i) (hz : i.zero = some z)
    (hsize : i.size = size) (hby : i.bytes = bytes) (hzs : z.cells.size = size) (hsz : 0 < size)
    (B T B2 T2 : Nat) (A A2 : Option Addr) (n c m c2 : Nat) (xs news : List Value) (hs : a.eval s = .slice A n c) (hx : a.eval x = .slice A2 m c2) (hown : Own w B T e size A n c xs) (hr : Rd w B2 T2 size A2 m news) (h1 : ∀ u ∈ news, u.oneCell' = true)
    (h63 : n + m ≤ maxLen) (hbytes : (n + m) * bytes ≤ 140737488355328) (hbase : B ≤ w.heap.size)
    (h : ∀ A' c' w', Own w' B w'.heap.size e size A' (n + m) c' (xs ++ news) → Fr B T w w' → wpList P ops Q rest (a.put o.dst (.slice A' (n + m) c')) w') : wpList P ops Q (o :: rest) a w :=
  wpList_plain hgd fun _ hK => wp_app w s x t ho e i z size bytes ht hi hz hsize hby hzs hsz B T B2 T2 A A2 n c m c2 xs news hs hx hown hr h1 h63 hbytes hbase fun A' c' w' h2 h3 => hK _ _ (h A' c' w' h2 h3)

/-- .. at an operation under a guard that says yes. -/
theorem wpList_appg {ops : Array Oper} {rest : List Oper} {o : Oper} {a : Act} {Q : Exit → Act → World → Prop} (hw : Region.wanted o (yielded ops a.tmps) = true) (s x : Operand) (t : TypeId)
    (ho : o.op = .call { callee := .builtin .append, args := #[s, x], argTypes := #[t, t] })
    (e : TypeId) (i : TypeInfo) (z : Value) (size bytes : Nat) (ht : P.underlying t = some (.slice e)) (hi : P.info? e = some i) (hz : i.zero = some z)
    (hsize : i.size = size) (hby : i.bytes = bytes) (hzs : z.cells.size = size) (hsz : 0 < size)
    (B T B2 T2 : Nat) (A A2 : Option Addr) (n c m c2 : Nat) (xs news : List Value) (hs : a.eval s = .slice A n c) (hx : a.eval x = .slice A2 m c2) (hown : Own w B T e size A n c xs) (hr : Rd w B2 T2 size A2 m news) (h1 : ∀ u ∈ news, u.oneCell' = true)
    (h63 : n + m ≤ maxLen) (hbytes : (n + m) * bytes ≤ 140737488355328) (hbase : B ≤ w.heap.size)
    (h : ∀ A' c' w', Own w' B w'.heap.size e size A' (n + m) c' (xs ++ news) → Fr B T w w' → wpList P ops Q rest (a.put o.dst (.slice A' (n + m) c')) w') : wpList P ops Q (o :: rest) a w :=
  wpList_step fun _ hK => by
    rw [if_pos hw]
    exact wp_app w s x t ho e i z size bytes ht hi hz hsize hby hzs hsz B T B2 T2 A A2 n c m c2 xs news hs hx hown hr h1 h63 hbytes hbase fun A' c' w' h2 h3 => hK _ _ (h A' c' w' h2 h3)

/-- .. at a step of a region that draws its order. -/
theorem step_app {ops : Array Oper} {o : Oper} {a : Act} {K : Act → World → Prop} {Q : Exit → Act → World → Prop} {E : Prop} (hgd : o.guard = none) (s x : Operand) (t : TypeId)
    (ho : o.op = .call { callee := .builtin .append, args := #[s, x], argTypes := #[t, t] })
    (e : TypeId) (i : TypeInfo) (z : Value) (size bytes : Nat) (ht : P.underlying t = some (.slice e)) (hi : P.info? e = some i) (hz : i.zero = some z)
    (hsize : i.size = size) (hby : i.bytes = bytes) (hzs : z.cells.size = size) (hsz : 0 < size)
    (B T B2 T2 : Nat) (A A2 : Option Addr) (n c m c2 : Nat) (xs news : List Value) (hs : a.eval s = .slice A n c) (hx : a.eval x = .slice A2 m c2) (hown : Own w B T e size A n c xs) (hr : Rd w B2 T2 size A2 m news) (h1 : ∀ u ∈ news, u.oneCell' = true)
    (h63 : n + m ≤ maxLen) (hbytes : (n + m) * bytes ≤ 140737488355328) (hbase : B ≤ w.heap.size)
    (h : ∀ A' c' w', Own w' B w'.heap.size e size A' (n + m) c' (xs ++ news) → Fr B T w w' → K (a.put o.dst (.slice A' (n + m) c')) w') :
    if Region.wanted o (yielded ops a.tmps) = true then Oper.wp P o a w K Q else E := by
  have hw : Region.wanted o (yielded ops a.tmps) = true := by simp [Region.wanted, hgd]
  rw [if_pos hw]
  exact wp_app w s x t ho e i z size bytes ht hi hz hsize hby hzs hsz B T B2 T2 A A2 n c m c2 xs news hs hx hown hr h1 h63 hbytes hbase h

/-- 'make([]T, n)': n zero elements in a new block. -/
theorem wpList_mk {ops : Array Oper} {rest : List Oper} {o : Oper} {a : Act} {Q : Exit → Act → World → Prop} (hg : o.guard = none) (l c : Operand) (t : TypeId) (hop : o.op = Op.makeSlice t l c)
    (e : TypeId) (i : TypeInfo) (z : Value) (size : Nat) (h1 : P.underlying t = some (.slice e)) (h2 : P.info? e = some i) (h3 : i.zero = some z) (h4 : i.size = size)
    (kl kc : IntKind) (L C : Int) (n : Nat) (hl : a.eval l = .int kl L) (hc : a.eval c = .int kc C) (hL : L = (n : Int)) (hC : C = (n : Int)) (b2 : i.bytes * n ≤ 281474976710656) (b3 : n ≤ maxLen)
    (hK : ∀ w', Own w' w.heap.size (w.heap.size + 1) e size (some ⟨w.heap.size, 0, none⟩) n n (madeCells z.cells (n * size)).toList → Below w.heap.size w w' → w'.heap.size = w.heap.size + 1 →
      wpList P ops Q rest (a.put o.dst (.slice (some ⟨w.heap.size, 0, none⟩) n n)) w') :
    wpList P ops Q (o :: rest) a w := by
  refine wpList_plain hg fun K hK' => ?_
  have h63' : (n : Int) ≤ 9223372036854775807 := by
    have h := b3
    simp [maxLen] at h
    omega
  have hb' : (i.bytes : Int) * (n : Int) ≤ 281474976710656 := by
    have h : ((i.bytes * n : Nat) : Int) ≤ 281474976710656 := by omega
    rwa [Int.natCast_mul] at h
  have hr := run_make (P := P) w t e i z h1 h2 h3 kl kc n n (by omega) (Int.le_refl _) hb' h63'
  simp only [Int.toNat_natCast] at hr
  subst hL
  subst hC
  subst h4
  unfold Oper.wp
  simp [execOp, hop, hl, hc, hr, Result.andThen]
  exact hK' _ _ (hK _ (Own.new w _ n b3 (size_madeCells _ _)) ((Below.refl _ _).alloc (Nat.le_refl _) _) (by simp))
end

/-! ### integers as cells -/
def ints (xs : List Int) : List Value := xs.map (Value.int .i64)
theorem ints_length (xs : List Int) : (ints xs).length = xs.length := by simp [ints]
theorem ints_get {xs : List Int} {j : Nat} {x : Int} (h : xs[j]? = some x) : (ints xs)[j]? = some (.int .i64 x) := by simp [ints, h]
theorem ints_append (xs ys : List Int) : ints (xs ++ ys) = ints xs ++ ints ys := by simp [ints]
theorem ints_set (xs : List Int) (j : Nat) (x : Int) : ints (xs.set j x) = (ints xs).set j (.int .i64 x) := by simp [ints, List.map_set]
theorem ints_drop (xs : List Int) (j : Nat) : ints (xs.drop j) = (ints xs).drop j := by simp [ints, List.map_drop]
theorem ints_take (xs : List Int) (j : Nat) : ints (xs.take j) = (ints xs).take j := by simp [ints, List.map_take]
theorem made_ints (n : Nat) : (madeCells (Value.int .i64 0).cells (n * 1)).toList = ints (List.replicate n 0) := by
  rw [Nat.mul_one, show (Value.int .i64 0).cells = #[.int .i64 0] from rfl, toList_madeCells_one]
  simp [ints]
/-- One integer in a block that has just been laid. -/
theorem one_rd (w : World) (v : Int) (e : TypeId) : Rd (w.alloc (.cells #[.int .i64 v] e)) w.heap.size (w.heap.size + 1) 1 (some ⟨w.heap.size, 0, none⟩) 1 (ints [v]) :=
  (Own.new (e := e) (size := 1) w #[.int .i64 v] 1 (by unfold maxLen; omega) rfl).rd
theorem ints_one (xs : List Int) : ∀ u ∈ ints xs, u.oneCell' = true := ints_oneCell .i64 xs
end Go.Proofs.Ytpgmfjipkhldmaa
