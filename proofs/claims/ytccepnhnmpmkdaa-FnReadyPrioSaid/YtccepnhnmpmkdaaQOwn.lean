/- Queues whose memory is the call's own: the slice of rows and each row lie apart from each other; append, told more finely. -/
import Derived.Test.YtccepnhnmpmkdaaQueues6
import Derived.Test.YtccepnhnmpmkdaaBlk
namespace Go.Proofs.Ytccepnhnmpmkdaa
set_option linter.unusedVariables false
open Go.RowKit
section
variable {P : Program} (w : World)
theorem run_app2 (t ty e : TypeId) (i : TypeInfo) (z : Value) (size bytes : Nat) (ht : P.underlying t = some (.slice e)) (hi : P.info? e = some i) (hz : i.zero = some z)
    (hsize : i.size = size) (hby : i.bytes = bytes) (hzs : z.cells.size = size) (hsz : 0 < size)
    (L H B2 T2 : Nat) (A A2 : Option Addr) (n c m c2 : Nat) (xs news : List Value) (hown : Own w L H e size A n c xs) (hr : Rd w B2 T2 size A2 m news) (h1 : ∀ u ∈ news, u.oneCell' = true)
    (h63 : n + m ≤ maxLen) (hbytes : (n + m) * bytes ≤ 140737488355328) (hbase : H ≤ w.heap.size) :
    ∃ A' c' w' L' H', (Builtin.append_ #[t, t] ty #[.slice A n c, .slice A2 m c2]).run P w = .ok (.slice A' (n + m) c') w' ∧ Own w' L' H' e size A' (n + m) c' (xs ++ news) ∧ Fr L H w w' ∧ (L' = L ∧ H' = H ∨ L' = w.heap.size ∧ H' = w'.heap.size) := by
  subst hsize
  subst hby
  have hsmall : n + m ≤ 9223372036854775807 := by simp only [maxLen] at h63; omega
  have hlen : (xs ++ news).length = (n + m) * i.size := by rw [List.length_append, hown.1, hr.1, Nat.add_mul]
  have hfx := fun w1 : World => fun h : Rd w1 B2 T2 i.size A2 m news => run_firstCells_any (P := P) w1 i.size m c2 hsz A2 B2 T2 news h
  have hle := hown.le
  have hlt : ∀ g, (∃ o, A = some ⟨g, o, none⟩ ∧ ∃ cur, w.heap[g]? = some (Obj.cells cur e (0, 0))) → g < w.heap.size := fun g ⟨_, _, _, h⟩ => (Array.getElem?_eq_some_iff.1 h).1
  by_cases hroom : n + m ≤ c
  · rcases hown.2 with ⟨rfl, rfl⟩ | ⟨g, o, cur, rfl, h2, h3, h4, h5, h6, h7, h8⟩
    · have hm : m = 0 := by omega
      subst hm
      have hnews : news = [] := List.eq_nil_of_length_eq_zero (by simpa using hr.1)
      have hxs : xs = [] := List.eq_nil_of_length_eq_zero (by simpa using hown.1)
      subst hnews
      subst hxs
      refine ⟨A, 0, w, L, H, ?_, by simpa using Own.nil w L H e i.size A, Fr.refl _ _ _, .inl ⟨rfl, rfl⟩⟩
      have := hfx w hr
      cases A <;> simp [Builtin.append_, run_underlying ht, sizeOf, typeInfo, hi, Builtin.lenOf, this, storeCells]
    · have hst := run_storeCells_at P g (o + n * i.size) e news 0 cur w h4 (by
        have := Nat.mul_le_mul_right i.size hroom
        rw [Nat.add_mul] at this
        rw [hr.1]; omega) h1
      simp only [Nat.add_zero] at hst
      refine ⟨some ⟨g, o, none⟩, c, w.setRow g (cur.toList.take (o + n * i.size) ++ news ++ cur.toList.drop (o + n * i.size + news.length)).toArray, L, H, ?_, ⟨hlen, .inr ⟨g, o, _, rfl, h2, h3, setRow_heap w g cur _ e _ h4, hroom, h6, ?_, ?_⟩⟩, ⟨rfl, rfl, rfl, by simp, fun k _ hk => setRow_other w g k _ (by omega)⟩, .inl ⟨rfl, rfl⟩⟩
      · simp [Builtin.append_, run_underlying ht, sizeOf, typeInfo, hi, Builtin.lenOf, hroom, hfx w hr, Addr.add_lit, hst]
      · simp only [List.size_toArray, List.length_append, List.length_take, List.length_drop, Array.length_toList]
        have := Nat.mul_le_mul_right i.size hroom
        rw [Nat.add_mul, ← hr.1] at this
        omega
      · intro j u hu
        have hjl : j < (xs ++ news).length := (List.getElem?_eq_some_iff.1 hu).1
        have hsz2 : o + n * i.size + news.length ≤ cur.size := by
          have := Nat.mul_le_mul_right i.size hroom
          rw [Nat.add_mul, ← hr.1] at this
          omega
        have hxl := hown.1
        rw [List.getElem?_toArray, List.append_assoc, ]
        by_cases hj : j < xs.length
        · rw [List.getElem?_append_left (by simp; omega), List.getElem?_take, if_pos (by omega)]
          rw [List.getElem?_append_left hj] at hu
          simpa using h8 j u hu
        · rw [List.getElem?_append_right (by simp; omega)]
          rw [List.getElem?_append_right (by omega)] at hu
          rw [List.length_append] at hjl
          rw [List.getElem?_append_left (by simp; omega), ← hu]
          congr 1
          simp only [List.length_take, Array.length_toList]
          omega
  · have hgrow : c < n + m := by omega
    have hfo := run_firstCells_any (P := P) w.drew i.size n c hsz A L H xs hown.rd
    have hn : ¬ (n + m ≤ c) := hroom
    have h63' : ¬ (9223372036854775807 < ((n : Int) + (m : Int))) := by omega
    have h48' : ¬ (281474976710656 < Builtin.nextslicecap (n + m) c * i.bytes) := by have := growslice_fits hgrow hbytes; omega
    have hcap := grownCap_ge w (n + m) c e
    have hcm : grownCap w (n + m) c e ≤ maxLen := grownCap_le_maxLen w (n + m) c e h63
    refine ⟨some ⟨w.heap.size, 0, none⟩, grownCap w (n + m) c e, w.drew.alloc (.cells (xs.toArray ++ news.toArray ++ Builtin.zeroCells z.cells (grownCap w (n + m) c e - (n + m))) e), w.heap.size, w.heap.size + 1, ?_, ⟨hlen, .inr ⟨w.heap.size, 0, _, rfl, Nat.le_refl _, by simp, heap_alloc_new w.drew _, hcap, hcm, ?_, ?_⟩⟩, (Fr.refl _ _ _).drew.alloc _, .inr ⟨rfl, by simp⟩⟩
    · simp [Builtin.append_, run_underlying ht, sizeOf, typeInfo, zeroValue, hi, hz, Builtin.lenOf, hn, h63', h48', Question.forced, hfx w.drew hr, hfo, newRow, grownCap]
      congr 2
      apply Array.ext'
      simp [List.append_assoc]
    · simp only [Array.size_append, List.size_toArray, size_zeroCells, hzs, hown.1, hr.1, ← Nat.add_mul]
      rw [Nat.zero_add]
      refine Nat.mul_le_mul_right _ ?_
      omega
    · intro j u hu
      rw [Nat.zero_add]
      rw [show xs.toArray ++ news.toArray = (xs ++ news).toArray by simp]
      rw [Array.getElem?_append_left (by simpa using (List.getElem?_eq_some_iff.1 hu).1)]
      simpa using hu

theorem wp_app2 {o : Oper} {a : Act} {K : Act → World → Prop} {Q : Exit → Act → World → Prop} (s x : Operand) (t : TypeId)
    (ho : o.op = .call { callee := .builtin .append, args := #[s, x], argTypes := #[t, t] })
    (e : TypeId) (i : TypeInfo) (z : Value) (size bytes : Nat) (ht : P.underlying t = some (.slice e)) (hi : P.info? e = some i) (hz : i.zero = some z)
    (hsize : i.size = size) (hby : i.bytes = bytes) (hzs : z.cells.size = size) (hsz : 0 < size)
    (L H B2 T2 : Nat) (A A2 : Option Addr) (n c m c2 : Nat) (xs news : List Value) (hs : a.eval s = .slice A n c) (hx : a.eval x = .slice A2 m c2) (hown : Own w L H e size A n c xs) (hr : Rd w B2 T2 size A2 m news) (h1 : ∀ u ∈ news, u.oneCell' = true)
    (h63 : n + m ≤ maxLen) (hbytes : (n + m) * bytes ≤ 140737488355328) (hbase : H ≤ w.heap.size)
    (h : ∀ A' c' w' L' H', Own w' L' H' e size A' (n + m) c' (xs ++ news) → Fr L H w w' → (L' = L ∧ H' = H ∨ L' = w.heap.size ∧ H' = w'.heap.size) → K (a.put o.dst (.slice A' (n + m) c')) w') : o.wp P a w K Q := by
  obtain ⟨A', c', w', L', H', hrun, h2, h3, h4⟩ := run_app2 (P := P) w t o.type e i z size bytes ht hi hz hsize hby hzs hsz L H B2 T2 A A2 n c m c2 xs news hown hr h1 h63 hbytes hbase
  unfold Oper.wp execOp
  simp only [ho, resolve, invoke, builtin, Sem.run_bind, Sem.run_pure, Result.andThen_ok, List.map_toArray, List.map_cons, List.map_nil, hs, hx, hrun]
  exact h A' c' w' L' H' h2 h3 h4

/-- .. at an operation under a guard that says yes. -/
theorem wpList_appg2 {ops : Array Oper} {rest : List Oper} {o : Oper} {a : Act} {Q : Exit → Act → World → Prop} (hw : Region.wanted o (yielded ops a.tmps) = true) (s x : Operand) (t : TypeId)
    (ho : o.op = .call { callee := .builtin .append, args := #[s, x], argTypes := #[t, t] })
    (e : TypeId) (i : TypeInfo) (z : Value) (size bytes : Nat) (ht : P.underlying t = some (.slice e)) (hi : P.info? e = some i) (hz : i.zero = some z)
    (hsize : i.size = size) (hby : i.bytes = bytes) (hzs : z.cells.size = size) (hsz : 0 < size)
    (L H B2 T2 : Nat) (A A2 : Option Addr) (n c m c2 : Nat) (xs news : List Value) (hs : a.eval s = .slice A n c) (hx : a.eval x = .slice A2 m c2) (hown : Own w L H e size A n c xs) (hr : Rd w B2 T2 size A2 m news) (h1 : ∀ u ∈ news, u.oneCell' = true)
    (h63 : n + m ≤ maxLen) (hbytes : (n + m) * bytes ≤ 140737488355328) (hbase : H ≤ w.heap.size)
    (h : ∀ A' c' w' L' H', Own w' L' H' e size A' (n + m) c' (xs ++ news) → Fr L H w w' → (L' = L ∧ H' = H ∨ L' = w.heap.size ∧ H' = w'.heap.size) → wpList P ops Q rest (a.put o.dst (.slice A' (n + m) c')) w') : wpList P ops Q (o :: rest) a w :=
  wpList_step fun _ hK => by
    rw [if_pos hw]
    exact wp_app2 w s x t ho e i z size bytes ht hi hz hsize hby hzs hsz L H B2 T2 A A2 n c m c2 xs news hs hx hown hr h1 h63 hbytes hbase fun A' c' w' L' H' h2 h3 h4 => hK _ _ (h A' c' w' L' H' h2 h3 h4)
/-- .. at a step of a region that draws its order. -/
theorem step_app2 {ops : Array Oper} {o : Oper} {a : Act} {K : Act → World → Prop} {Q : Exit → Act → World → Prop} {E : Prop} (hgd : o.guard = none) (s x : Operand) (t : TypeId)
    (ho : o.op = .call { callee := .builtin .append, args := #[s, x], argTypes := #[t, t] })
    (e : TypeId) (i : TypeInfo) (z : Value) (size bytes : Nat) (ht : P.underlying t = some (.slice e)) (hi : P.info? e = some i) (hz : i.zero = some z)
    (hsize : i.size = size) (hby : i.bytes = bytes) (hzs : z.cells.size = size) (hsz : 0 < size)
    (L H B2 T2 : Nat) (A A2 : Option Addr) (n c m c2 : Nat) (xs news : List Value) (hs : a.eval s = .slice A n c) (hx : a.eval x = .slice A2 m c2) (hown : Own w L H e size A n c xs) (hr : Rd w B2 T2 size A2 m news) (h1 : ∀ u ∈ news, u.oneCell' = true)
    (h63 : n + m ≤ maxLen) (hbytes : (n + m) * bytes ≤ 140737488355328) (hbase : H ≤ w.heap.size)
    (h : ∀ A' c' w' L' H', Own w' L' H' e size A' (n + m) c' (xs ++ news) → Fr L H w w' → (L' = L ∧ H' = H ∨ L' = w.heap.size ∧ H' = w'.heap.size) → K (a.put o.dst (.slice A' (n + m) c')) w') :
    if Region.wanted o (yielded ops a.tmps) = true then Oper.wp P o a w K Q else E := by
  have hw : Region.wanted o (yielded ops a.tmps) = true := by simp [Region.wanted, hgd]
  rw [if_pos hw]
  exact wp_app2 w s x t ho e i z size bytes ht hi hz hsize hby hzs hsz L H B2 T2 A A2 n c m c2 xs news hs hx hown hr h1 h63 hbytes hbase h
end
/-- Of the blocks from B on only those of lo..hi may have changed. -/
def Kept (B lo hi : Nat) (w w' : World) : Prop := w.heap.size ≤ w'.heap.size ∧ ∀ k, B ≤ k → k < w.heap.size → (k < lo ∨ hi ≤ k) → w'.heap[k]? = w.heap[k]?
theorem Kept.of_fr {B lo hi : Nat} {w w' : World} (h : Fr lo hi w w') : Kept B lo hi w w' := ⟨h.size, fun k _ h1 h2 => h.block k h1 h2⟩
theorem Kept.below {B lo hi : Nat} {w w' : World} (h : Below w.heap.size w w') : Kept B lo hi w w' := ⟨h.size, fun k _ h1 _ => h.block k h1⟩
theorem Kept.low {B lo hi g : Nat} {w w' : World} (h : Fr g (g + 1) w w') (hg : g + 1 ≤ B) : Kept B lo hi w w' := ⟨h.size, fun k h0 h1 _ => h.block k h1 (by omega)⟩
theorem Kept.trans {B lo hi : Nat} {w w' w'' : World} (h : Kept B lo hi w w') (h2 : Kept B lo hi w' w'') : Kept B lo hi w w'' :=
  ⟨Nat.le_trans h.1 h2.1, fun k h0 h1 h3 => (h2.2 k h0 (Nat.lt_of_lt_of_le h1 h.1) h3).trans (h.2 k h0 h1 h3)⟩
theorem Own.kept {w w' : World} {L H B lo hi size n c : Nat} {e : TypeId} {A : Option Addr} {xs : List Value} (h : Own w L H e size A n c xs) (hB : B ≤ L) (hf : Kept B lo hi w w') (hd : H ≤ lo ∨ hi ≤ L) : Own w' L H e size A n c xs :=
  ⟨h.1, h.2.imp id fun ⟨g, o, cur, h1, h2, h3, h4, hr⟩ => ⟨g, o, cur, h1, h2, h3, (hf.2 g (by omega) (Array.getElem?_eq_some_iff.1 h4).1 (by omega)).trans h4, hr⟩⟩
/-- Queues of the call's own: the slice of rows and each row lie in memory of their own, apart from each other. -/
def QOwn (w : World) (B : Nat) (A : Option Addr) (n c : Nat) (yss : List (List Int)) : Prop :=
  yss.length = n ∧ ∃ (cs : List Value) (L H : Nat) (lo hi : Nat → Nat), Own w L H 38 1 A n c cs ∧ B ≤ L ∧ H ≤ w.heap.size ∧
    (∀ k ys, yss[k]? = some ys → ∃ A' c', cs[k]? = some (.slice A' ys.length c') ∧ Own w (lo k) (hi k) 3 1 A' ys.length c' (ints ys)) ∧
    (∀ k, k < n → B ≤ lo k ∧ hi k ≤ w.heap.size ∧ (H ≤ lo k ∨ hi k ≤ L)) ∧ (∀ j k, j < n → k < n → j ≠ k → hi j ≤ lo k ∨ hi k ≤ lo j)
section
variable {w w' : World} {B n c : Nat} {A : Option Addr} {yss : List (List Int)}
theorem QOwn.len (h : QOwn w B A n c yss) : yss.length = n := h.1
theorem QOwn.le (h : QOwn w B A n c yss) : n ≤ c := by obtain ⟨_, cs, L, H, lo, hi, h1, _⟩ := h; exact h1.le
theorem QOwn.rows (h : QOwn w B A n c yss) : Rows w B w.heap.size A n yss := by
  obtain ⟨h0, cs, L, H, lo, hi, h1, h2, h3, h4, h5, h6⟩ := h
  refine ⟨h0, cs, h1.rd.mono h2 h3, fun k ys hk => ?_⟩
  obtain ⟨A', c', e1, e2⟩ := h4 k ys hk
  have hkn : k < n := by rw [← h0]; exact (List.getElem?_eq_some_iff.1 hk).1
  have := h5 k hkn
  exact ⟨A', c', e1, e2.le, e2.rd.mono this.1 this.2.1⟩
theorem QOwn.fr {B' T' : Nat} (h : QOwn w B A n c yss) (hf : Fr B' T' w w') (hd : w.heap.size ≤ B' ∨ T' ≤ B) : QOwn w' B A n c yss := by
  obtain ⟨h0, cs, L, H, lo, hi, h1, h2, h3, h4, h5, h6⟩ := h
  have hz := hf.size
  refine ⟨h0, cs, L, H, lo, hi, h1.fr hf (by omega), h2, by omega, fun k ys hk => ?_, fun k hk => ?_, h6⟩
  · obtain ⟨A', c', e1, e2⟩ := h4 k ys hk
    have hkn : k < n := by rw [← h0]; exact (List.getElem?_eq_some_iff.1 hk).1
    have := h5 k hkn
    exact ⟨A', c', e1, e2.fr hf (by omega)⟩
  · have := h5 k hk
    exact ⟨this.1, by omega, this.2.2⟩
theorem QOwn.below (h : QOwn w B A n c yss) (hb : Below w.heap.size w w') : QOwn w' B A n c yss := h.fr (Fr.of_below hb w.heap.size w.heap.size) (.inl (Nat.le_refl _))
theorem QOwn.alloc (h : QOwn w B A n c yss) (o : Obj) : QOwn (w.alloc o) B A n c yss := h.below ((Below.refl _ _).alloc (Nat.le_refl _) o)
theorem QOwn.drew (h : QOwn w B A n c yss) : QOwn w.drew B A n c yss := h
theorem QOwn.set (h : QOwn w B A n c yss) {p : Addr} (hp : p.block < B) (u : Value) : QOwn (w.setCell p u) B A n c yss :=
  h.fr (B' := p.block) (T' := p.block + 1) ((Fr.refl _ _ _).setCell (Nat.le_refl _) (Nat.lt_succ_self _) u) (.inr (by omega))
theorem QOwn.via {W : World} (h : QOwn w B A n c yss) (hb : Below W.heap.size W w') (hW : Below w.heap.size w W) : QOwn w' B A n c yss := (h.below hW).below hb
theorem QOwn.mono {B' : Nat} (h : QOwn w B A n c yss) (hB : B' ≤ B) : QOwn w B' A n c yss := by
  obtain ⟨h0, cs, L, H, lo, hi, h1, h2, h3, h4, h5, h6⟩ := h
  exact ⟨h0, cs, L, H, lo, hi, h1, by omega, h3, h4, fun k hk => ⟨by have := h5 k hk; omega, (h5 k hk).2⟩, h6⟩
theorem QOwn.nil (hB : B ≤ w.heap.size) : QOwn w B A 0 0 [] :=
  ⟨rfl, [], w.heap.size, w.heap.size, fun _ => 0, fun _ => 0, Own.nil _ _ _ _ _ _, hB, Nat.le_refl _, fun k ys hk => by simp at hk, fun k hk => absurd hk (by omega), fun j k hj => absurd hj (by omega)⟩
theorem QOwn.made (h : Own w B w.heap.size 38 1 A n n (nils n)) (hB : B ≤ w.heap.size) : QOwn w B A n n (List.replicate n []) := by
  refine ⟨by simp, nils n, B, w.heap.size, fun _ => w.heap.size, fun _ => B, h, Nat.le_refl _, Nat.le_refl _, fun k ys hk => ?_, fun k hk => ⟨hB, hB, .inl (Nat.le_refl _)⟩, fun j k _ _ _ => .inl hB⟩
  have hkn : k < n := by have := (List.getElem?_eq_some_iff.1 hk).1; simpa using this
  rw [List.getElem?_replicate, if_pos hkn] at hk
  injection hk with hk
  subst hk
  exact ⟨none, 0, by unfold nils; rw [List.getElem?_replicate, if_pos hkn]; rfl, Own.nil _ _ _ _ _ _⟩
/-- Row k, and what is stored in its place behind an append onto it. -/
theorem QOwn.grow (h : QOwn w B A n c yss) {k : Nat} {ys : List Int} (hy : yss[k]? = some ys) : ∃ g o A' c' lo hi, A = some ⟨g, o, none⟩ ∧ B ≤ g ∧ g < w.heap.size ∧ w.cell? ⟨g, o + k, none⟩ = some (.slice A' ys.length c') ∧
    Own w lo hi 3 1 A' ys.length c' (ints ys) ∧ B ≤ lo ∧ hi ≤ w.heap.size ∧ (∀ (b : Nat) (e' : TypeId) (cs : Array Value), Blk w b e' cs → e' ≠ 3 → b < lo ∨ hi ≤ b) ∧ (∀ (b : Nat) (e' : TypeId) (cs : Array Value), Blk w b e' cs → e' ≠ 38 → b ≠ g) ∧
    ∀ (w' : World) (A2 : Option Addr) (c2 L2 H2 : Nat) (zs : List Int), Kept B lo hi w w' → Own w' L2 H2 3 1 A2 zs.length c2 (ints zs) → (L2 = lo ∧ H2 = hi ∨ w.heap.size ≤ L2 ∧ H2 ≤ w'.heap.size) →
      w'.cell? ⟨g, o + k, none⟩ = some (.slice A' ys.length c') ∧ w'.frozen? ⟨g, o + k, none⟩ = false ∧ QOwn (w'.setCell ⟨g, o + k, none⟩ (.slice A2 zs.length c2)) B A n c (yss.set k zs) := by
  obtain ⟨h0, cs, L, H, lo, hi, h1, h2, h3, h4, h5, h6⟩ := h
  have hkn : k < n := by rw [← h0]; exact (List.getElem?_eq_some_iff.1 hy).1
  obtain ⟨A', c', e1, e2⟩ := h4 k ys hy
  have hout : ∀ g o, A = some ⟨g, o, none⟩ → ∀ (b : Nat) (e' : TypeId) (cs : Array Value), Blk w b e' cs → e' ≠ 38 → b ≠ g := by
    intro g o hA b e' cs hb he hbg
    rcases h1.2 with ⟨hn0, _⟩ | ⟨gr, orr, cur, x1, x2, x3, x4, x5⟩
    · omega
    · rw [hA] at x1
      injection x1 with x1
      injection x1 with x1 _
      subst x1
      subst hbg
      unfold Blk at hb
      rw [x4] at hb
      injection hb with hb
      injection hb with _ hb
      exact he hb.symm
  obtain ⟨g, o, rfl, g1, g2, g3, g4, g5, g6⟩ := h1.at_ (by omega)
  have hk5 := h5 k hkn
  obtain ⟨lo2, hi2, t1, t2, t3⟩ : ∃ lo2 hi2, Own w lo2 hi2 3 1 A' ys.length c' (ints ys) ∧ ((lo k ≤ lo2 ∧ hi2 ≤ hi k) ∨ (lo2 = B ∧ hi2 = B)) ∧ ∀ (b : Nat) (e' : TypeId) (cs : Array Value), Blk w b e' cs → e' ≠ 3 → b < lo2 ∨ hi2 ≤ b := by
    rcases e2.2 with h0' | ⟨gr, orr, cur, x1, x2, x3, x4, x5⟩
    · exact ⟨B, B, ⟨e2.1, .inl h0'⟩, .inr ⟨rfl, rfl⟩, fun b _ _ _ _ => by omega⟩
    · refine ⟨gr, gr + 1, ⟨e2.1, .inr ⟨gr, orr, cur, x1, Nat.le_refl _, Nat.lt_succ_self _, x4, x5⟩⟩, .inl ⟨x2, x3⟩, fun b e' cs hb he => ?_⟩
      have hne : b ≠ gr := by
        intro hbg
        subst hbg
        unfold Blk at hb
        rw [x4] at hb
        injection hb with hb
        injection hb with _ hb
        exact he hb.symm
      omega
  refine ⟨g, o, A', c', lo2, hi2, rfl, by omega, g3, g4 k _ e1, t1, by omega, by omega, t3, hout g o rfl, fun w' A2 c2 L2 H2 zs hf2 ho hd => ?_⟩
  have hf : Kept B (lo k) (hi k) w w' := by
    refine ⟨hf2.1, fun i hi0 hi1 hi2 => hf2.2 i hi0 hi1 ?_⟩
    rcases t2 with ⟨a, b⟩ | ⟨a, b⟩
    · omega
    · omega
  have hz := hf.1
  have h1' := h1.kept h2 hf (by omega)
  obtain ⟨g', o', ga, _, _, gb, gc, gd, ge⟩ := h1'.at_ (by omega)
  injection ga with ga
  injection ga with hg ho'
  subst hg
  subst ho'
  have hcl : k < cs.length := by have := h1.1; omega
  refine ⟨gc k _ e1, gd _, by rw [List.length_set]; exact h0, cs.set k (.slice A2 zs.length c2), L, H, fun j => if j = k then L2 else lo j, fun j => if j = k then H2 else hi j, ge k _ hcl, h2, by simp; omega, fun j us hj => ?_, fun j hj => ?_, fun i j hi' hj hij => ?_⟩
  · have hjn : j < n := by have := (List.getElem?_eq_some_iff.1 hj).1; rw [List.length_set, h0] at this; exact this
    by_cases hjk : j = k
    · subst hjk
      rw [List.getElem?_set_self (by omega)] at hj
      injection hj with hj
      subst hj
      simp only [if_pos]
      exact ⟨A2, c2, List.getElem?_set_self hcl, ho.set (p := ⟨g, o + j, none⟩) (by show g < L2 ∨ H2 ≤ g; omega) _⟩
    · rw [List.getElem?_set_ne (by omega)] at hj
      obtain ⟨A3, c3, x1, x2⟩ := h4 j us hj
      have hj5 := h5 j hjn
      have hdj := h6 j k hjn hkn hjk
      simp only [if_neg hjk]
      exact ⟨A3, c3, by rw [List.getElem?_set_ne (by omega)]; exact x1, (x2.kept hj5.1 hf (by omega)).set (p := ⟨g, o + k, none⟩) (by show g < lo j ∨ hi j ≤ g; omega) _⟩
  · by_cases hjk : j = k
    · subst hjk
      simp only [if_pos]
      simp
      omega
    · have hj5 := h5 j hj
      simp only [if_neg hjk]
      simp
      omega
  · have hi5 := h5 i hi'
    have hj5 := h5 j hj
    have := h6 i j hi' hj hij
    by_cases hik : i = k
    · subst hik
      have hji : ¬ j = i := fun e => hij e.symm
      simp only [if_pos, if_neg hji]
      omega
    · by_cases hjk : j = k
      · subst hjk
        simp only [if_pos, if_neg hik]
        omega
      · simp only [if_neg hik, if_neg hjk]
        omega
/-- A row more: the row in new memory (w1), a literal (w2), the append onto the slice of rows (w3). -/
theorem QOwn.push (h : QOwn w B A n c yss) (hBw : B ≤ w.heap.size) : ∃ cs L H, Own w L H 38 1 A n c cs ∧ B ≤ L ∧ H ≤ w.heap.size ∧
    ∀ (w1 w2 w3 : World) (A1 A3 : Option Addr) (c1 c3 L1 H1 L3 H3 : Nat) (ys : List Int), Below w.heap.size w w1 → Own w1 L1 H1 3 1 A1 ys.length c1 (ints ys) → w.heap.size ≤ L1 → B ≤ L1 → H1 ≤ w1.heap.size → Below w1.heap.size w1 w2 →
      Own w3 L3 H3 38 1 A3 (n + 1) c3 (cs ++ [.slice A1 ys.length c1]) → Fr L H w2 w3 → (L3 = L ∧ H3 = H ∨ L3 = w2.heap.size ∧ H3 = w3.heap.size) → QOwn w3 B A3 (n + 1) c3 (yss ++ [ys]) := by
  obtain ⟨h0, cs, L, H, lo, hi, h1, h2, h3, h4, h5, h6⟩ := h
  refine ⟨cs, L, H, h1, h2, h3, fun w1 w2 w3 A1 A3 c1 c3 L1 H1 L3 H3 ys hb1 o1 hl1 hbl hh1 hb2 o3 f3 hd => ?_⟩
  have z1 := hb1.size
  have z2 := hb2.size
  have z3 := f3.size
  have hcl : cs.length = n := by have := h1.1; omega
  refine ⟨by rw [List.length_append, h0]; rfl, cs ++ [.slice A1 ys.length c1], L3, H3, fun j => if j = n then L1 else lo j, fun j => if j = n then H1 else hi j, o3, by omega, by omega, fun j us hj => ?_, fun j hj => ?_, fun i j hi' hj hij => ?_⟩
  · by_cases hjn : j < n
    · rw [List.getElem?_append_left (by omega)] at hj
      obtain ⟨A', c', x1, x2⟩ := h4 j us hj
      have hj5 := h5 j hjn
      simp only [if_neg (show ¬ j = n by omega)]
      exact ⟨A', c', by rw [List.getElem?_append_left (by omega)]; exact x1, ((x2.below hb1).below hb2).fr f3 (by omega)⟩
    · have hjl := (List.getElem?_eq_some_iff.1 hj).1
      rw [List.length_append] at hjl
      simp at hjl
      have hjn' : j = n := by omega
      subst hjn'
      rw [List.getElem?_append_right (by omega), h0, Nat.sub_self] at hj
      simp at hj
      subst hj
      simp only [if_pos]
      exact ⟨A1, c1, by rw [List.getElem?_append_right (by omega), hcl, Nat.sub_self]; rfl, (o1.below hb2).fr f3 (by omega)⟩
  · by_cases hjn : j = n
    · subst hjn
      simp only [if_pos]
      omega
    · have hj5 := h5 j (by omega)
      simp only [if_neg hjn]
      omega
  · by_cases hin : i = n
    · subst hin
      have hj5 := h5 j (by omega)
      simp only [if_pos, if_neg (show ¬ j = i by omega)]
      omega
    · have hi5 := h5 i (by omega)
      by_cases hjn : j = n
      · subst hjn
        simp only [if_pos, if_neg hin]
        omega
      · simp only [if_neg hin, if_neg hjn]
        exact h6 i j (by omega) (by omega) hij
end
end Go.Proofs.Ytccepnhnmpmkdaa
