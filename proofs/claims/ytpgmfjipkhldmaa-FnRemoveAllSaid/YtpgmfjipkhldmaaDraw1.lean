/- Contracts of the reader of a code: l20Open, pick, odd. -/
import Derived.Test.YtpgmfjipkhldmaaRows
import Derived.Test.YtpgmfjipkhldmaaBase
import Derived.BigQuiet
import Derived.Deep.QuietTactic
import Derived.Handy
import Derived.OpenShut
namespace Go.Proofs.Ytpgmfjipkhldmaa
set_option linter.unusedVariables false
open Go.RowKit

/-- A row of bytes. -/
def Bytes (bs : List Value) : Prop := ∀ (j : Nat) (u : Value), bs[j]? = some u → ∃ z : Int, u = Value.int .u8 z ∧ 0 ≤ z ∧ z ≤ 255
theorem Bytes.of {zs : List Int} (h : ∀ n ∈ zs, (Lit.int .u8 n).wf = true) : Bytes (zs.map (Value.int .u8)) := by
  intro j u hu
  rw [List.getElem?_map] at hu
  obtain ⟨z, hz, rfl⟩ := Option.map_eq_some_iff.1 hu
  exact ⟨z, rfl, bounds_u8 (h z (List.mem_of_getElem? hz))⟩
/-- A reader in block g, behind at most N calls; the bytes lie below it. -/
def Rdr (w : World) (g N : Nat) : Prop :=
  ∃ A m c bs p, w.heap[g]? = some (.cells #[.slice A m c, .int .i64 p] 76 (0, 0)) ∧ Rd w 0 g 1 A m bs ∧ Bytes bs ∧ m ≤ 2000 ∧ 0 ≤ p ∧ p ≤ N

theorem Rdr.fr {w w' : World} {g N B T : Nat} (h : Rdr w g N) (hf : Fr B T w w') (hg : g < B ∨ T ≤ g) (hb : g ≤ B) : Rdr w' g N := by
  obtain ⟨A, m, c, bs, p, h1, h2, h3⟩ := h
  exact ⟨A, m, c, bs, p, (hf.block g (Array.getElem?_eq_some_iff.1 h1).1 hg).trans h1, h2.fr hf (.inl hb), h3⟩
theorem Rdr.below {w w' : World} {g N : Nat} (h : Rdr w g N) (hb : Below w.heap.size w w') : Rdr w' g N := by
  obtain ⟨A, m, c, bs, p, h1, h2, h3⟩ := h
  exact ⟨A, m, c, bs, p, (hb.block g (Array.getElem?_eq_some_iff.1 h1).1).trans h1, h2.below hb, h3⟩
theorem Rdr.lt {w : World} {g N : Nat} (h : Rdr w g N) : g < w.heap.size := by
  obtain ⟨A, m, c, bs, p, h1, _⟩ := h
  exact (Array.getElem?_eq_some_iff.1 h1).1
theorem Rdr.mono {w : World} {g N M : Nat} (h : Rdr w g N) (hm : N ≤ M) : Rdr w g M := by
  obtain ⟨A, m, c, bs, p, h1, h2, h3, h4, h5, h6⟩ := h
  exact ⟨A, m, c, bs, p, h1, h2, h3, h4, h5, by omega⟩

set_option maxHeartbeats 1000000 in
theorem l20Open_any (B T n c : Nat) (A : Option Addr) (bs : List Value) (w : World) (hr : Rd w B T 1 A n bs) (hb : Bytes bs) (hn : n ≤ 1048576) (hnc : n ≤ c) :
    Calls Try.prog 39 #[.slice A n c] w fun e w' => e = .returned (.pointer (some ⟨w.heap.size, 0, none⟩)) ∧ Rdr w' w.heap.size 0 ∧ Below w.heap.size w w' := by
  replace hr := hr.here Nat.one_pos
  by_cases hbig : 2000 < n
  · have hd : (2000 : Int) < (n : Int) := by omega
    have hc : (2000 : Int) ≤ (c : Int) := by omega
    have HR := Lib.hid (hr.take (k := 2000) (by omega))
    clear hr
    go_enter Try.func39, Try.ntmps39
    go_wp2
    go_ret
    refine ⟨rfl, ⟨A, 2000, c, _, 0, heap_alloc_new w _, HR.out.alloc _, fun j u hu => ?_, Nat.le_refl _, Int.le_refl _, Int.le_refl _⟩, (Below.refl _ _).alloc (Nat.le_refl _) _⟩
    rw [List.getElem?_take] at hu
    split at hu
    · exact hb j u hu
    · cases hu
  · have hd : ¬ (2000 : Int) < (n : Int) := by omega
    have HR := Lib.hid hr
    clear hr
    go_enter Try.func39, Try.ntmps39
    go_wp2
    go_ret
    exact ⟨rfl, ⟨A, n, c, bs, 0, heap_alloc_new w _, HR.out.alloc _, hb, by omega, Int.le_refl _, Int.le_refl _⟩, (Below.refl _ _).alloc (Nat.le_refl _) _⟩
/-- What pick returns. -/
def PickR (w : World) (g N : Nat) (n : Int) (e : Ending) (w' : World) : Prop :=
  ∃ v : Int, e = .returned (.int .i64 v) ∧ 0 ≤ v ∧ (1 ≤ n → v < n) ∧ (n < 1 → v = 0) ∧ Rdr w' g (N + 1) ∧ Fr g (g + 1) w w'
theorem pick_post {w : World} {g N m c : Nat} {A : Option Addr} {bs : List Value} {p : Int} (hh : w.heap[g]? = some (.cells #[.slice A m c, .int .i64 p] 76 (0, 0))) (hrd : Rd w 0 g 1 A m bs) (hby : Bytes bs) (hm : m ≤ 2000) (hp0 : 0 ≤ p) (hpN : p ≤ N) :
    Rdr (w.setCell ⟨g, 1, none⟩ (.int .i64 (p + 1))) g (N + 1) ∧ Fr g (g + 1) w (w.setCell ⟨g, 1, none⟩ (.int .i64 (p + 1))) := by
  refine ⟨⟨A, m, c, bs, p + 1, ?_, hrd.set (by show g < 0 ∨ g ≤ g; omega) _, hby, hm, by omega, by omega⟩, (Fr.refl g (g + 1) w).setCell (p := ⟨g, 1, none⟩) (Nat.le_refl g) (Nat.lt_succ_self g) _⟩
  rw [heap_setCell_same w g 1 _ _ _ hh]
  rfl
theorem bits_xor_i64_nat (a b : Nat) (ha : a < 9223372036854775808) (hb : b < 9223372036854775808) : bits .xor .i64 (a : Int) (b : Int) = ((a ^^^ b : Nat) : Int) := by
  have hx : a ^^^ b < 2 ^ 63 := Nat.xor_lt_two_pow (by omega) (by omega)
  have h1 : (BitVec.ofInt 64 (a : Int)).toNat = a := by
    rw [BitVec.ofInt_natCast, BitVec.toNat_ofNat]; exact Nat.mod_eq_of_lt (by omega)
  have h2 : (BitVec.ofInt 64 (b : Int)).toNat = b := by
    rw [BitVec.ofInt_natCast, BitVec.toNat_ofNat]; exact Nat.mod_eq_of_lt (by omega)
  show IntKind.i64.wrap ((BitVec.ofInt 64 (a : Int) ^^^ BitVec.ofInt 64 (b : Int)).toNat : Int) = _
  rw [BitVec.toNat_xor, h1, h2, IntKind.wrap_i64]
  omega
theorem Bytes.at_ {w : World} {g m k : Nat} {A : Option Addr} {bs : List Value} (h : Rd w 0 g 1 A m bs) (hb : Bytes bs) (hk : k < m) :
    ∃ b o z, A = some ⟨b, o, none⟩ ∧ b < g ∧ w.cell? ⟨b, o + k, none⟩ = some (.int .u8 z) ∧ 0 ≤ z ∧ z ≤ 255 := by
  obtain ⟨b, o, h1, h2, h3, h4⟩ := h.2 (by omega)
  have hl : k < bs.length := by rw [h.1]; omega
  obtain ⟨z, hz, h5, h6⟩ := hb k _ (List.getElem?_eq_getElem hl)
  exact ⟨b, o, z, h1, h3, by rw [h4 k _ (List.getElem?_eq_getElem hl), hz], h5, h6⟩

set_option maxHeartbeats 4000000 in
theorem pick_any (g N : Nat) (n : Int) (w : World) (hr : Rdr w g N) (hN : N ≤ 1000000000) (hn : n ≤ 4611686018427387904) :
    Calls Try.prog 41 #[.pointer (some ⟨g, 0, none⟩), .int .i64 n] w (PickR w g N n) := by
  obtain ⟨A, m, c, bs, p, hh, hrd, hby, hm, hp0, hpN⟩ := hr
  have h0 := cell_of_row w g 0 _ _ (0, 0) hh
  have h1 := cell_of_row w g 1 _ _ (0, 0) hh
  have hf := frozen_of_row w g 1 _ _ hh
  have HH := Lib.hid hh
  clear hh
  simp at h0 h1
  have hgl := World.block_lt_of_cell? w _ h0
  by_cases hn1 : n < 1
  · go_enter Try.func41, Try.ntmps41
    go_wp2
    go_ret
    have hpp := pick_post HH.out hrd hby hm hp0 hpN
    exact ⟨0, rfl, Int.le_refl _, fun h => by omega, fun _ => rfl, hpp.1, hpp.2⟩
  · have hn1' : (1 : Int) ≤ n := by omega
    have hn0 : ¬ n = 0 := by omega
    rcases Nat.eq_zero_or_pos m with rfl | hm0
    · go_enter Try.func41, Try.ntmps41
      go_wp2
      go_ret
      have hpp := pick_post HH.out hrd hby hm hp0 hpN
      exact ⟨0, rfl, Int.le_refl _, fun h => by omega, fun _ => rfl, hpp.1, hpp.2⟩
    · by_cases hpm : p < m
      · obtain ⟨k, rfl⟩ := Int.eq_ofNat_of_zero_le hp0
        obtain ⟨b, o, z, rfl, hbg, hc, hz0, hz1⟩ := Bytes.at_ hrd hby (show k < m by omega)
        have HR := Lib.hid hrd
        have hbne : ¬ b = g := by omega
        have hgb : ¬ g = b := by omega
        clear hrd
        go_enter Try.func41, Try.ntmps41
        go_wp2
        go_ret
        have hpp := pick_post HH.out HR.out hby hm hp0 hpN
        exact ⟨z % n, rfl, Int.emod_nonneg _ (by omega), fun _ => Int.emod_lt_of_pos _ (by omega), fun h => by omega, hpp.1, hpp.2⟩
      · obtain ⟨k, rfl⟩ := Int.eq_ofNat_of_zero_le hp0
        have hmm : m ≠ 0 := by omega
        obtain ⟨i1, e1⟩ : ∃ i1 : Nat, k % m = i1 := ⟨_, rfl⟩
        obtain ⟨i2, e2⟩ : ∃ i2 : Nat, (k * 7 + 3) % m = i2 := ⟨_, rfl⟩
        obtain ⟨i3, e3⟩ : ∃ i3 : Nat, k / m = i3 := ⟨_, rfl⟩
        have l1 : i1 < m := by rw [← e1]; exact Nat.mod_lt _ hm0
        have l2 : i2 < m := by rw [← e2]; exact Nat.mod_lt _ hm0
        have l3 : i3 ≤ k := by rw [← e3]; exact Nat.div_le_self _ _
        have q1 : (k : Int) % (m : Int) = (i1 : Int) := by rw [← e1]; simp
        have q2 : ((k : Int) * 7 + 3) % (m : Int) = (i2 : Int) := by rw [← e2]; simp
        have q3 : (k : Int) / (m : Int) = (i3 : Int) := by rw [← e3]; simp
        obtain ⟨b, o, z, rfl, hbg, hc, hz0, hz1⟩ := Bytes.at_ hrd hby l1
        obtain ⟨b', o', z', he, hbg', hc', hz0', hz1'⟩ := Bytes.at_ hrd hby l2
        injection he with he
        injection he with he1 he2
        subst he1
        subst he2
        have HR := Lib.hid hrd
        have hbne : ¬ b = g := by omega
        have hgb : ¬ g = b := by omega
        have p1 : (i1 : Int) < (m : Int) := by omega
        have p2 : (i2 : Int) < (m : Int) := by omega
        have p3 : (0 : Int) ≤ (i1 : Int) := by omega
        have p4 : (0 : Int) ≤ (i2 : Int) := by omega
        have p5 : (0 : Int) ≤ (i3 : Int) := by omega
        have p6 : (i3 : Int) ≤ (k : Int) := by omega
        have p7 : ¬ (m : Int) = 0 := by omega
        have p8 : (0 : Int) ≤ (k : Int) := by omega
        have p9 : (k : Int) ≤ 1000000000 := by omega
        clear hrd e1 e2 e3 hmm
        go_enter Try.func41, Try.ntmps41
        go_wp2
        go_quiet (fail)
        obtain ⟨x, hx⟩ : ∃ x : Nat, z * 131 + z' * 1117 + (k : Int) * 29 + (i3 : Int) * 53 = (x : Int) := ⟨(z * 131 + z' * 1117 + (k : Int) * 29 + (i3 : Int) * 53).toNat, by omega⟩
        have hx1 : (x : Int) ≤ 100000000000 := by omega
        have hx0 : (0 : Int) ≤ (x : Int) := by omega
        rw [hx]
        clear hx
        go_wp2
        go_ret
        have hpp := pick_post HH.out HR.out hby hm hp0 hpN
        have hq : (x : Int) / 64 = ((x / 64 : Nat) : Int) := by omega
        have hb1 : bits BinOp.xor IntKind.i64 (x : Int) ((x : Int) / 64) = ((x ^^^ x / 64 : Nat) : Int) := by
          rw [hq]
          exact bits_xor_i64_nat _ _ (by omega) (by omega)
        refine ⟨_, rfl, ?_, fun _ => ?_, fun h => by omega, hpp.1, hpp.2.drewN _⟩
        · rw [hb1]
          exact Int.tmod_nonneg _ (Int.natCast_nonneg _)
        · rw [hb1]
          exact Int.tmod_lt_of_pos _ (by omega)
/-- What odd returns. -/
def OddR (w : World) (g N : Nat) (e : Ending) (w' : World) : Prop := ∃ b : Bool, e = .returned (.bool b) ∧ Rdr w' g (N + 1) ∧ Fr g (g + 1) w w'
set_option maxHeartbeats 1000000 in
theorem odd_any (g N : Nat) (n : Int) (w : World) (hr : Rdr w g N) (hN : N ≤ 1000000000) (hn : n ≤ 4611686018427387904) :
    Calls Try.prog 59 #[.pointer (some ⟨g, 0, none⟩), .int .i64 n] w (OddR w g N) := by
  by_cases h0 : 0 < n
  · go_enter Try.func59, Try.ntmps59
    go_wp2_with fail
    refine (pick_any g N n _ hr hN hn).mono ?_
    rintro e w1 ⟨v, rfl, hv0, hv1, hv2, hr1, hf1⟩
    have hw : wrap64 (n - 1) = n - 1 := by unfold wrap64; omega
    go_wp2
    go_ret
    exact ⟨_, rfl, hr1, hf1⟩
  · go_enter Try.func59, Try.ntmps59
    go_wp2
    go_ret
    exact ⟨false, rfl, hr.mono (by omega), Fr.refl _ _ _⟩
end Go.Proofs.Ytpgmfjipkhldmaa
