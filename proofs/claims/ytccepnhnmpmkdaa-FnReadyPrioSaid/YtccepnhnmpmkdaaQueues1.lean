/- Contracts on rows of integers and on queues: szIntSS, toIntSS, eqIntSS, szQueues, toQueues, eqQueues. -/
import Derived.Test.YtccepnhnmpmkdaaInts
import Derived.Test.YtccepnhnmpmkdaaMat
import Derived.Test.YtccepnhnmpmkdaaRegion
namespace Go.Proofs.Ytccepnhnmpmkdaa
set_option linter.unusedVariables false
open Go.RowKit
theorem Try.infoRow : (Try.prog.info? 38).map (fun i => (i.zero, i.size, i.bytes)) = some (some (.slice none 0 0), 1, 24) := by kernel_rfl
/-- Queues as a value. -/
abbrev queues (A : Option Addr) (n c : Nat) : Value := .agg #[.slice A n c]
/-- Rows of integers in new memory. -/
def NewRows (w : World) (yss : List (List Int)) (e : Ending) (w' : World) : Prop :=
  ∃ A c, e = .returned (.slice A yss.length c) ∧ Rows w' w.heap.size w'.heap.size A yss.length yss ∧ yss.length ≤ c ∧ Below w.heap.size w w'
def NewQueues (w : World) (yss : List (List Int)) (e : Ending) (w' : World) : Prop :=
  ∃ A c, e = .returned (queues A yss.length c) ∧ Rows w' w.heap.size w'.heap.size A yss.length yss ∧ yss.length ≤ c ∧ Below w.heap.size w w'
theorem Rows.via {W w w' : World} {B T n : Nat} {A : Option Addr} {yss : List (List Int)} (h : Rows w B T A n yss) (hb : Below W.heap.size W w') (hW : Below w.heap.size w W) : Rows w' B T A n yss := (h.below hW).below hb
theorem Rows.here {w : World} {B T n : Nat} {A : Option Addr} {yss : List (List Int)} (h : Rows w B T A n yss) : Rows w 0 w.heap.size A n yss := by
  obtain ⟨h1, cs, h2, h3⟩ := h
  exact ⟨h1, cs, h2.here Nat.one_pos, fun k ys hk => by obtain ⟨A', c', a, b, c⟩ := h3 k ys hk; exact ⟨A', c', a, b, c.here Nat.one_pos⟩⟩
def szLeft (l : Int) (n : Nat) : Int := if (n : Int) ≤ l then l - n else -1
theorem szLeft_yes {l : Int} {n : Nat} (h : (n : Int) ≤ l) : szLeft l n = l - n := if_pos h
theorem szLeft_no {l : Int} {n : Nat} (h : ¬ (n : Int) ≤ l) : szLeft l n = -1 := if_neg h
set_option maxHeartbeats 400000 in
theorem szIntS_left (n c : Nat) (A : Option Addr) (l : Int) (w : World) (h0 : 0 ≤ l) (h1 : l ≤ 1048576) (hm : n ≤ 9223372036854775807) :
    Calls Try.prog 48 #[.slice A n c, .int .i64 l] w fun e w' => e = .returned (.int .i64 (szLeft l n)) ∧ w = w' := by
  by_cases h : (n : Int) ≤ l
  · have h2 : ¬ (l - (n : Int)) < 0 := by omega
    have HE := Lib.hid (szLeft_yes (l := l) (n := n) (by omega))
    go_enter Try.func48, Try.ntmps48
    go_wp2
    go_ret
    exact ⟨by rw [HE.out]; rfl, rfl⟩
  · have h2 : (l - (n : Int)) < 0 := by omega
    have HE := Lib.hid (szLeft_no (l := l) (n := n) (by omega))
    go_enter Try.func48, Try.ntmps48
    go_wp2
    go_ret
    exact ⟨by rw [HE.out]; rfl, rfl⟩
set_option maxHeartbeats 1000000 in
theorem szIntSS_any (B T n c : Nat) (A : Option Addr) (yss : List (List Int)) (w : World) (hr : Rows w B T A n yss) (hm : n ≤ 9223372036854775807) (hrows : ∀ ys ∈ yss, ys.length ≤ 9223372036854775807) :
    Calls Try.prog 33 #[.slice A n c, .int .i64 1048576] w fun e w' => e = .returned (.int .i64 (szLeft 1048576 (sizeOfRows yss))) ∧ w = w' := by
  have hl := hr.len
  have HL := Lib.hid hl
  by_cases hn : n ≤ 1048576
  · have h0 : ¬ (1048576 - (n : Int)) < 0 := by omega
    clear hl
    go_enter Try.func33, Try.ntmps33
    go_wp2
    go_loopw [1, 5] (fun l i wr => ∃ k : Nat, k ≤ n ∧ i = .int .i64 k ∧ w = wr ∧ ∃ s : Int, l = .int .i64 s ∧ 0 ≤ s ∧ s ≤ 1048576 ∧ Hid (s = 1048576 - n - (((yss.map List.length).take k).sum : Nat))) (fun _ i _ => n - (intOf i).toNat)
    case atStart => exact ⟨0, by omega, rfl, rfl, _, rfl, by omega, by omega, Lib.hid (by simp)⟩
    case round =>
      obtain ⟨k, hk, rfl, rfl, s, rfl, hs0, hs1, hs⟩ := hrel
      by_cases hlt : k < n
      · obtain ⟨b, o, ys, A', c', rfl, hbl, hy, hc, hle, hrow⟩ := hr.at_ hlt
        have hkk : (k : Int) < (n : Int) := by omega
        have hk0 : (0 : Int) ≤ (k : Int) := by omega
        have HY := Lib.hid hy
        have hym := hrows ys (List.mem_of_getElem? hy)
        clear hr hy hrow
        by_cases hfit : (ys.length : Int) ≤ s
        · have HF := Lib.hid (szLeft_yes hfit)
          have hneg : ¬ (s - (ys.length : Int)) < 0 := by omega
          go_wp2_with fail
          refine (szIntS_left _ _ _ _ _ hs0 hs1 hym).mono ?_
          rintro e w1 ⟨rfl, rfl⟩
          rw [HF.out]
          go_wp2
          go_roundw
          case rel =>
            refine ⟨k + 1, by omega, by go_num, by first | trivial | rfl, _, rfl, by omega, by omega, Lib.hid ?_⟩
            rw [sum_take_succ (show (yss.map List.length)[k]? = some ys.length by rw [List.getElem?_map, HY.out]; rfl), hs.out]
            omega
          case measure => simp [intOf]; omega
        · have HF := Lib.hid (szLeft_no hfit)
          go_wp2_with fail
          refine (szIntS_left _ _ _ _ _ hs0 hs1 hym).mono ?_
          rintro e w1 ⟨rfl, rfl⟩
          rw [HF.out]
          have h1 := sum_take_succ (show (yss.map List.length)[k]? = some ys.length by rw [List.getElem?_map, HY.out]; rfl)
          have h2 := sum_take_le (yss.map List.length) (k + 1)
          have h3 := hs.out
          have h4 := HL.out
          have HV := Lib.hid (szLeft_no (l := 1048576) (n := sizeOfRows yss) (by unfold sizeOfRows; omega))
          clear h1 h2 h3 h4
          go_wp2
          go_ret
          exact ⟨by rw [HV.out]; rfl, rfl⟩
      · have hkn : k = n := by omega
        subst hkn
        clear hr
        have h3 := hs.out
        have h4 := HL.out
        rw [List.take_of_length_le (by rw [List.length_map]; omega)] at h3
        have h5 : (szLeft 1048576 (sizeOfRows yss)) = s := by
          rw [szLeft_yes (by unfold sizeOfRows; omega)]
          unfold sizeOfRows
          omega
        have HV := Lib.hid h5
        clear h3 h4 h5
        go_wp2
        go_ret
        exact ⟨by rw [HV.out]; rfl, rfl⟩
  · have h0 : (1048576 - (n : Int)) < 0 := by omega
    have HN := Lib.hid (szLeft_no (l := 1048576) (n := sizeOfRows yss) (by unfold sizeOfRows; omega))
    clear hl
    go_enter Try.func33, Try.ntmps33
    go_wp2
    go_ret
    exact ⟨by rw [HN.out]; rfl, rfl⟩
set_option maxHeartbeats 400000 in
theorem szQueues_any (B T n c : Nat) (A : Option Addr) (yss : List (List Int)) (w : World) (hr : Rows w B T A n yss) (hm : n ≤ 9223372036854775807) (hrows : ∀ ys ∈ yss, ys.length ≤ 9223372036854775807) :
    Calls Try.prog 16 #[queues A n c, .int .i64 1048576] w fun e w' => e = .returned (.int .i64 (szLeft 1048576 (sizeOfRows yss))) ∧ Below w.heap.size w w' := by
  by_cases h : sizeOfRows yss ≤ 1048576
  · have HE := Lib.hid (szLeft_yes (l := 1048576) (n := sizeOfRows yss) (by omega))
    have h0 : ¬ (1048576 - (sizeOfRows yss : Int)) < 0 := by omega
    go_enter Try.func16, Try.ntmps16
    go_wp2_with fail
    refine (szIntSS_any _ _ _ _ _ yss _ (hr.alloc _) hm hrows).mono ?_
    rintro e w1 ⟨rfl, rfl⟩
    rw [HE.out]
    go_wp2
    go_ret
    exact ⟨by rw [HE.out]; rfl, by (repeat (first | (with_reducible assumption) | (with_reducible exact Below.refl _ _) | (with_reducible refine Below.setCell ?_ (by first | (simp; done) | (simp; omega) | omega) _) | (with_reducible refine Below.alloc ?_ (by first | (simp; done) | (simp; omega) | omega) _) | (with_reducible refine Below.drew ?_) | (with_reducible refine Below.drewN ?_ _)))⟩
  · have HE := Lib.hid (szLeft_no (l := 1048576) (n := sizeOfRows yss) (by omega))
    go_enter Try.func16, Try.ntmps16
    go_wp2_with fail
    refine (szIntSS_any _ _ _ _ _ yss _ (hr.alloc _) hm hrows).mono ?_
    rintro e w1 ⟨rfl, rfl⟩
    rw [HE.out]
    go_wp2
    go_ret
    exact ⟨by rw [HE.out]; rfl, by (repeat (first | (with_reducible assumption) | (with_reducible exact Below.refl _ _) | (with_reducible refine Below.setCell ?_ (by first | (simp; done) | (simp; omega) | omega) _) | (with_reducible refine Below.alloc ?_ (by first | (simp; done) | (simp; omega) | omega) _) | (with_reducible refine Below.drew ?_) | (with_reducible refine Below.drewN ?_ _)))⟩
def RowsTo (w : World) (g k : Nat) (cs : List Value) (yss : List (List Int)) : Prop :=
  ∀ (j : Nat) (ys : List Int), j < k → yss[j]? = some ys → ∃ A' c', cs[j]? = some (.slice A' ys.length c') ∧ ys.length ≤ c' ∧ Rd w (g + 1) w.heap.size 1 A' ys.length (ints ys)
theorem RowsTo.next {w w' : World} {g k : Nat} {cs : List Value} {yss : List (List Int)} {ys : List Int} {A2 : Option Addr} {c2 : Nat} (h : RowsTo w g k cs yss) (hb : Below w.heap.size w w') (hg : g < w.heap.size) (hy : yss[k]? = some ys) (hk : k < cs.length)
    (hle : ys.length ≤ c2) (o2 : Rd w' w.heap.size w'.heap.size 1 A2 ys.length (ints ys)) : RowsTo (w'.setCell ⟨g, k, none⟩ (.slice A2 ys.length c2)) g (k + 1) (cs.set k (.slice A2 ys.length c2)) yss := by
  intro j zs hj hz
  by_cases hjk : k = j
  · subst hjk
    rw [hy] at hz
    injection hz with hz
    subst hz
    refine ⟨A2, c2, List.getElem?_set_self hk, hle, ?_⟩
    have := (o2.mono (B' := g + 1) (by omega) (Nat.le_refl _)).set (p := ⟨g, k, none⟩) (.inl (Nat.lt_succ_self g)) (.slice A2 ys.length c2)
    simpa using this
  · obtain ⟨A', c', e1, e2, e3⟩ := h j zs (by omega) hz
    refine ⟨A', c', by rw [List.getElem?_set_ne (by omega)]; exact e1, e2, ?_⟩
    have := ((e3.below hb).mono (B' := g + 1) (T' := w'.heap.size) (Nat.le_refl _) hb.size).set (p := ⟨g, k, none⟩) (.inl (Nat.lt_succ_self g)) (.slice A2 ys.length c2)
    simpa using this
set_option maxHeartbeats 1000000 in
theorem toIntSS_any (B T n c : Nat) (A : Option Addr) (yss : List (List Int)) (w : World) (hr : Rows w B T A n yss) (hs : sizeOfRows yss ≤ 1048576) :
    Calls Try.prog 35 #[.slice A n c] w (NewRows w yss) := by
  obtain ⟨i0, hi0, hz0, hz1, hz2⟩ := info_parts Try.infoRow
  have hl := hr.len
  have HL := Lib.hid hl
  have hn : n ≤ 1048576 := by unfold sizeOfRows at hs; omega
  clear hl
  go_enter Try.func35, Try.ntmps35
  go_wp2_with (at_make; refine wpList_mk _ rfl _ _ 22 rfl 38 i0 (.slice none 0 0) 1 Try.underlying22 hi0 hz0 hz1 _ _ _ _ n rfl rfl rfl rfl (by rw [hz2]; omega) (by unfold maxLen; omega) ?_; intro w1 hown hb1 hs1)
  have HS := Lib.hid hs1
  clear hs1
  go_loopw [4] (fun i wr => ∃ k : Nat, k ≤ n ∧ i = .int .i64 k ∧ ∃ cs : List Value, Own wr w.heap.size (w.heap.size + 1) 38 1 (some ⟨w.heap.size, 0, none⟩) n n cs ∧ RowsTo wr w.heap.size k cs yss ∧ Below w.heap.size w wr ∧ w.heap.size < wr.heap.size) (fun i _ => n - (intOf i).toNat)
  case atStart => exact ⟨0, by omega, rfl, _, hown, fun j ys hj => absurd hj (by omega), hb1, by rw [HS.out]; omega⟩
  case round =>
    obtain ⟨k, hk, rfl, cs, ho, hto, hb, hsz⟩ := hrel
    by_cases hlt : k < n
    · obtain ⟨b, o, ys, A', c', rfl, hbl, hy, hc, hle, hrow⟩ := (hr.below hb).at_ hlt
      have hkk : (k : Int) < (n : Int) := by omega
      have hk0 : (0 : Int) ≤ (k : Int) := by omega
      have hsm := row_small hs hy
      have HY := Lib.hid hy
      clear hr hy hown
      go_wp2_with fail
      refine (toIntS_any _ _ _ _ _ ys _ hrow hsm).mono ?_
      rintro e w2 ⟨A2, c2, rfl, o2, hb2⟩
      have ho2 := ho.below hb2
      obtain ⟨g, o', h1, h2, h3, h4, h5, h6, h7⟩ := ho2.at_ (by omega)
      injection h1 with h1
      injection h1 with hg ho'
      subst hg
      subst ho'
      have hcl : k < cs.length := by have := ho.1; omega
      have hcell : ∃ v, w2.cell? ⟨w.heap.size, k, none⟩ = some v := ⟨_, by simpa using h5 k _ (List.getElem?_eq_getElem hcl)⟩
      obtain ⟨v, hv⟩ := hcell
      have hf := h6 k
      have hset := h7 k (.slice A2 ys.length c2) hcl
      rw [Nat.zero_add] at hset
      have hnext := hto.next hb2 hsz HY.out hcl o2.le o2.rd
      have hB2 := Below.via hb hb2
      have z2 := hb2.size
      clear h5 h6 h7 ho ho2 hto o2 hb hb2 hrow hc
      go_wp2
      go_roundw
      case rel => exact ⟨k + 1, by omega, by go_num, _, hset, hnext, by (repeat (first | exact Below.refl _ _ | assumption | refine Below.setCell ?_ (by first | (simp; done) | (simp; omega) | omega) _ | refine Below.alloc1 ?_ _ | refine Below.alloc ?_ (by first | (simp; done) | (simp; omega) | omega) _ | refine Below.drew ?_ | refine Below.drewN ?_ _ | refine Below.via ?_ (by assumption))), by simp; omega⟩
      case measure => simp [intOf]; omega
    · have hkn : k = n := by omega
      subst hkn
      clear hr hown
      go_wp2
      go_ret
      have hlen := HL.out
      refine ⟨some ⟨w.heap.size, 0, none⟩, k, by rw [hlen]; rfl, ?_, by omega, hb⟩
      rw [hlen]
      refine ⟨hlen, cs, ho.rd.mono (Nat.le_refl _) (by omega), fun j ys hj => ?_⟩
      have hjl := (List.getElem?_eq_some_iff.1 hj).1
      obtain ⟨A', c', e1, e2, e3⟩ := hto j ys (by omega) hj
      exact ⟨A', c', e1, e2, e3.mono (by omega) (Nat.le_refl _)⟩
set_option maxHeartbeats 1000000 in
theorem toQueues_any (B T n c : Nat) (A : Option Addr) (yss : List (List Int)) (w : World) (hr : Rows w B T A n yss) (hs : sizeOfRows yss ≤ 1048576) :
    Calls Try.prog 18 #[queues A n c] w (NewQueues w yss) := by
  replace hr := hr.here
  go_enter Try.func18, Try.ntmps18
  go_wp2_with fail
  refine (toIntSS_any 0 w.heap.size n c A yss _ (((hr.alloc _).alloc _).alloc _) hs).mono ?_
  rintro e w1 ⟨A1, c1, rfl, o1, hle, hb1⟩
  have z1 := hb1.size
  simp at z1
  have TR := ((Blk.newAt (w := w.alloc (.cells #[.slice A n c] 29)) (n := w.heap.size + 1) 24 #[.slice none 0 0] (by simp)).alloc (.cells #[.slice none 0 0] 24)).below hb1
  have TO := (Blk.newAt (w := (w.alloc (.cells #[.slice A n c] 29)).alloc (.cells #[.slice none 0 0] 24)) (n := w.heap.size + 1 + 1) 24 #[.slice none 0 0] (by simp)).below hb1
  replace o1 := o1.mono (B' := w.heap.size + 1 + 1 + 1) (T' := w1.heap.size) (by simp) (Nat.le_refl _)
  have hB1 := Below.via (by (repeat (first | (with_reducible assumption) | (with_reducible exact Below.refl _ _) | (with_reducible refine Below.setCell ?_ (by first | (simp; done) | (simp; omega) | omega) _) | (with_reducible refine Below.alloc ?_ (by first | (simp; done) | (simp; omega) | omega) _) | (with_reducible refine Below.drew ?_) | (with_reducible refine Below.drewN ?_ _))) : Below w.heap.size w _) hb1
  have r0 := TR.cell 0 rfl
  have p0 := TO.cell 0 rfl
  have rf := TR.free
  have pf := TO.free
  clear hb1 hr TR TO
  go_wp2
  refine bodyPost_ret (v := queues A1 yss.length c1) (by simp [results, Try.results18, go_sem, *]) rfl ⟨A1, c1, rfl, Rows.mono (B := w.heap.size + 1 + 1 + 1) (T := w1.heap.size) (Rows.set (Rows.set o1 (p := ⟨w.heap.size + 1 + 1, 0, none⟩) (.inl (Nat.lt_succ_self _)) _) (p := ⟨w.heap.size + 1, 0, none⟩) (.inl (by show w.heap.size + 1 < _; omega)) _) (by omega) (by simp), hle, by (repeat (first | (with_reducible assumption) | (with_reducible exact Below.refl _ _) | (with_reducible refine Below.setCell ?_ (by first | (simp; done) | (simp; omega) | omega) _) | (with_reducible refine Below.alloc ?_ (by first | (simp; done) | (simp; omega) | omega) _) | (with_reducible refine Below.drew ?_) | (with_reducible refine Below.drewN ?_ _)))⟩
set_option maxHeartbeats 1000000 in
theorem eqIntSS_any (B T B2 T2 n c m c2 : Nat) (A A2 : Option Addr) (xss yss : List (List Int)) (w : World) (hr : Rows w B T A n xss) (hr2 : Rows w B2 T2 A2 m yss) (hs : sizeOfRows xss ≤ 1048576) :
    Calls Try.prog 30 #[.slice A n c, .slice A2 m c2] w fun e w' => e = .returned (.bool (decide (xss = yss))) ∧ Below w.heap.size w w' := by
  have hl := hr.len
  have hl2 := hr2.len
  have hn : n ≤ 1048576 := by unfold sizeOfRows at hs; omega
  by_cases hnm : n = m
  · subst hnm
    have HL := Lib.hid hl
    have HL2 := Lib.hid hl2
    clear hl hl2
    go_enter Try.func30, Try.ntmps30
    go_wp2
    go_loopw [5] (fun i wr => ∃ k : Nat, k ≤ n ∧ i = .int .i64 k ∧ Hid (xss.take k = yss.take k) ∧ Below w.heap.size w wr) (fun i _ => n - (intOf i).toNat)
    case atStart => exact ⟨0, by omega, rfl, Lib.hid rfl, Below.refl _ _⟩
    case round =>
      obtain ⟨k, hk, rfl, ht, hb⟩ := hrel
      by_cases hlt : k < n
      · obtain ⟨b, o, xs, A', c', rfl, hbl, hx, hc, hle, hrow⟩ := (hr.below hb).at_ hlt
        obtain ⟨b2, o2, ys, A2', c2', rfl, hbl2, hy, hc2, hle2, hrow2⟩ := (hr2.below hb).at_ hlt
        have hkk : (k : Int) < (n : Int) := by omega
        have hk0 : (0 : Int) ≤ (k : Int) := by omega
        have hsm := row_small hs hx
        have HX := Lib.hid hx
        have HY := Lib.hid hy
        clear hr hr2 hx hy
        go_wp2_with fail
        refine wp_region_noPanic ?_
        refine wp_region_held_drew (S := (fun W => W.cell? ⟨b, o + k, none⟩ = some (.slice A' xs.length c') ∧ W.cell? ⟨b2, o2 + k, none⟩ = some (.slice A2' ys.length c2'))) (by kernel_rfl) ?_ (fun hHeld => ?_)
        focus (first | exact trivial | ((try dsimp only); ((repeat' (first | assumption | with_reducible refine And.intro ?_ ?_)) <;> go_keep))); done
        refine wpAnyH_take (i := 0) (v := ?_) (by rw [List.getElem?_toArray]; rfl) (by kernel_rfl) (by kernel_rfl) (by kernel_rfl) (fun _ _ _ h => h) (Or.inl ⟨by rfl, ?_⟩) (by assumption) ?_
        rotate_left
        focus (intro wS hSw; (try dsimp only at hSw); go_simp; (try with_reducible rfl)); done
        (try simp only [Act.put, List.setIfInBounds_toArray, List.set_cons_zero, List.set_cons_succ])
        refine wpAnyH_take (i := 1) (v := ?_) (by rw [List.getElem?_toArray]; rfl) (by kernel_rfl) (by kernel_rfl) (by kernel_rfl) (fun _ _ _ h => h) (Or.inl ⟨by rfl, ?_⟩) (by assumption) ?_
        rotate_left
        focus (intro wS hSw; (try dsimp only at hSw); go_simp; (try with_reducible rfl)); done
        (try simp only [Act.put, List.setIfInBounds_toArray, List.set_cons_zero, List.set_cons_succ])
        refine wpAnyH_take (i := 2) (v := ?_) (by rw [List.getElem?_toArray]; rfl) (by kernel_rfl) (by kernel_rfl) (by kernel_rfl) (fun _ _ _ h => h) (Or.inl ⟨by rfl, ?_⟩) (by assumption) ?_
        rotate_left
        focus (intro wS hSw; (try dsimp only at hSw); go_simp; (try with_reducible rfl)); done
        (try simp only [Act.put, List.setIfInBounds_toArray, List.set_cons_zero, List.set_cons_succ])
        refine wpAnyH_take (i := 3) (v := ?_) (by rw [List.getElem?_toArray]; rfl) (by kernel_rfl) (by kernel_rfl) (by kernel_rfl) (fun _ _ _ h => h) (Or.inl ⟨by rfl, ?_⟩) (by assumption) ?_
        rotate_left
        focus (intro wS hSw; (try dsimp only at hSw); go_simp; (try with_reducible rfl)); done
        (try simp only [Act.put, List.setIfInBounds_toArray, List.set_cons_zero, List.set_cons_succ])
        refine wpAnyH_take (i := 4) (v := ?_) (by rw [List.getElem?_toArray]; rfl) (by kernel_rfl) (by kernel_rfl) (by kernel_rfl) (fun _ _ _ h => h) (Or.inl ⟨by rfl, ?_⟩) (by assumption) ?_
        rotate_left
        focus (intro wS hSw; (try dsimp only at hSw); go_simp; (try with_reducible rfl)); done
        (try simp only [Act.put, List.setIfInBounds_toArray, List.set_cons_zero, List.set_cons_succ])
        refine wpAnyH_take (i := 5) (v := ?_) (by rw [List.getElem?_toArray]; rfl) (by kernel_rfl) (by kernel_rfl) (by kernel_rfl) (fun _ _ _ h => h) (Or.inl ⟨by rfl, ?_⟩) (by assumption) ?_
        rotate_left
        focus (intro wS hSw; (try dsimp only at hSw); go_simp; (try with_reducible rfl)); done
        (try simp only [Act.put, List.setIfInBounds_toArray, List.set_cons_zero, List.set_cons_succ])
        refine wpAnyH_take (i := 6) (v := ?_) (by rw [List.getElem?_toArray]; rfl) (by kernel_rfl) (by kernel_rfl) (by kernel_rfl) (fun _ _ _ h => h) (Or.inl ⟨by rfl, ?_⟩) (by assumption) ?_
        rotate_left
        focus (intro wS hSw; (try dsimp only at hSw); go_simp; (try with_reducible rfl)); done
        (try simp only [Act.put, List.setIfInBounds_toArray, List.set_cons_zero, List.set_cons_succ])
        refine wpAnyH_take (i := 7) (v := ?_) (by rw [List.getElem?_toArray]; rfl) (by kernel_rfl) (by kernel_rfl) (by kernel_rfl) (fun _ _ _ h => h) (Or.inl ⟨by rfl, ?_⟩) (by assumption) ?_
        rotate_left
        focus (intro wS hSw; (try dsimp only at hSw); go_simp; (try with_reducible rfl)); done
        (try simp only [Act.put, List.setIfInBounds_toArray, List.set_cons_zero, List.set_cons_succ])
        refine wpAnyH_ready (rs := [8]) (by kernel_rfl) (by simp) ?_
        refine AllReadyH.cons (by rw [List.getElem?_toArray]; rfl) (fun K hK => ?_) AllReadyH.nil
        go_simp
        refine (eqIntS_any _ _ _ _ _ _ _ _ _ _ xs ys _ hrow.drew hrow2.drew hsm).mono ?_; rintro e w1 ⟨rfl, hb1⟩; have hB1 := Below.via (Below.drew hb) hb1
        refine hK.out _ _ ?_ (fun hHeld => ?_)
        focus (first | exact trivial | ((try dsimp only); (exact ⟨(hb1.cell (p := ⟨b, o + k, none⟩) hbl).trans hc, (hb1.cell (p := ⟨b2, o2 + k, none⟩) hbl2).trans hc2⟩))); done
        clear hK K
        (try simp only [Act.put, List.setIfInBounds_toArray, List.set_cons_zero, List.set_cons_succ])
        refine wpAnyH_take (i := 9) (v := ?_) (by rw [List.getElem?_toArray]; rfl) (by kernel_rfl) (by kernel_rfl) (by kernel_rfl) (fun _ _ _ h => h) (Or.inl ⟨by rfl, ?_⟩) (by assumption) ?_
        rotate_left
        focus (intro wS hSw; (try dsimp only at hSw); go_simp; (try with_reducible rfl)); done
        (try simp only [Act.put, List.setIfInBounds_toArray, List.set_cons_zero, List.set_cons_succ])
        refine wpAnyH_done (by kernel_rfl) ?_ _
        refine NoPanic.normal ?_
        by_cases hxy : xs = ys
        · subst hxy
          go_wp2
          go_roundw
          case rel => exact ⟨k + 1, by omega, by go_num, Lib.hid (by rw [List.take_add_one, List.take_add_one, ht.out, HX.out, HY.out]), hB1⟩
          case measure => simp [intOf]; omega
        · have hd : decide (xs = ys) = false := by simp [hxy]
          rw [hd]
          go_wp2
          go_ret
          refine ⟨?_, hB1⟩
          have : decide (xss = yss) = false := by
            rw [decide_eq_false_iff_not]
            intro he
            subst he
            have h1 := HX.out
            rw [HY.out] at h1
            injection h1 with h1
            exact hxy h1.symm
          rw [this]
          rfl
      · have hkn : k = n := by omega
        subst hkn
        clear hr hr2
        have h1 := ht.out
        rw [List.take_of_length_le (by rw [HL.out]; exact Nat.le_refl _), List.take_of_length_le (by rw [HL2.out]; exact Nat.le_refl _)] at h1
        have HE := Lib.hid (decide_eq_true h1)
        clear h1
        go_wp2
        go_ret
        exact ⟨by rw [HE.out]; rfl, hb⟩
  · have hne : ¬ (n : Int) = (m : Int) := by omega
    have hd : decide (xss = yss) = false := by
      rw [decide_eq_false_iff_not]
      intro he
      subst he
      omega
    have HD := Lib.hid hd
    clear hd hl hl2
    go_enter Try.func30, Try.ntmps30
    go_wp2
    go_ret
    exact ⟨by rw [HD.out]; rfl, Below.refl _ _⟩
set_option maxHeartbeats 400000 in
theorem eqQueues_any (B T B2 T2 n c m c2 : Nat) (A A2 : Option Addr) (xss yss : List (List Int)) (w : World) (hr : Rows w B T A n xss) (hr2 : Rows w B2 T2 A2 m yss) (hs : sizeOfRows xss ≤ 1048576) :
    Calls Try.prog 13 #[queues A n c, queues A2 m c2] w fun e w' => e = .returned (.bool (decide (xss = yss))) ∧ Below w.heap.size w w' := by
  go_enter Try.func13, Try.ntmps13
  go_wp2_with fail
  refine (eqIntSS_any _ _ _ _ _ _ _ _ _ _ xss yss _ ((hr.alloc _).alloc _) ((hr2.alloc _).alloc _) hs).mono ?_
  rintro e w1 ⟨rfl, hb1⟩
  have hB := Below.via (by (repeat (first | (with_reducible assumption) | (with_reducible exact Below.refl _ _) | (with_reducible refine Below.setCell ?_ (by first | (simp; done) | (simp; omega) | omega) _) | (with_reducible refine Below.alloc ?_ (by first | (simp; done) | (simp; omega) | omega) _) | (with_reducible refine Below.drew ?_) | (with_reducible refine Below.drewN ?_ _))) : Below w.heap.size w _) hb1
  by_cases h : xss = yss
  · have HE := Lib.hid (decide_eq_true h)
    rw [decide_eq_true h]
    clear h
    go_wp2
    go_ret
    exact ⟨by first | rfl | (rw [HE.out]; rfl), hB⟩
  · have HE := Lib.hid (decide_eq_false h)
    rw [decide_eq_false h]
    clear h
    go_wp2
    go_ret
    exact ⟨by first | rfl | (rw [HE.out]; rfl), hB⟩
end Go.Proofs.Ytccepnhnmpmkdaa
