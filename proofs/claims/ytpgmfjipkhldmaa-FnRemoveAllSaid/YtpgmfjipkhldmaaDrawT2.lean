/- The draws of trees: what they do to memory; the values are left open. -/
import Derived.Test.YtpgmfjipkhldmaaDrawT1
import Derived.Test.YtpgmfjipkhldmaaRegion
import Derived.Test.YtpgmfjipkhldmaaDraw1
namespace Go.Proofs.Ytpgmfjipkhldmaa
set_option linter.unusedVariables false
open Go.RowKit
/-- A drawn tree, in new memory; the reader in block g has gone on. -/
def TreeR (w : World) (g M : Nat) (e : Ending) (w' : World) : Prop :=
  ∃ (A : Option Addr) (n c : Nat) (es : List En), e = .returned (.slice A n c) ∧ Own w' w.heap.size w'.heap.size 39 6 A n c (ents es) ∧ n ≤ 60 ∧ Rdr w' g M ∧ Fr g (g + 1) w w'
theorem c2t (x y : Int) {q : Nat} (h : q < 2) : ∃ z : Int, (#[.int .i64 x, .int .i64 y] : Array Value)[q]? = some (.int .i64 z) := by
  match q, h with
  | 0, _ => exact ⟨x, rfl⟩
  | 1, _ => exact ⟨y, rfl⟩
theorem c3t (x y u : Int) {q : Nat} (h : q < 3) : ∃ z : Int, (#[.int .i64 x, .int .i64 y, .int .i64 u] : Array Value)[q]? = some (.int .i64 z) := by
  match q, h with
  | 0, _ => exact ⟨x, rfl⟩
  | 1, _ => exact ⟨y, rfl⟩
  | 2, _ => exact ⟨u, rfl⟩
/-- The number of elements of a slice. -/
def sliceN : Value → Nat
  | .slice _ n _ => n
  | _ => 0
theorem ents_setH {es : List En} {k : Nat} {c : Cp} {p : Int} {g : Bool} (h : es[k]? = some (c, p, g)) (d : Cp) : ents (es.set k (d, p, g)) = ((((ents es).set (k * 6) (.int .i64 d.1)).set (k * 6 + 1) (.int .i64 d.2.1)).set (k * 6 + 2) (.int .i64 d.2.2.1)).set (k * 6 + 3) (.int .i64 d.2.2.2) := by
  induction es generalizing k with
  | nil => cases h
  | cons d' es ih =>
    cases k with
    | zero =>
      have : d' = (c, p, g) := by simpa using h
      subst this
      simp [ents_cons, entC]
    | succ k =>
      rw [List.set_cons_succ, ents_cons, ents_cons, ih (by simpa using h)]
      have e1 : ∀ i, (k + 1) * 6 + i = (entC d').length + (k * 6 + i) := fun i => by simp [entC]; omega
      have e0 : (k + 1) * 6 = (entC d').length + k * 6 := by simp [entC]; omega
      rw [e1 1, e1 2, e1 3, e0]
      simp only [List.set_append_right _ _ (Nat.le_add_right _ _), Nat.add_sub_cancel_left]
/-- The capability of entry k is taken away. -/
theorem Own.noCap {w : World} {B T n c : Nat} {e : TypeId} {A : Option Addr} {es : List En} (h : Own w B T e 6 A n c (ents es)) {k : Nat} (hk : k < n) :
    ∃ g o, A = some ⟨g, o, none⟩ ∧ B ≤ g ∧ g < T ∧ g < w.heap.size ∧ (∀ i, i < 6 → ∃ u, w.cell? ⟨g, o + k * 6 + i, none⟩ = some u) ∧ (∀ j, w.frozen? ⟨g, j, none⟩ = false) ∧
      ∃ es', Own ((((w.setCell ⟨g, o + k * 6, none⟩ (.int .i64 0)).setCell ⟨g, o + k * 6 + 1, none⟩ (.int .i64 0)).setCell ⟨g, o + k * 6 + 2, none⟩ (.int .i64 0)).setCell ⟨g, o + k * 6 + 3, none⟩ (.int .i64 0)) B T e 6 A n c (ents es') := by
  have hl := h.1
  have hl2 := ents_len h.rd
  have hn : 0 < n := by omega
  obtain ⟨g, o, h1, h2, h3, h4, h5, h6, h7⟩ := h.at_ hn
  subst h1
  obtain ⟨⟨cp, pp, gg⟩, hx⟩ : ∃ x, es[k]? = some x := ⟨_, List.getElem?_eq_getElem (by omega)⟩
  have s0 := h.put hn (k * 6) (.int .i64 0) (by omega)
  have s1 := s0.put hn (k * 6 + 1) (.int .i64 0) (by simp only [List.length_set]; omega)
  have s2 := s1.put hn (k * 6 + 2) (.int .i64 0) (by simp only [List.length_set]; omega)
  have s3 := s2.put hn (k * 6 + 3) (.int .i64 0) (by simp only [List.length_set]; omega)
  refine ⟨g, o, rfl, h2, h3, h4, fun i hi => ?_, h6, es.set k ((0, 0, 0, 0), pp, gg), ?_⟩
  · have hj : k * 6 + i < (ents es).length := by omega
    exact ⟨_, by rw [Nat.add_assoc]; exact h5 _ _ (List.getElem?_eq_getElem hj)⟩
  · rw [ents_setH hx (0, 0, 0, 0)]
    simpa only [Nat.add_assoc] using s3
/-- The parent of entry k may be written. -/
theorem Own.par {w : World} {B T n c g o : Nat} {e : TypeId} {es : List En} (h : Own w B T e 6 (some ⟨g, o, none⟩) n c (ents es)) {k : Nat} (hk : k < n) :
    B ≤ g ∧ g < T ∧ g < w.heap.size ∧ (∀ j, w.frozen? ⟨g, j, none⟩ = false) ∧ (∃ u, w.cell? ⟨g, o + k * 6 + 4, none⟩ = some u) ∧ ∀ v, ∃ es', Own (w.setCell ⟨g, o + k * 6 + 4, none⟩ (.int .i64 v)) B T e 6 (some ⟨g, o, none⟩) n c (ents es') := by
  have hl := ents_len h.rd
  obtain ⟨⟨cp, pp, gg⟩, hx⟩ : ∃ x, es[k]? = some x := ⟨_, List.getElem?_eq_getElem (by omega)⟩
  obtain ⟨g', o', e1, x1, x2, x3, x4, x5, -, x7, -⟩ := h.ent hx
  injection e1 with e1
  injection e1 with eg eo
  subst eg
  subst eo
  exact ⟨x1, x2, x3, x4, x5, fun v => ⟨_, x7 v⟩⟩
theorem quo13 {v : Int} (h0 : 0 ≤ v) (h1 : v < 14) : IntKind.i64.wrap (v.tdiv 13) = v / 13 := by
  rw [Int.tdiv_eq_ediv_of_nonneg h0]
  exact wr64s (by omega) (by omega)
set_option maxRecDepth 100000 in
set_option maxHeartbeats 20000000 in
theorem l20Tree_any (g N : Nat) (n : Int) (w : World) (hr : Rdr w g N) (hN : N ≤ 100000) (hn : n ≤ 4611686018427387904) :
    Calls Try.prog 44 #[.pointer (some ⟨g, 0, none⟩), .int .i64 n] w (TreeR w g (N + 110)) := by
  obtain ⟨j0, hj0, hy0, hy1, hy2⟩ := info_parts Try.infoEntry
  have hgl := hr.lt
  go_enter Try.func44, Try.ntmps44
  go_wp2_with fail
  refine (pick_any _ _ (14) _ (hr.alloc _) (by omega) (by omega)).mono ?_
  rintro e w1 ⟨v1, rfl, hv1, ul1, -, hr1, f1⟩
  replace ul1 := ul1 (by omega)
  have z1 := f1.size
  have lt1 := hr1.lt
  simp at z1
  have F1 := Fr.trans (by (repeat (first | (with_reducible assumption) | (with_reducible refine Fr.drew ?_) | (with_reducible exact Fr.refl _ _ _) | (with_reducible refine Fr.setOut ?_ (by first | (simp; done) | (simp; omega) | omega) _) | (with_reducible refine Fr.alloc ?_ _))) : Fr g (g + 1) w (w.alloc (.cells #[] 39))) f1
  obtain ⟨k0, rfl⟩ := Int.eq_ofNat_of_zero_le hv1
  have hk0 : k0 ≤ 13 := by omega
  clear hr f1 hv1 ul1
  go_wp2
  go_loopw [5, 6] (fun u v wr => ∃ (k q c : Nat) (A : Option Addr) (ds : List En), u = .slice A q c ∧ v = .int .i64 (k : Int) ∧ q + k ≤ 13 ∧ Own wr w.heap.size wr.heap.size 39 6 A q c (ents ds) ∧ Rdr wr g (N + 80 - 6 * k) ∧ Fr g (g + 1) w wr) (fun _ v _ => (intOf v).toNat)
  case atStart => exact ⟨k0, 0, 0, _, [], rfl, rfl, by omega, Own.nil _ _ _ _ _ _, hr1.mono (by omega), F1⟩
  case round =>
    clear hr1 F1 hk0
    obtain ⟨k, q, c, A, ds, rfl, rfl, hqk, ho, hrd, hF⟩ := hrel
    have lg := hrd.lt
    have hwr := hF.size
    cases k with
    | succ p =>
      have hkq : (0 : Int) < ((p + 1 : Nat) : Int) := by omega
      go_wp2_with fail
      refine (pick_any _ _ (6) _ hrd (by omega) (by omega)).mono ?_
      rintro e w5 ⟨v5, rfl, hv5, ul5, -, hr5, f5⟩
      replace ul5 := ul5 (by omega)
      have z5 := f5.size
      have lt5 := hr5.lt
      replace ho := Own.fr ho f5 (.inr (by omega))
      replace hF := hF.trans f5
      clear f5 hrd
      by_cases h0 : v5 = 0
      · subst h0
        clear hv5 ul5
        go_wp2_with fail
        refine (pick_any _ _ (4) _ hr5 (by omega) (by omega)).mono ?_
        rintro e w6 ⟨v6, rfl, hv6, ul6, -, hr6, f6⟩
        replace ul6 := ul6 (by omega)
        have z6 := f6.size
        have lt6 := hr6.lt
        replace ho := Own.fr ho f6 (.inr (by omega))
        replace hF := hF.trans f6
        clear f6 hr5
        go_wp2_with (at_builtin; refine wpList_appg _ (by rfl) (.tmp 56) (.tmp 61) 23 rfl 39 j0 (entv 0 0 0 0 0 false) 6 48 Try.underlying23 hj0 hy0 hy1 hy2 rfl (by omega) w.heap.size wr.heap.size w6.heap.size (w6.heap.size + 1) A (some ⟨w6.heap.size, 0, none⟩) q c 1 1 (ents ds) (entC ((4, v6, 15, 0), -1, false)) rfl rfl (ho.alloc _) (ent_new _ _ 39 rfl ((4, v6, 15, 0), -1, false)) (ents_one [((4, v6, 15, 0), -1, false)]) (by unfold maxLen; omega) (by omega) (by simp; omega) ?_; intro A9 c9 w9 o9 f9; have z9 := f9.size; (try simp at z9); have hrz := Rdr.fr (g := g) (by (repeat (first | (with_reducible assumption) | (with_reducible refine Rdr.drew ?_) | (with_reducible refine Rdr.set ?_ (by first | (simp; done) | (simp; omega) | omega) _) | (with_reducible refine Rdr.alloc ?_ _))) : Rdr _ g (N + 80 - 6 * (p + 1) + 1 + 1)) f9 (.inl (by omega)) (by omega); have hFz := Fr.own (by (repeat (first | (with_reducible assumption) | (with_reducible refine Fr.drew ?_) | (with_reducible exact Fr.refl _ _ _) | (with_reducible refine Fr.setOut ?_ (by first | (simp; done) | (simp; omega) | omega) _) | (with_reducible refine Fr.alloc ?_ _))) : Fr g (g + 1) w _) f9; have HOZ := Lib.hid o9; clear o9 f9 ho hF)
        go_roundw
        case rel =>
          refine ⟨p, q + 1, c9, A9, ds ++ [((4, v6, 15, 0), -1, false)], rfl, by go_num, by omega, ?_, hrz.mono (by omega), hFz⟩
          have h := HOZ.out
          rw [ents_append]
          simpa [ents] using h
        case measure => simp [intOf]
      · have h0b : (v5 == 0) = false := beq_eq_false_iff_ne.2 h0
        clear h0
        by_cases h1 : v5 = 1
        · subst h1
          clear hv5 ul5 h0b
          rcases Nat.eq_zero_or_pos q with rfl | hq
          · have hq0 : ¬ (0 : Int) < ((0 : Nat) : Int) := by omega
            have HO := Lib.hid ho
            clear ho
            go_wp2
            go_roundw
            case rel => exact ⟨p, 0, c, A, ds, rfl, by go_num, by omega, HO.out.mono (Nat.le_refl _) (by omega), hr5.mono (by omega), hF⟩
            case measure => simp [intOf]
          · have hq0 : (0 : Int) < (q : Int) := by omega
            go_wp2_with fail
            refine (pick_any _ _ ((q : Int)) _ hr5 (by omega) (by omega)).mono ?_
            rintro e w7 ⟨v7, rfl, hv7, ul7, -, hr7, f7⟩
            replace ul7 := ul7 (by omega)
            have z7 := f7.size
            have lt7 := hr7.lt
            replace ho := Own.fr ho f7 (.inr (by omega))
            replace hF := hF.trans f7
            clear f7 hr5
            obtain ⟨m, rfl⟩ := Int.eq_ofNat_of_zero_le hv7
            have hmq : m < q := by omega
            obtain ⟨gA, aA, kk, oo, rr, bb, pp, gg, rfl, hgA, hx, q0, q1, q2, q3, q4, q5⟩ := ent_at ho.rd hmq
            clear hx q0 q1 q2 q3 q4 hv7
            cases gg
            · skip
              go_wp2_with fail
              refine (sRemoveCap_mem w.heap.size wr.heap.size q c _ ds m _ ho.rd (by omega) hmq).mono ?_
              rintro e w8 ⟨A8, m8, c8, ds8, rfl, hm8, ho8, hb8⟩
              have z8 := hb8.size
              have hr8 := hr7.below hb8
              replace hF := hF.trans (Fr.of_below hb8 g (g + 1))
              have HO := Lib.hid ho8
              clear hb8 ho8 ho hr7 q5
              go_wp2
              go_roundw
              case rel => exact ⟨p, m8, c8, A8, ds8, rfl, by go_num, by omega, HO.out.mono (by omega) (Nat.le_refl _), hr8.mono (by omega), hF⟩
              case measure => simp [intOf]
            · have HO := Lib.hid ho
              clear ho
              go_wp2
              go_roundw
              case rel => exact ⟨p, q, c, _, ds, rfl, by go_num, by omega, HO.out.mono (Nat.le_refl _) (by omega), hr7.mono (by omega), hF⟩
              case measure => simp [intOf]
        · have h1b : (v5 == 1) = false := beq_eq_false_iff_ne.2 h1
          clear h1
          rcases Nat.eq_zero_or_pos q with rfl | hq
          · have hq0 : ¬ (0 : Int) < ((0 : Nat) : Int) := by omega
            have HO := Lib.hid ho
            clear ho
            go_wp2
            go_roundw
            case rel => exact ⟨p, 0, c, A, ds, rfl, by go_num, by omega, HO.out.mono (Nat.le_refl _) (by omega), hr5.mono (by omega), hF⟩
            case measure => simp [intOf]
          · have hq0 : (0 : Int) < (q : Int) := by omega
            go_wp2_with fail
            refine (pick_any _ _ ((q : Int)) _ hr5 (by omega) (by omega)).mono ?_
            rintro e w7 ⟨v7, rfl, hv7, ul7, -, hr7, f7⟩
            replace ul7 := ul7 (by omega)
            have z7 := f7.size
            have lt7 := hr7.lt
            replace ho := Own.fr ho f7 (.inr (by omega))
            replace hF := hF.trans f7
            clear f7 hr5
            obtain ⟨m, rfl⟩ := Int.eq_ofNat_of_zero_le hv7
            have hmq : m < q := by omega
            obtain ⟨gA, aA, kk, oo, rr, bb, pp, gg, rfl, hgA, hx, q0, q1, q2, q3, q4, q5⟩ := ent_at ho.rd hmq
            clear hx q0 q1 q2 q3 q4 hv7
            cases gg
            · skip
              go_wp2_with fail
              clear q5
              refine wp_region_noPanic ?_
              refine wp_region_held_drew (S := (fun _ => True)) (by kernel_rfl) ?_ (fun hHeld => ?_)
              focus (first | exact trivial | ((try dsimp only); ((repeat' (first | assumption | with_reducible refine And.intro ?_ ?_)) <;> go_keep))); done
              refine wpAnyH_take (i := 0) (v := ?_) (by rw [List.getElem?_toArray]; rfl) (by kernel_rfl) (by kernel_rfl) (by kernel_rfl) (fun _ _ _ h => h) (Or.inl ⟨by rfl, ?_⟩) (by assumption) ?_
              rotate_left
              focus (intro wS hSw; (try dsimp only at hSw); go_simp; (try with_reducible rfl)); done
              (try simp only [Act.put, List.setIfInBounds_toArray, List.set_cons_zero, List.set_cons_succ])
              refine wpAnyH_take (i := 1) (v := ?_) (by rw [List.getElem?_toArray]; rfl) (by kernel_rfl) (by kernel_rfl) (by kernel_rfl) (fun _ _ _ h => h) (Or.inl ⟨by rfl, ?_⟩) (by assumption) ?_
              rotate_left
              focus (intro wS hSw; (try dsimp only at hSw); go_simp; (try with_reducible rfl)); done
              (try simp only [Act.put, List.setIfInBounds_toArray, List.set_cons_zero, List.set_cons_succ])
              refine wpAnyH_take (i := 2) (v := ?_) (by rw [List.getElem?_toArray]; rfl) (by kernel_rfl) (by kernel_rfl) (by kernel_rfl) (fun _ _ _ h => h) (Or.inl ⟨by rfl, ?_⟩) (by assumption) ?_
              rotate_left
              focus (intro wS hSw; (try dsimp only at hSw); go_simp; (try with_reducible rfl)); done
              (try simp only [Act.put, List.setIfInBounds_toArray, List.set_cons_zero, List.set_cons_succ])
              refine wpAnyH_take (i := 5) (v := ?_) (by rw [List.getElem?_toArray]; rfl) (by kernel_rfl) (by kernel_rfl) (by kernel_rfl) (fun _ _ _ h => h) (Or.inl ⟨by rfl, ?_⟩) (by assumption) ?_
              rotate_left
              focus (intro wS hSw; (try dsimp only at hSw); go_simp; (try with_reducible rfl)); done
              (try simp only [Act.put, List.setIfInBounds_toArray, List.set_cons_zero, List.set_cons_succ])
              refine wpAnyH_take (i := 9) (v := ?_) (by rw [List.getElem?_toArray]; rfl) (by kernel_rfl) (by kernel_rfl) (by kernel_rfl) (fun _ _ _ h => h) (Or.inl ⟨by rfl, ?_⟩) (by assumption) ?_
              rotate_left
              focus (intro wS hSw; (try dsimp only at hSw); go_simp; (try with_reducible rfl)); done
              (try simp only [Act.put, List.setIfInBounds_toArray, List.set_cons_zero, List.set_cons_succ])
              refine wpAnyH_take (i := 13) (v := ?_) (by rw [List.getElem?_toArray]; rfl) (by kernel_rfl) (by kernel_rfl) (by kernel_rfl) (fun _ _ _ h => h) (Or.inl ⟨by rfl, ?_⟩) (by assumption) ?_
              rotate_left
              focus (intro wS hSw; (try dsimp only at hSw); go_simp; (try with_reducible rfl)); done
              (try simp only [Act.put, List.setIfInBounds_toArray, List.set_cons_zero, List.set_cons_succ])
              refine wpAnyH_ready (rs := [3]) (by kernel_rfl) (by simp) ?_
              refine AllReadyH.cons (by rw [List.getElem?_toArray]; rfl) (fun K hK => ?_) AllReadyH.nil
              go_simp
              refine (pick_any g (N + 80 - 6 * (p + 1) + 1 + 1) 16 _ (by (repeat (first | (with_reducible assumption) | (with_reducible refine Rdr.drew ?_) | (with_reducible refine Rdr.set ?_ (by first | (simp; done) | (simp; omega) | omega) _) | (with_reducible refine Rdr.alloc ?_ _)))) (by omega) (by omega)).mono ?_; rintro e wa ⟨va, rfl, hva, ula, -, hra, fa⟩; replace ula := ula (by omega); have za := fa.size; (try simp at za); replace ho := Own.fr (by (repeat (first | (with_reducible assumption) | (with_reducible refine Own.alloc ?_ _) | (with_reducible refine Own.drew ?_) | (with_reducible refine Own.set ?_ (by first | (simp; done) | (simp; omega) | omega) _))) : Own _ w.heap.size wr.heap.size 39 6 (some ⟨gA, aA, none⟩) q c (ents ds)) fa (.inr (by omega)); replace hF := Fr.trans (by (repeat (first | (with_reducible assumption) | (with_reducible refine Fr.drew ?_) | (with_reducible exact Fr.refl _ _ _) | (with_reducible refine Fr.setOut ?_ (by first | (simp; done) | (simp; omega) | omega) _) | (with_reducible refine Fr.alloc ?_ _))) : Fr g (g + 1) w _) fa; have lta := hra.lt; clear fa hr7
              refine hK.out _ _ ?_ (fun hHeld => ?_)
              focus (first | exact trivial | ((try dsimp only); (exact trivial))); done
              clear hK K
              (try simp only [Act.put, List.setIfInBounds_toArray, List.set_cons_zero, List.set_cons_succ])
              refine wpAnyH_ready (rs := [4, 6]) (by kernel_rfl) (by simp) ?_
              refine AllReadyH.cons (by rw [List.getElem?_toArray]; rfl) (fun K hK => ?_) (AllReadyH.cons (by rw [List.getElem?_toArray]; rfl) (fun K hK => ?_) AllReadyH.nil)
              · go_simp
                skip
                refine hK.out _ _ ?_ (fun hHeld => ?_)
                focus (first | exact trivial | ((try dsimp only); (exact trivial))); done
                clear hK K
                (try simp only [Act.put, List.setIfInBounds_toArray, List.set_cons_zero, List.set_cons_succ])
                refine wpAnyH_ready (rs := [6]) (by kernel_rfl) (by simp) ?_
                refine AllReadyH.cons (by rw [List.getElem?_toArray]; rfl) (fun K hK => ?_) AllReadyH.nil
                go_simp
                refine (pick_any g (N + 80 - 6 * (p + 1) + 1 + 1 + 1) 3 _ (by (repeat (first | (with_reducible assumption) | (with_reducible refine Rdr.drew ?_) | (with_reducible refine Rdr.set ?_ (by first | (simp; done) | (simp; omega) | omega) _) | (with_reducible refine Rdr.alloc ?_ _)))) (by omega) (by omega)).mono ?_; rintro e wb ⟨vb, rfl, hvb, ulb, -, hrb, fb⟩; replace ulb := ulb (by omega); have zb := fb.size; (try simp at zb); replace ho := Own.fr (by (repeat (first | (with_reducible assumption) | (with_reducible refine Own.alloc ?_ _) | (with_reducible refine Own.drew ?_) | (with_reducible refine Own.set ?_ (by first | (simp; done) | (simp; omega) | omega) _))) : Own _ w.heap.size wr.heap.size 39 6 (some ⟨gA, aA, none⟩) q c (ents ds)) fb (.inr (by omega)); have TL1 := Blk.fr (by (repeat (first | (with_reducible assumption) | (with_reducible exact Blk.newAt _ _ (by simp)) | (with_reducible refine Blk.drew ?_) | (with_reducible refine Blk.other ?_ (by first | (simp; done) | (simp; omega) | omega) _) | (with_reducible refine Blk.alloc ?_ _))) : Blk _ wa.heap.size 3 #[.int .i64 15, .int .i64 va, .int .i64 7]) fb (.inr (by omega)); replace hF := Fr.trans (by (repeat (first | (with_reducible assumption) | (with_reducible refine Fr.drew ?_) | (with_reducible exact Fr.refl _ _ _) | (with_reducible refine Fr.setOut ?_ (by first | (simp; done) | (simp; omega) | omega) _) | (with_reducible refine Fr.alloc ?_ _))) : Fr g (g + 1) w _) fb; have ltb := hrb.lt; clear fb hra
                refine hK.out _ _ ?_ (fun hHeld => ?_)
                focus (first | exact trivial | ((try dsimp only); (exact trivial))); done
                clear hK K
                (try simp only [Act.put, List.setIfInBounds_toArray, List.set_cons_zero, List.set_cons_succ])
                obtain ⟨x1, rfl⟩ := Int.eq_ofNat_of_zero_le hvb
                have hlx1 : x1 < 3 := by omega
                obtain ⟨y1, hy1x⟩ := c3t 15 va 7 hlx1
                refine wpAnyH_to (S' := (fun W => W.cell? ⟨wa.heap.size, x1, none⟩ = some (.int .i64 y1))) (fun _ _ => trivial) ?_ (fun hHeld => ?_)
                focus ((try dsimp only); exact Blk.cell (T := 3) (cs := #[.int .i64 15, .int .i64 va, .int .i64 7]) (by (repeat (first | (with_reducible assumption) | (with_reducible exact Blk.newAt _ _ (by simp)) | (with_reducible refine Blk.drew ?_) | (with_reducible refine Blk.other ?_ (by first | (simp; done) | (simp; omega) | omega) _) | (with_reducible refine Blk.alloc ?_ _))) : Blk _ wa.heap.size 3 #[.int .i64 15, .int .i64 va, .int .i64 7]) x1 hy1x); done
                (try dsimp only at hHeld)
                refine wpAnyH_take (i := 7) (v := ?_) (by rw [List.getElem?_toArray]; rfl) (by kernel_rfl) (by kernel_rfl) (by kernel_rfl) (fun _ _ _ h => h) (Or.inl ⟨by rfl, ?_⟩) (by assumption) ?_
                rotate_left
                focus (intro wS hSw; (try dsimp only at hSw); go_simp; (try with_reducible rfl)); done
                (try simp only [Act.put, List.setIfInBounds_toArray, List.set_cons_zero, List.set_cons_succ])
                refine wpAnyH_take (i := 8) (v := ?_) (by rw [List.getElem?_toArray]; rfl) (by kernel_rfl) (by kernel_rfl) (by kernel_rfl) (fun _ _ _ h => h) (Or.inl ⟨by rfl, ?_⟩) (by assumption) ?_
                rotate_left
                focus (intro wS hSw; (try dsimp only at hSw); go_simp; (try with_reducible rfl)); done
                (try simp only [Act.put, List.setIfInBounds_toArray, List.set_cons_zero, List.set_cons_succ])
                refine wpAnyH_ready (rs := [10]) (by kernel_rfl) (by simp) ?_
                refine AllReadyH.cons (by rw [List.getElem?_toArray]; rfl) (fun K hK => ?_) AllReadyH.nil
                go_simp
                refine (pick_any g (N + 80 - 6 * (p + 1) + 1 + 1 + 1 + 1) 4 _ (by (repeat (first | (with_reducible assumption) | (with_reducible refine Rdr.drew ?_) | (with_reducible refine Rdr.set ?_ (by first | (simp; done) | (simp; omega) | omega) _) | (with_reducible refine Rdr.alloc ?_ _)))) (by omega) (by omega)).mono ?_; rintro e wd ⟨vd, rfl, hvd, uld, -, hrd, fd⟩; replace uld := uld (by omega); have zd := fd.size; (try simp at zd); replace ho := Own.fr (by (repeat (first | (with_reducible assumption) | (with_reducible refine Own.alloc ?_ _) | (with_reducible refine Own.drew ?_) | (with_reducible refine Own.set ?_ (by first | (simp; done) | (simp; omega) | omega) _))) : Own _ w.heap.size wr.heap.size 39 6 (some ⟨gA, aA, none⟩) q c (ents ds)) fd (.inr (by omega)); have TL1 := Blk.fr (by (repeat (first | (with_reducible assumption) | (with_reducible exact Blk.newAt _ _ (by simp)) | (with_reducible refine Blk.drew ?_) | (with_reducible refine Blk.other ?_ (by first | (simp; done) | (simp; omega) | omega) _) | (with_reducible refine Blk.alloc ?_ _))) : Blk _ wa.heap.size 3 #[.int .i64 15, .int .i64 va, .int .i64 7]) fd (.inr (by omega)); replace hF := Fr.trans (by (repeat (first | (with_reducible assumption) | (with_reducible refine Fr.drew ?_) | (with_reducible exact Fr.refl _ _ _) | (with_reducible refine Fr.setOut ?_ (by first | (simp; done) | (simp; omega) | omega) _) | (with_reducible refine Fr.alloc ?_ _))) : Fr g (g + 1) w _) fd; have ltd := hrd.lt; clear fd hrb; have ed : IntKind.i64.wrap (1 + vd) = 1 + vd := wr64s (by omega) (by omega)
                refine hK.out _ _ ?_ (fun hHeld => ?_)
                focus (first | exact trivial | ((try dsimp only); (exact Blk.cell (T := 3) (cs := #[.int .i64 15, .int .i64 va, .int .i64 7]) (by (repeat (first | (with_reducible assumption) | (with_reducible exact Blk.newAt _ _ (by simp)) | (with_reducible refine Blk.drew ?_) | (with_reducible refine Blk.other ?_ (by first | (simp; done) | (simp; omega) | omega) _) | (with_reducible refine Blk.alloc ?_ _))) : Blk _ wa.heap.size 3 #[.int .i64 15, .int .i64 va, .int .i64 7]) x1 hy1x))); done
                clear hK K
                (try simp only [Act.put, List.setIfInBounds_toArray, List.set_cons_zero, List.set_cons_succ])
                refine wpAnyH_take (i := 11) (v := ?_) (by rw [List.getElem?_toArray]; rfl) (by kernel_rfl) (by kernel_rfl) (by kernel_rfl) (fun _ _ _ h => h) (Or.inl ⟨by rfl, ?_⟩) (by assumption) ?_
                rotate_left
                focus (intro wS hSw; (try dsimp only at hSw); go_simp; (try with_reducible rfl)); done
                (try simp only [Act.put, List.setIfInBounds_toArray, List.set_cons_zero, List.set_cons_succ])
                refine wpAnyH_ready (rs := [12, 14]) (by kernel_rfl) (by simp) ?_
                refine AllReadyH.cons (by rw [List.getElem?_toArray]; rfl) (fun K hK => ?_) (AllReadyH.cons (by rw [List.getElem?_toArray]; rfl) (fun K hK => ?_) AllReadyH.nil)
                · go_simp
                  skip
                  refine hK.out _ _ ?_ (fun hHeld => ?_)
                  focus (first | exact trivial | ((try dsimp only); (exact Blk.cell (T := 3) (cs := #[.int .i64 15, .int .i64 va, .int .i64 7]) (by (repeat (first | (with_reducible assumption) | (with_reducible exact Blk.newAt _ _ (by simp)) | (with_reducible refine Blk.drew ?_) | (with_reducible refine Blk.other ?_ (by first | (simp; done) | (simp; omega) | omega) _) | (with_reducible refine Blk.alloc ?_ _))) : Blk _ wa.heap.size 3 #[.int .i64 15, .int .i64 va, .int .i64 7]) x1 hy1x))); done
                  clear hK K
                  (try simp only [Act.put, List.setIfInBounds_toArray, List.set_cons_zero, List.set_cons_succ])
                  refine wpAnyH_ready (rs := [14]) (by kernel_rfl) (by simp) ?_
                  refine AllReadyH.cons (by rw [List.getElem?_toArray]; rfl) (fun K hK => ?_) AllReadyH.nil
                  go_simp
                  refine (pick_any g (N + 80 - 6 * (p + 1) + 1 + 1 + 1 + 1 + 1) 3 _ (by (repeat (first | (with_reducible assumption) | (with_reducible refine Rdr.drew ?_) | (with_reducible refine Rdr.set ?_ (by first | (simp; done) | (simp; omega) | omega) _) | (with_reducible refine Rdr.alloc ?_ _)))) (by omega) (by omega)).mono ?_; rintro e we ⟨ve, rfl, hve, ule, -, hre, fe⟩; replace ule := ule (by omega); have ze := fe.size; (try simp at ze); replace ho := Own.fr (by (repeat (first | (with_reducible assumption) | (with_reducible refine Own.alloc ?_ _) | (with_reducible refine Own.drew ?_) | (with_reducible refine Own.set ?_ (by first | (simp; done) | (simp; omega) | omega) _))) : Own _ w.heap.size wr.heap.size 39 6 (some ⟨gA, aA, none⟩) q c (ents ds)) fe (.inr (by omega)); have TL1 := Blk.fr (by (repeat (first | (with_reducible assumption) | (with_reducible exact Blk.newAt _ _ (by simp)) | (with_reducible refine Blk.drew ?_) | (with_reducible refine Blk.other ?_ (by first | (simp; done) | (simp; omega) | omega) _) | (with_reducible refine Blk.alloc ?_ _))) : Blk _ wa.heap.size 3 #[.int .i64 15, .int .i64 va, .int .i64 7]) fe (.inr (by omega)); have TL2 := Blk.fr (by (repeat (first | (with_reducible assumption) | (with_reducible exact Blk.newAt _ _ (by simp)) | (with_reducible refine Blk.drew ?_) | (with_reducible refine Blk.other ?_ (by first | (simp; done) | (simp; omega) | omega) _) | (with_reducible refine Blk.alloc ?_ _))) : Blk _ wd.heap.size 3 #[.int .i64 0, .int .i64 0, .int .i64 (1 + vd)]) fe (.inr (by omega)); replace hF := Fr.trans (by (repeat (first | (with_reducible assumption) | (with_reducible refine Fr.drew ?_) | (with_reducible exact Fr.refl _ _ _) | (with_reducible refine Fr.setOut ?_ (by first | (simp; done) | (simp; omega) | omega) _) | (with_reducible refine Fr.alloc ?_ _))) : Fr g (g + 1) w _) fe; have lte := hre.lt; clear fe hrd
                  refine hK.out _ _ ?_ (fun hHeld => ?_)
                  focus (first | exact trivial | ((try dsimp only); (exact Blk.cell (T := 3) (cs := #[.int .i64 15, .int .i64 va, .int .i64 7]) (by (repeat (first | (with_reducible assumption) | (with_reducible exact Blk.newAt _ _ (by simp)) | (with_reducible refine Blk.drew ?_) | (with_reducible refine Blk.other ?_ (by first | (simp; done) | (simp; omega) | omega) _) | (with_reducible refine Blk.alloc ?_ _))) : Blk _ wa.heap.size 3 #[.int .i64 15, .int .i64 va, .int .i64 7]) x1 hy1x))); done
                  clear hK K
                  (try simp only [Act.put, List.setIfInBounds_toArray, List.set_cons_zero, List.set_cons_succ])
                  obtain ⟨x2, rfl⟩ := Int.eq_ofNat_of_zero_le hve
                  have hlx2 : x2 < 3 := by omega
                  obtain ⟨y2, hy2x⟩ := c3t 0 0 (1 + vd) hlx2
                  refine wpAnyH_to (S' := (fun W => W.cell? ⟨wa.heap.size, x1, none⟩ = some (.int .i64 y1) ∧ W.cell? ⟨wd.heap.size, x2, none⟩ = some (.int .i64 y2))) (fun _ h => h.1) ?_ (fun hHeld => ?_)
                  focus ((try dsimp only); exact ⟨Blk.cell (T := 3) (cs := #[.int .i64 15, .int .i64 va, .int .i64 7]) (by (repeat (first | (with_reducible assumption) | (with_reducible exact Blk.newAt _ _ (by simp)) | (with_reducible refine Blk.drew ?_) | (with_reducible refine Blk.other ?_ (by first | (simp; done) | (simp; omega) | omega) _) | (with_reducible refine Blk.alloc ?_ _))) : Blk _ wa.heap.size 3 #[.int .i64 15, .int .i64 va, .int .i64 7]) x1 hy1x, Blk.cell (T := 3) (cs := #[.int .i64 0, .int .i64 0, .int .i64 (1 + vd)]) (by (repeat (first | (with_reducible assumption) | (with_reducible exact Blk.newAt _ _ (by simp)) | (with_reducible refine Blk.drew ?_) | (with_reducible refine Blk.other ?_ (by first | (simp; done) | (simp; omega) | omega) _) | (with_reducible refine Blk.alloc ?_ _))) : Blk _ wd.heap.size 3 #[.int .i64 0, .int .i64 0, .int .i64 (1 + vd)]) x2 hy2x⟩); done
                  (try dsimp only at hHeld)
                  refine wpAnyH_take (i := 15) (v := ?_) (by rw [List.getElem?_toArray]; rfl) (by kernel_rfl) (by kernel_rfl) (by kernel_rfl) (fun _ _ _ h => h) (Or.inl ⟨by rfl, ?_⟩) (by assumption) ?_
                  rotate_left
                  focus (intro wS hSw; (try dsimp only at hSw); go_simp; (try with_reducible rfl)); done
                  (try simp only [Act.put, List.setIfInBounds_toArray, List.set_cons_zero, List.set_cons_succ])
                  refine wpAnyH_take (i := 16) (v := ?_) (by rw [List.getElem?_toArray]; rfl) (by kernel_rfl) (by kernel_rfl) (by kernel_rfl) (fun _ _ _ h => h) (Or.inl ⟨by rfl, ?_⟩) (by assumption) ?_
                  rotate_left
                  focus (intro wS hSw; (try dsimp only at hSw); go_simp; (try with_reducible rfl)); done
                  (try simp only [Act.put, List.setIfInBounds_toArray, List.set_cons_zero, List.set_cons_succ])
                  refine wpAnyH_ready (rs := [17]) (by kernel_rfl) (by simp) ?_
                  refine AllReadyH.cons (by rw [List.getElem?_toArray]; rfl) (fun K hK => ?_) AllReadyH.nil
                  go_simp
                  refine (sDeriveCap_mem w.heap.size wr.heap.size q c (some ⟨gA, aA, none⟩) ds m y1 y2 _ ((by (repeat (first | (with_reducible assumption) | (with_reducible refine Own.alloc ?_ _) | (with_reducible refine Own.drew ?_) | (with_reducible refine Own.set ?_ (by first | (simp; done) | (simp; omega) | omega) _))) : Own _ w.heap.size wr.heap.size 39 6 (some ⟨gA, aA, none⟩) q c (ents ds)).rd) (by omega) hmq).mono ?_; rintro e wf ⟨Af, mf, cf, ef, idf, okf, rfl, hmf, hof, hbf⟩; have zf := hbf.size; (try simp at zf); have hrf := Rdr.below (by (repeat (first | (with_reducible assumption) | (with_reducible refine Rdr.drew ?_) | (with_reducible refine Rdr.set ?_ (by first | (simp; done) | (simp; omega) | omega) _) | (with_reducible refine Rdr.alloc ?_ _))) : Rdr _ g (N + 80 - 6 * (p + 1) + 1 + 1 + 1 + 1 + 1 + 1)) hbf; replace hF := Fr.trans (by (repeat (first | (with_reducible assumption) | (with_reducible refine Fr.drew ?_) | (with_reducible exact Fr.refl _ _ _) | (with_reducible refine Fr.setOut ?_ (by first | (simp; done) | (simp; omega) | omega) _) | (with_reducible refine Fr.alloc ?_ _))) : Fr g (g + 1) w _) (Fr.of_below hbf g (g + 1)); have TL1 := Blk.below (by (repeat (first | (with_reducible assumption) | (with_reducible exact Blk.newAt _ _ (by simp)) | (with_reducible refine Blk.drew ?_) | (with_reducible refine Blk.other ?_ (by first | (simp; done) | (simp; omega) | omega) _) | (with_reducible refine Blk.alloc ?_ _))) : Blk _ wa.heap.size 3 #[.int .i64 15, .int .i64 va, .int .i64 7]) hbf; have TL2 := Blk.below (by (repeat (first | (with_reducible assumption) | (with_reducible exact Blk.newAt _ _ (by simp)) | (with_reducible refine Blk.drew ?_) | (with_reducible refine Blk.other ?_ (by first | (simp; done) | (simp; omega) | omega) _) | (with_reducible refine Blk.alloc ?_ _))) : Blk _ wd.heap.size 3 #[.int .i64 0, .int .i64 0, .int .i64 (1 + vd)]) hbf; replace hof := Lib.hid (hof.mono (B' := w.heap.size) (T' := wf.heap.size) (by (try simp) <;> omega) (Nat.le_refl _)); clear hbf ho hre
                  refine hK.out _ _ ?_ (fun hHeld => ?_)
                  focus (first | exact trivial | ((try dsimp only); (exact ⟨Blk.cell (T := 3) (cs := #[.int .i64 15, .int .i64 va, .int .i64 7]) (by (repeat (first | (with_reducible assumption) | (with_reducible exact Blk.newAt _ _ (by simp)) | (with_reducible refine Blk.drew ?_) | (with_reducible refine Blk.other ?_ (by first | (simp; done) | (simp; omega) | omega) _) | (with_reducible refine Blk.alloc ?_ _))) : Blk _ wa.heap.size 3 #[.int .i64 15, .int .i64 va, .int .i64 7]) x1 hy1x, Blk.cell (T := 3) (cs := #[.int .i64 0, .int .i64 0, .int .i64 (1 + vd)]) (by (repeat (first | (with_reducible assumption) | (with_reducible exact Blk.newAt _ _ (by simp)) | (with_reducible refine Blk.drew ?_) | (with_reducible refine Blk.other ?_ (by first | (simp; done) | (simp; omega) | omega) _) | (with_reducible refine Blk.alloc ?_ _))) : Blk _ wd.heap.size 3 #[.int .i64 0, .int .i64 0, .int .i64 (1 + vd)]) x2 hy2x⟩))); done
                  clear hK K
                  (try simp only [Act.put, List.setIfInBounds_toArray, List.set_cons_zero, List.set_cons_succ])
                  refine wpAnyH_take (i := 18) (v := ?_) (by rw [List.getElem?_toArray]; rfl) (by kernel_rfl) (by kernel_rfl) (by kernel_rfl) (fun _ _ _ h => h) (Or.inl ⟨by rfl, ?_⟩) (by assumption) ?_
                  rotate_left
                  focus (intro wS hSw; (try dsimp only at hSw); go_simp; (try with_reducible rfl)); done
                  (try simp only [Act.put, List.setIfInBounds_toArray, List.set_cons_zero, List.set_cons_succ])
                  refine wpAnyH_take (i := 19) (v := ?_) (by rw [List.getElem?_toArray]; rfl) (by kernel_rfl) (by kernel_rfl) (by kernel_rfl) (fun _ _ _ h => h) (Or.inl ⟨by rfl, ?_⟩) (by assumption) ?_
                  rotate_left
                  focus (intro wS hSw; (try dsimp only at hSw); go_simp; (try with_reducible rfl)); done
                  (try simp only [Act.put, List.setIfInBounds_toArray, List.set_cons_zero, List.set_cons_succ])
                  refine wpAnyH_take (i := 20) (v := ?_) (by rw [List.getElem?_toArray]; rfl) (by kernel_rfl) (by kernel_rfl) (by kernel_rfl) (fun _ _ _ h => h) (Or.inl ⟨by rfl, ?_⟩) (by assumption) ?_
                  rotate_left
                  focus (intro wS hSw; (try dsimp only at hSw); go_simp; (try with_reducible rfl)); done
                  (try simp only [Act.put, List.setIfInBounds_toArray, List.set_cons_zero, List.set_cons_succ])
                  refine wpAnyH_take (i := 21) (v := ?_) (by rw [List.getElem?_toArray]; rfl) (by kernel_rfl) (by kernel_rfl) (by kernel_rfl) (fun _ _ _ h => h) (Or.inl ⟨by rfl, ?_⟩) (by assumption) ?_
                  rotate_left
                  focus (intro wS hSw; (try dsimp only at hSw); go_simp; (try with_reducible rfl)); done
                  (try simp only [Act.put, List.setIfInBounds_toArray, List.set_cons_zero, List.set_cons_succ])
                  refine wpAnyH_ready (rs := [22]) (by kernel_rfl) (by simp) ?_
                  refine AllReadyH.cons (by rw [List.getElem?_toArray]; rfl) (fun K hK => ?_) AllReadyH.nil
                  go_simp
                  skip
                  refine hK.out _ _ ?_ (fun hHeld => ?_)
                  focus (first | exact trivial | ((try dsimp only); (exact ⟨Blk.cell (T := 3) (cs := #[.int .i64 15, .int .i64 va, .int .i64 7]) (by (repeat (first | (with_reducible assumption) | (with_reducible exact Blk.newAt _ _ (by simp)) | (with_reducible refine Blk.drew ?_) | (with_reducible refine Blk.other ?_ (by first | (simp; done) | (simp; omega) | omega) _) | (with_reducible refine Blk.alloc ?_ _))) : Blk _ wa.heap.size 3 #[.int .i64 15, .int .i64 va, .int .i64 7]) x1 hy1x, Blk.cell (T := 3) (cs := #[.int .i64 0, .int .i64 0, .int .i64 (1 + vd)]) (by (repeat (first | (with_reducible assumption) | (with_reducible exact Blk.newAt _ _ (by simp)) | (with_reducible refine Blk.drew ?_) | (with_reducible refine Blk.other ?_ (by first | (simp; done) | (simp; omega) | omega) _) | (with_reducible refine Blk.alloc ?_ _))) : Blk _ wd.heap.size 3 #[.int .i64 0, .int .i64 0, .int .i64 (1 + vd)]) x2 hy2x⟩))); done
                  clear hK K
                  (try simp only [Act.put, List.setIfInBounds_toArray, List.set_cons_zero, List.set_cons_succ])
                  refine wpAnyH_done (by kernel_rfl) ?_ _
                  refine NoPanic.normal ?_
                  go_wp2
                  go_roundw
                  case rel => exact ⟨p, mf, cf, Af, ef, rfl, by go_num, by omega, hof.out, hrf.mono (by omega), hF⟩
                  case measure => simp [intOf]
                · go_simp
                  refine (pick_any g (N + 80 - 6 * (p + 1) + 1 + 1 + 1 + 1 + 1) 3 _ (by (repeat (first | (with_reducible assumption) | (with_reducible refine Rdr.drew ?_) | (with_reducible refine Rdr.set ?_ (by first | (simp; done) | (simp; omega) | omega) _) | (with_reducible refine Rdr.alloc ?_ _)))) (by omega) (by omega)).mono ?_; rintro e we ⟨ve, rfl, hve, ule, -, hre, fe⟩; replace ule := ule (by omega); have ze := fe.size; (try simp at ze); replace ho := Own.fr (by (repeat (first | (with_reducible assumption) | (with_reducible refine Own.alloc ?_ _) | (with_reducible refine Own.drew ?_) | (with_reducible refine Own.set ?_ (by first | (simp; done) | (simp; omega) | omega) _))) : Own _ w.heap.size wr.heap.size 39 6 (some ⟨gA, aA, none⟩) q c (ents ds)) fe (.inr (by omega)); have TL1 := Blk.fr (by (repeat (first | (with_reducible assumption) | (with_reducible exact Blk.newAt _ _ (by simp)) | (with_reducible refine Blk.drew ?_) | (with_reducible refine Blk.other ?_ (by first | (simp; done) | (simp; omega) | omega) _) | (with_reducible refine Blk.alloc ?_ _))) : Blk _ wa.heap.size 3 #[.int .i64 15, .int .i64 va, .int .i64 7]) fe (.inr (by omega)); replace hF := Fr.trans (by (repeat (first | (with_reducible assumption) | (with_reducible refine Fr.drew ?_) | (with_reducible exact Fr.refl _ _ _) | (with_reducible refine Fr.setOut ?_ (by first | (simp; done) | (simp; omega) | omega) _) | (with_reducible refine Fr.alloc ?_ _))) : Fr g (g + 1) w _) fe; have lte := hre.lt; clear fe hrd
                  refine hK.out _ _ ?_ (fun hHeld => ?_)
                  focus (first | exact trivial | ((try dsimp only); (exact Blk.cell (T := 3) (cs := #[.int .i64 15, .int .i64 va, .int .i64 7]) (by (repeat (first | (with_reducible assumption) | (with_reducible exact Blk.newAt _ _ (by simp)) | (with_reducible refine Blk.drew ?_) | (with_reducible refine Blk.other ?_ (by first | (simp; done) | (simp; omega) | omega) _) | (with_reducible refine Blk.alloc ?_ _))) : Blk _ wa.heap.size 3 #[.int .i64 15, .int .i64 va, .int .i64 7]) x1 hy1x))); done
                  clear hK K
                  (try simp only [Act.put, List.setIfInBounds_toArray, List.set_cons_zero, List.set_cons_succ])
                  refine wpAnyH_ready (rs := [12]) (by kernel_rfl) (by simp) ?_
                  refine AllReadyH.cons (by rw [List.getElem?_toArray]; rfl) (fun K hK => ?_) AllReadyH.nil
                  go_simp
                  skip
                  refine hK.out _ _ ?_ (fun hHeld => ?_)
                  focus (first | exact trivial | ((try dsimp only); (exact Blk.cell (T := 3) (cs := #[.int .i64 15, .int .i64 va, .int .i64 7]) (by (repeat (first | (with_reducible assumption) | (with_reducible exact Blk.newAt _ _ (by simp)) | (with_reducible refine Blk.drew ?_) | (with_reducible refine Blk.other ?_ (by first | (simp; done) | (simp; omega) | omega) _) | (with_reducible refine Blk.alloc ?_ _))) : Blk _ wa.heap.size 3 #[.int .i64 15, .int .i64 va, .int .i64 7]) x1 hy1x))); done
                  clear hK K
                  (try simp only [Act.put, List.setIfInBounds_toArray, List.set_cons_zero, List.set_cons_succ])
                  obtain ⟨x2, rfl⟩ := Int.eq_ofNat_of_zero_le hve
                  have hlx2 : x2 < 3 := by omega
                  obtain ⟨y2, hy2x⟩ := c3t 0 0 (1 + vd) hlx2
                  refine wpAnyH_to (S' := (fun W => W.cell? ⟨wa.heap.size, x1, none⟩ = some (.int .i64 y1) ∧ W.cell? ⟨we.heap.size, x2, none⟩ = some (.int .i64 y2))) (fun _ h => h.1) ?_ (fun hHeld => ?_)
                  focus ((try dsimp only); exact ⟨Blk.cell (T := 3) (cs := #[.int .i64 15, .int .i64 va, .int .i64 7]) (by (repeat (first | (with_reducible assumption) | (with_reducible exact Blk.newAt _ _ (by simp)) | (with_reducible refine Blk.drew ?_) | (with_reducible refine Blk.other ?_ (by first | (simp; done) | (simp; omega) | omega) _) | (with_reducible refine Blk.alloc ?_ _))) : Blk _ wa.heap.size 3 #[.int .i64 15, .int .i64 va, .int .i64 7]) x1 hy1x, Blk.cell (T := 3) (cs := #[.int .i64 0, .int .i64 0, .int .i64 (1 + vd)]) (by (repeat (first | (with_reducible assumption) | (with_reducible exact Blk.newAt _ _ (by simp)) | (with_reducible refine Blk.drew ?_) | (with_reducible refine Blk.other ?_ (by first | (simp; done) | (simp; omega) | omega) _) | (with_reducible refine Blk.alloc ?_ _))) : Blk _ we.heap.size 3 #[.int .i64 0, .int .i64 0, .int .i64 (1 + vd)]) x2 hy2x⟩); done
                  (try dsimp only at hHeld)
                  refine wpAnyH_take (i := 15) (v := ?_) (by rw [List.getElem?_toArray]; rfl) (by kernel_rfl) (by kernel_rfl) (by kernel_rfl) (fun _ _ _ h => h) (Or.inl ⟨by rfl, ?_⟩) (by assumption) ?_
                  rotate_left
                  focus (intro wS hSw; (try dsimp only at hSw); go_simp; (try with_reducible rfl)); done
                  (try simp only [Act.put, List.setIfInBounds_toArray, List.set_cons_zero, List.set_cons_succ])
                  refine wpAnyH_take (i := 16) (v := ?_) (by rw [List.getElem?_toArray]; rfl) (by kernel_rfl) (by kernel_rfl) (by kernel_rfl) (fun _ _ _ h => h) (Or.inl ⟨by rfl, ?_⟩) (by assumption) ?_
                  rotate_left
                  focus (intro wS hSw; (try dsimp only at hSw); go_simp; (try with_reducible rfl)); done
                  (try simp only [Act.put, List.setIfInBounds_toArray, List.set_cons_zero, List.set_cons_succ])
                  refine wpAnyH_ready (rs := [17]) (by kernel_rfl) (by simp) ?_
                  refine AllReadyH.cons (by rw [List.getElem?_toArray]; rfl) (fun K hK => ?_) AllReadyH.nil
                  go_simp
                  refine (sDeriveCap_mem w.heap.size wr.heap.size q c (some ⟨gA, aA, none⟩) ds m y1 y2 _ ((by (repeat (first | (with_reducible assumption) | (with_reducible refine Own.alloc ?_ _) | (with_reducible refine Own.drew ?_) | (with_reducible refine Own.set ?_ (by first | (simp; done) | (simp; omega) | omega) _))) : Own _ w.heap.size wr.heap.size 39 6 (some ⟨gA, aA, none⟩) q c (ents ds)).rd) (by omega) hmq).mono ?_; rintro e wf ⟨Af, mf, cf, ef, idf, okf, rfl, hmf, hof, hbf⟩; have zf := hbf.size; (try simp at zf); have hrf := Rdr.below (by (repeat (first | (with_reducible assumption) | (with_reducible refine Rdr.drew ?_) | (with_reducible refine Rdr.set ?_ (by first | (simp; done) | (simp; omega) | omega) _) | (with_reducible refine Rdr.alloc ?_ _))) : Rdr _ g (N + 80 - 6 * (p + 1) + 1 + 1 + 1 + 1 + 1 + 1)) hbf; replace hF := Fr.trans (by (repeat (first | (with_reducible assumption) | (with_reducible refine Fr.drew ?_) | (with_reducible exact Fr.refl _ _ _) | (with_reducible refine Fr.setOut ?_ (by first | (simp; done) | (simp; omega) | omega) _) | (with_reducible refine Fr.alloc ?_ _))) : Fr g (g + 1) w _) (Fr.of_below hbf g (g + 1)); have TL1 := Blk.below (by (repeat (first | (with_reducible assumption) | (with_reducible exact Blk.newAt _ _ (by simp)) | (with_reducible refine Blk.drew ?_) | (with_reducible refine Blk.other ?_ (by first | (simp; done) | (simp; omega) | omega) _) | (with_reducible refine Blk.alloc ?_ _))) : Blk _ wa.heap.size 3 #[.int .i64 15, .int .i64 va, .int .i64 7]) hbf; have TL2 := Blk.below (by (repeat (first | (with_reducible assumption) | (with_reducible exact Blk.newAt _ _ (by simp)) | (with_reducible refine Blk.drew ?_) | (with_reducible refine Blk.other ?_ (by first | (simp; done) | (simp; omega) | omega) _) | (with_reducible refine Blk.alloc ?_ _))) : Blk _ we.heap.size 3 #[.int .i64 0, .int .i64 0, .int .i64 (1 + vd)]) hbf; replace hof := Lib.hid (hof.mono (B' := w.heap.size) (T' := wf.heap.size) (by (try simp) <;> omega) (Nat.le_refl _)); clear hbf ho hre
                  refine hK.out _ _ ?_ (fun hHeld => ?_)
                  focus (first | exact trivial | ((try dsimp only); (exact ⟨Blk.cell (T := 3) (cs := #[.int .i64 15, .int .i64 va, .int .i64 7]) (by (repeat (first | (with_reducible assumption) | (with_reducible exact Blk.newAt _ _ (by simp)) | (with_reducible refine Blk.drew ?_) | (with_reducible refine Blk.other ?_ (by first | (simp; done) | (simp; omega) | omega) _) | (with_reducible refine Blk.alloc ?_ _))) : Blk _ wa.heap.size 3 #[.int .i64 15, .int .i64 va, .int .i64 7]) x1 hy1x, Blk.cell (T := 3) (cs := #[.int .i64 0, .int .i64 0, .int .i64 (1 + vd)]) (by (repeat (first | (with_reducible assumption) | (with_reducible exact Blk.newAt _ _ (by simp)) | (with_reducible refine Blk.drew ?_) | (with_reducible refine Blk.other ?_ (by first | (simp; done) | (simp; omega) | omega) _) | (with_reducible refine Blk.alloc ?_ _))) : Blk _ we.heap.size 3 #[.int .i64 0, .int .i64 0, .int .i64 (1 + vd)]) x2 hy2x⟩))); done
                  clear hK K
                  (try simp only [Act.put, List.setIfInBounds_toArray, List.set_cons_zero, List.set_cons_succ])
                  refine wpAnyH_take (i := 18) (v := ?_) (by rw [List.getElem?_toArray]; rfl) (by kernel_rfl) (by kernel_rfl) (by kernel_rfl) (fun _ _ _ h => h) (Or.inl ⟨by rfl, ?_⟩) (by assumption) ?_
                  rotate_left
                  focus (intro wS hSw; (try dsimp only at hSw); go_simp; (try with_reducible rfl)); done
                  (try simp only [Act.put, List.setIfInBounds_toArray, List.set_cons_zero, List.set_cons_succ])
                  refine wpAnyH_take (i := 19) (v := ?_) (by rw [List.getElem?_toArray]; rfl) (by kernel_rfl) (by kernel_rfl) (by kernel_rfl) (fun _ _ _ h => h) (Or.inl ⟨by rfl, ?_⟩) (by assumption) ?_
                  rotate_left
                  focus (intro wS hSw; (try dsimp only at hSw); go_simp; (try with_reducible rfl)); done
                  (try simp only [Act.put, List.setIfInBounds_toArray, List.set_cons_zero, List.set_cons_succ])
                  refine wpAnyH_take (i := 20) (v := ?_) (by rw [List.getElem?_toArray]; rfl) (by kernel_rfl) (by kernel_rfl) (by kernel_rfl) (fun _ _ _ h => h) (Or.inl ⟨by rfl, ?_⟩) (by assumption) ?_
                  rotate_left
                  focus (intro wS hSw; (try dsimp only at hSw); go_simp; (try with_reducible rfl)); done
                  (try simp only [Act.put, List.setIfInBounds_toArray, List.set_cons_zero, List.set_cons_succ])
                  refine wpAnyH_take (i := 21) (v := ?_) (by rw [List.getElem?_toArray]; rfl) (by kernel_rfl) (by kernel_rfl) (by kernel_rfl) (fun _ _ _ h => h) (Or.inl ⟨by rfl, ?_⟩) (by assumption) ?_
                  rotate_left
                  focus (intro wS hSw; (try dsimp only at hSw); go_simp; (try with_reducible rfl)); done
                  (try simp only [Act.put, List.setIfInBounds_toArray, List.set_cons_zero, List.set_cons_succ])
                  refine wpAnyH_ready (rs := [22]) (by kernel_rfl) (by simp) ?_
                  refine AllReadyH.cons (by rw [List.getElem?_toArray]; rfl) (fun K hK => ?_) AllReadyH.nil
                  go_simp
                  skip
                  refine hK.out _ _ ?_ (fun hHeld => ?_)
                  focus (first | exact trivial | ((try dsimp only); (exact ⟨Blk.cell (T := 3) (cs := #[.int .i64 15, .int .i64 va, .int .i64 7]) (by (repeat (first | (with_reducible assumption) | (with_reducible exact Blk.newAt _ _ (by simp)) | (with_reducible refine Blk.drew ?_) | (with_reducible refine Blk.other ?_ (by first | (simp; done) | (simp; omega) | omega) _) | (with_reducible refine Blk.alloc ?_ _))) : Blk _ wa.heap.size 3 #[.int .i64 15, .int .i64 va, .int .i64 7]) x1 hy1x, Blk.cell (T := 3) (cs := #[.int .i64 0, .int .i64 0, .int .i64 (1 + vd)]) (by (repeat (first | (with_reducible assumption) | (with_reducible exact Blk.newAt _ _ (by simp)) | (with_reducible refine Blk.drew ?_) | (with_reducible refine Blk.other ?_ (by first | (simp; done) | (simp; omega) | omega) _) | (with_reducible refine Blk.alloc ?_ _))) : Blk _ we.heap.size 3 #[.int .i64 0, .int .i64 0, .int .i64 (1 + vd)]) x2 hy2x⟩))); done
                  clear hK K
                  (try simp only [Act.put, List.setIfInBounds_toArray, List.set_cons_zero, List.set_cons_succ])
                  refine wpAnyH_done (by kernel_rfl) ?_ _
                  refine NoPanic.normal ?_
                  go_wp2
                  go_roundw
                  case rel => exact ⟨p, mf, cf, Af, ef, rfl, by go_num, by omega, hof.out, hrf.mono (by omega), hF⟩
                  case measure => simp [intOf]
              · go_simp
                refine (pick_any g (N + 80 - 6 * (p + 1) + 1 + 1 + 1) 3 _ (by (repeat (first | (with_reducible assumption) | (with_reducible refine Rdr.drew ?_) | (with_reducible refine Rdr.set ?_ (by first | (simp; done) | (simp; omega) | omega) _) | (with_reducible refine Rdr.alloc ?_ _)))) (by omega) (by omega)).mono ?_; rintro e wb ⟨vb, rfl, hvb, ulb, -, hrb, fb⟩; replace ulb := ulb (by omega); have zb := fb.size; (try simp at zb); replace ho := Own.fr (by (repeat (first | (with_reducible assumption) | (with_reducible refine Own.alloc ?_ _) | (with_reducible refine Own.drew ?_) | (with_reducible refine Own.set ?_ (by first | (simp; done) | (simp; omega) | omega) _))) : Own _ w.heap.size wr.heap.size 39 6 (some ⟨gA, aA, none⟩) q c (ents ds)) fb (.inr (by omega)); replace hF := Fr.trans (by (repeat (first | (with_reducible assumption) | (with_reducible refine Fr.drew ?_) | (with_reducible exact Fr.refl _ _ _) | (with_reducible refine Fr.setOut ?_ (by first | (simp; done) | (simp; omega) | omega) _) | (with_reducible refine Fr.alloc ?_ _))) : Fr g (g + 1) w _) fb; have ltb := hrb.lt; clear fb hra
                refine hK.out _ _ ?_ (fun hHeld => ?_)
                focus (first | exact trivial | ((try dsimp only); (exact trivial))); done
                clear hK K
                (try simp only [Act.put, List.setIfInBounds_toArray, List.set_cons_zero, List.set_cons_succ])
                refine wpAnyH_ready (rs := [4, 10]) (by kernel_rfl) (by simp) ?_
                refine AllReadyH.cons (by rw [List.getElem?_toArray]; rfl) (fun K hK => ?_) (AllReadyH.cons (by rw [List.getElem?_toArray]; rfl) (fun K hK => ?_) AllReadyH.nil)
                · go_simp
                  skip
                  refine hK.out _ _ ?_ (fun hHeld => ?_)
                  focus (first | exact trivial | ((try dsimp only); (exact trivial))); done
                  clear hK K
                  (try simp only [Act.put, List.setIfInBounds_toArray, List.set_cons_zero, List.set_cons_succ])
                  obtain ⟨x1, rfl⟩ := Int.eq_ofNat_of_zero_le hvb
                  have hlx1 : x1 < 3 := by omega
                  obtain ⟨y1, hy1x⟩ := c3t 15 va 7 hlx1
                  refine wpAnyH_to (S' := (fun W => W.cell? ⟨wb.heap.size, x1, none⟩ = some (.int .i64 y1))) (fun _ _ => trivial) ?_ (fun hHeld => ?_)
                  focus ((try dsimp only); exact Blk.cell (T := 3) (cs := #[.int .i64 15, .int .i64 va, .int .i64 7]) (by (repeat (first | (with_reducible assumption) | (with_reducible exact Blk.newAt _ _ (by simp)) | (with_reducible refine Blk.drew ?_) | (with_reducible refine Blk.other ?_ (by first | (simp; done) | (simp; omega) | omega) _) | (with_reducible refine Blk.alloc ?_ _))) : Blk _ wb.heap.size 3 #[.int .i64 15, .int .i64 va, .int .i64 7]) x1 hy1x); done
                  (try dsimp only at hHeld)
                  refine wpAnyH_take (i := 7) (v := ?_) (by rw [List.getElem?_toArray]; rfl) (by kernel_rfl) (by kernel_rfl) (by kernel_rfl) (fun _ _ _ h => h) (Or.inl ⟨by rfl, ?_⟩) (by assumption) ?_
                  rotate_left
                  focus (intro wS hSw; (try dsimp only at hSw); go_simp; (try with_reducible rfl)); done
                  (try simp only [Act.put, List.setIfInBounds_toArray, List.set_cons_zero, List.set_cons_succ])
                  refine wpAnyH_take (i := 8) (v := ?_) (by rw [List.getElem?_toArray]; rfl) (by kernel_rfl) (by kernel_rfl) (by kernel_rfl) (fun _ _ _ h => h) (Or.inl ⟨by rfl, ?_⟩) (by assumption) ?_
                  rotate_left
                  focus (intro wS hSw; (try dsimp only at hSw); go_simp; (try with_reducible rfl)); done
                  (try simp only [Act.put, List.setIfInBounds_toArray, List.set_cons_zero, List.set_cons_succ])
                  refine wpAnyH_ready (rs := [10]) (by kernel_rfl) (by simp) ?_
                  refine AllReadyH.cons (by rw [List.getElem?_toArray]; rfl) (fun K hK => ?_) AllReadyH.nil
                  go_simp
                  refine (pick_any g (N + 80 - 6 * (p + 1) + 1 + 1 + 1 + 1) 4 _ (by (repeat (first | (with_reducible assumption) | (with_reducible refine Rdr.drew ?_) | (with_reducible refine Rdr.set ?_ (by first | (simp; done) | (simp; omega) | omega) _) | (with_reducible refine Rdr.alloc ?_ _)))) (by omega) (by omega)).mono ?_; rintro e wd ⟨vd, rfl, hvd, uld, -, hrd, fd⟩; replace uld := uld (by omega); have zd := fd.size; (try simp at zd); replace ho := Own.fr (by (repeat (first | (with_reducible assumption) | (with_reducible refine Own.alloc ?_ _) | (with_reducible refine Own.drew ?_) | (with_reducible refine Own.set ?_ (by first | (simp; done) | (simp; omega) | omega) _))) : Own _ w.heap.size wr.heap.size 39 6 (some ⟨gA, aA, none⟩) q c (ents ds)) fd (.inr (by omega)); have TL1 := Blk.fr (by (repeat (first | (with_reducible assumption) | (with_reducible exact Blk.newAt _ _ (by simp)) | (with_reducible refine Blk.drew ?_) | (with_reducible refine Blk.other ?_ (by first | (simp; done) | (simp; omega) | omega) _) | (with_reducible refine Blk.alloc ?_ _))) : Blk _ wb.heap.size 3 #[.int .i64 15, .int .i64 va, .int .i64 7]) fd (.inr (by omega)); replace hF := Fr.trans (by (repeat (first | (with_reducible assumption) | (with_reducible refine Fr.drew ?_) | (with_reducible exact Fr.refl _ _ _) | (with_reducible refine Fr.setOut ?_ (by first | (simp; done) | (simp; omega) | omega) _) | (with_reducible refine Fr.alloc ?_ _))) : Fr g (g + 1) w _) fd; have ltd := hrd.lt; clear fd hrb; have ed : IntKind.i64.wrap (1 + vd) = 1 + vd := wr64s (by omega) (by omega)
                  refine hK.out _ _ ?_ (fun hHeld => ?_)
                  focus (first | exact trivial | ((try dsimp only); (exact Blk.cell (T := 3) (cs := #[.int .i64 15, .int .i64 va, .int .i64 7]) (by (repeat (first | (with_reducible assumption) | (with_reducible exact Blk.newAt _ _ (by simp)) | (with_reducible refine Blk.drew ?_) | (with_reducible refine Blk.other ?_ (by first | (simp; done) | (simp; omega) | omega) _) | (with_reducible refine Blk.alloc ?_ _))) : Blk _ wb.heap.size 3 #[.int .i64 15, .int .i64 va, .int .i64 7]) x1 hy1x))); done
                  clear hK K
                  (try simp only [Act.put, List.setIfInBounds_toArray, List.set_cons_zero, List.set_cons_succ])
                  refine wpAnyH_take (i := 11) (v := ?_) (by rw [List.getElem?_toArray]; rfl) (by kernel_rfl) (by kernel_rfl) (by kernel_rfl) (fun _ _ _ h => h) (Or.inl ⟨by rfl, ?_⟩) (by assumption) ?_
                  rotate_left
                  focus (intro wS hSw; (try dsimp only at hSw); go_simp; (try with_reducible rfl)); done
                  (try simp only [Act.put, List.setIfInBounds_toArray, List.set_cons_zero, List.set_cons_succ])
                  refine wpAnyH_ready (rs := [12, 14]) (by kernel_rfl) (by simp) ?_
                  refine AllReadyH.cons (by rw [List.getElem?_toArray]; rfl) (fun K hK => ?_) (AllReadyH.cons (by rw [List.getElem?_toArray]; rfl) (fun K hK => ?_) AllReadyH.nil)
                  · go_simp
                    skip
                    refine hK.out _ _ ?_ (fun hHeld => ?_)
                    focus (first | exact trivial | ((try dsimp only); (exact Blk.cell (T := 3) (cs := #[.int .i64 15, .int .i64 va, .int .i64 7]) (by (repeat (first | (with_reducible assumption) | (with_reducible exact Blk.newAt _ _ (by simp)) | (with_reducible refine Blk.drew ?_) | (with_reducible refine Blk.other ?_ (by first | (simp; done) | (simp; omega) | omega) _) | (with_reducible refine Blk.alloc ?_ _))) : Blk _ wb.heap.size 3 #[.int .i64 15, .int .i64 va, .int .i64 7]) x1 hy1x))); done
                    clear hK K
                    (try simp only [Act.put, List.setIfInBounds_toArray, List.set_cons_zero, List.set_cons_succ])
                    refine wpAnyH_ready (rs := [14]) (by kernel_rfl) (by simp) ?_
                    refine AllReadyH.cons (by rw [List.getElem?_toArray]; rfl) (fun K hK => ?_) AllReadyH.nil
                    go_simp
                    refine (pick_any g (N + 80 - 6 * (p + 1) + 1 + 1 + 1 + 1 + 1) 3 _ (by (repeat (first | (with_reducible assumption) | (with_reducible refine Rdr.drew ?_) | (with_reducible refine Rdr.set ?_ (by first | (simp; done) | (simp; omega) | omega) _) | (with_reducible refine Rdr.alloc ?_ _)))) (by omega) (by omega)).mono ?_; rintro e we ⟨ve, rfl, hve, ule, -, hre, fe⟩; replace ule := ule (by omega); have ze := fe.size; (try simp at ze); replace ho := Own.fr (by (repeat (first | (with_reducible assumption) | (with_reducible refine Own.alloc ?_ _) | (with_reducible refine Own.drew ?_) | (with_reducible refine Own.set ?_ (by first | (simp; done) | (simp; omega) | omega) _))) : Own _ w.heap.size wr.heap.size 39 6 (some ⟨gA, aA, none⟩) q c (ents ds)) fe (.inr (by omega)); have TL1 := Blk.fr (by (repeat (first | (with_reducible assumption) | (with_reducible exact Blk.newAt _ _ (by simp)) | (with_reducible refine Blk.drew ?_) | (with_reducible refine Blk.other ?_ (by first | (simp; done) | (simp; omega) | omega) _) | (with_reducible refine Blk.alloc ?_ _))) : Blk _ wb.heap.size 3 #[.int .i64 15, .int .i64 va, .int .i64 7]) fe (.inr (by omega)); have TL2 := Blk.fr (by (repeat (first | (with_reducible assumption) | (with_reducible exact Blk.newAt _ _ (by simp)) | (with_reducible refine Blk.drew ?_) | (with_reducible refine Blk.other ?_ (by first | (simp; done) | (simp; omega) | omega) _) | (with_reducible refine Blk.alloc ?_ _))) : Blk _ wd.heap.size 3 #[.int .i64 0, .int .i64 0, .int .i64 (1 + vd)]) fe (.inr (by omega)); replace hF := Fr.trans (by (repeat (first | (with_reducible assumption) | (with_reducible refine Fr.drew ?_) | (with_reducible exact Fr.refl _ _ _) | (with_reducible refine Fr.setOut ?_ (by first | (simp; done) | (simp; omega) | omega) _) | (with_reducible refine Fr.alloc ?_ _))) : Fr g (g + 1) w _) fe; have lte := hre.lt; clear fe hrd
                    refine hK.out _ _ ?_ (fun hHeld => ?_)
                    focus (first | exact trivial | ((try dsimp only); (exact Blk.cell (T := 3) (cs := #[.int .i64 15, .int .i64 va, .int .i64 7]) (by (repeat (first | (with_reducible assumption) | (with_reducible exact Blk.newAt _ _ (by simp)) | (with_reducible refine Blk.drew ?_) | (with_reducible refine Blk.other ?_ (by first | (simp; done) | (simp; omega) | omega) _) | (with_reducible refine Blk.alloc ?_ _))) : Blk _ wb.heap.size 3 #[.int .i64 15, .int .i64 va, .int .i64 7]) x1 hy1x))); done
                    clear hK K
                    (try simp only [Act.put, List.setIfInBounds_toArray, List.set_cons_zero, List.set_cons_succ])
                    obtain ⟨x2, rfl⟩ := Int.eq_ofNat_of_zero_le hve
                    have hlx2 : x2 < 3 := by omega
                    obtain ⟨y2, hy2x⟩ := c3t 0 0 (1 + vd) hlx2
                    refine wpAnyH_to (S' := (fun W => W.cell? ⟨wb.heap.size, x1, none⟩ = some (.int .i64 y1) ∧ W.cell? ⟨wd.heap.size, x2, none⟩ = some (.int .i64 y2))) (fun _ h => h.1) ?_ (fun hHeld => ?_)
                    focus ((try dsimp only); exact ⟨Blk.cell (T := 3) (cs := #[.int .i64 15, .int .i64 va, .int .i64 7]) (by (repeat (first | (with_reducible assumption) | (with_reducible exact Blk.newAt _ _ (by simp)) | (with_reducible refine Blk.drew ?_) | (with_reducible refine Blk.other ?_ (by first | (simp; done) | (simp; omega) | omega) _) | (with_reducible refine Blk.alloc ?_ _))) : Blk _ wb.heap.size 3 #[.int .i64 15, .int .i64 va, .int .i64 7]) x1 hy1x, Blk.cell (T := 3) (cs := #[.int .i64 0, .int .i64 0, .int .i64 (1 + vd)]) (by (repeat (first | (with_reducible assumption) | (with_reducible exact Blk.newAt _ _ (by simp)) | (with_reducible refine Blk.drew ?_) | (with_reducible refine Blk.other ?_ (by first | (simp; done) | (simp; omega) | omega) _) | (with_reducible refine Blk.alloc ?_ _))) : Blk _ wd.heap.size 3 #[.int .i64 0, .int .i64 0, .int .i64 (1 + vd)]) x2 hy2x⟩); done
                    (try dsimp only at hHeld)
                    refine wpAnyH_take (i := 15) (v := ?_) (by rw [List.getElem?_toArray]; rfl) (by kernel_rfl) (by kernel_rfl) (by kernel_rfl) (fun _ _ _ h => h) (Or.inl ⟨by rfl, ?_⟩) (by assumption) ?_
                    rotate_left
                    focus (intro wS hSw; (try dsimp only at hSw); go_simp; (try with_reducible rfl)); done
                    (try simp only [Act.put, List.setIfInBounds_toArray, List.set_cons_zero, List.set_cons_succ])
                    refine wpAnyH_take (i := 16) (v := ?_) (by rw [List.getElem?_toArray]; rfl) (by kernel_rfl) (by kernel_rfl) (by kernel_rfl) (fun _ _ _ h => h) (Or.inl ⟨by rfl, ?_⟩) (by assumption) ?_
                    rotate_left
                    focus (intro wS hSw; (try dsimp only at hSw); go_simp; (try with_reducible rfl)); done
                    (try simp only [Act.put, List.setIfInBounds_toArray, List.set_cons_zero, List.set_cons_succ])
                    refine wpAnyH_ready (rs := [17]) (by kernel_rfl) (by simp) ?_
                    refine AllReadyH.cons (by rw [List.getElem?_toArray]; rfl) (fun K hK => ?_) AllReadyH.nil
                    go_simp
                    refine (sDeriveCap_mem w.heap.size wr.heap.size q c (some ⟨gA, aA, none⟩) ds m y1 y2 _ ((by (repeat (first | (with_reducible assumption) | (with_reducible refine Own.alloc ?_ _) | (with_reducible refine Own.drew ?_) | (with_reducible refine Own.set ?_ (by first | (simp; done) | (simp; omega) | omega) _))) : Own _ w.heap.size wr.heap.size 39 6 (some ⟨gA, aA, none⟩) q c (ents ds)).rd) (by omega) hmq).mono ?_; rintro e wf ⟨Af, mf, cf, ef, idf, okf, rfl, hmf, hof, hbf⟩; have zf := hbf.size; (try simp at zf); have hrf := Rdr.below (by (repeat (first | (with_reducible assumption) | (with_reducible refine Rdr.drew ?_) | (with_reducible refine Rdr.set ?_ (by first | (simp; done) | (simp; omega) | omega) _) | (with_reducible refine Rdr.alloc ?_ _))) : Rdr _ g (N + 80 - 6 * (p + 1) + 1 + 1 + 1 + 1 + 1 + 1)) hbf; replace hF := Fr.trans (by (repeat (first | (with_reducible assumption) | (with_reducible refine Fr.drew ?_) | (with_reducible exact Fr.refl _ _ _) | (with_reducible refine Fr.setOut ?_ (by first | (simp; done) | (simp; omega) | omega) _) | (with_reducible refine Fr.alloc ?_ _))) : Fr g (g + 1) w _) (Fr.of_below hbf g (g + 1)); have TL1 := Blk.below (by (repeat (first | (with_reducible assumption) | (with_reducible exact Blk.newAt _ _ (by simp)) | (with_reducible refine Blk.drew ?_) | (with_reducible refine Blk.other ?_ (by first | (simp; done) | (simp; omega) | omega) _) | (with_reducible refine Blk.alloc ?_ _))) : Blk _ wb.heap.size 3 #[.int .i64 15, .int .i64 va, .int .i64 7]) hbf; have TL2 := Blk.below (by (repeat (first | (with_reducible assumption) | (with_reducible exact Blk.newAt _ _ (by simp)) | (with_reducible refine Blk.drew ?_) | (with_reducible refine Blk.other ?_ (by first | (simp; done) | (simp; omega) | omega) _) | (with_reducible refine Blk.alloc ?_ _))) : Blk _ wd.heap.size 3 #[.int .i64 0, .int .i64 0, .int .i64 (1 + vd)]) hbf; replace hof := Lib.hid (hof.mono (B' := w.heap.size) (T' := wf.heap.size) (by (try simp) <;> omega) (Nat.le_refl _)); clear hbf ho hre
                    refine hK.out _ _ ?_ (fun hHeld => ?_)
                    focus (first | exact trivial | ((try dsimp only); (exact ⟨Blk.cell (T := 3) (cs := #[.int .i64 15, .int .i64 va, .int .i64 7]) (by (repeat (first | (with_reducible assumption) | (with_reducible exact Blk.newAt _ _ (by simp)) | (with_reducible refine Blk.drew ?_) | (with_reducible refine Blk.other ?_ (by first | (simp; done) | (simp; omega) | omega) _) | (with_reducible refine Blk.alloc ?_ _))) : Blk _ wb.heap.size 3 #[.int .i64 15, .int .i64 va, .int .i64 7]) x1 hy1x, Blk.cell (T := 3) (cs := #[.int .i64 0, .int .i64 0, .int .i64 (1 + vd)]) (by (repeat (first | (with_reducible assumption) | (with_reducible exact Blk.newAt _ _ (by simp)) | (with_reducible refine Blk.drew ?_) | (with_reducible refine Blk.other ?_ (by first | (simp; done) | (simp; omega) | omega) _) | (with_reducible refine Blk.alloc ?_ _))) : Blk _ wd.heap.size 3 #[.int .i64 0, .int .i64 0, .int .i64 (1 + vd)]) x2 hy2x⟩))); done
                    clear hK K
                    (try simp only [Act.put, List.setIfInBounds_toArray, List.set_cons_zero, List.set_cons_succ])
                    refine wpAnyH_take (i := 18) (v := ?_) (by rw [List.getElem?_toArray]; rfl) (by kernel_rfl) (by kernel_rfl) (by kernel_rfl) (fun _ _ _ h => h) (Or.inl ⟨by rfl, ?_⟩) (by assumption) ?_
                    rotate_left
                    focus (intro wS hSw; (try dsimp only at hSw); go_simp; (try with_reducible rfl)); done
                    (try simp only [Act.put, List.setIfInBounds_toArray, List.set_cons_zero, List.set_cons_succ])
                    refine wpAnyH_take (i := 19) (v := ?_) (by rw [List.getElem?_toArray]; rfl) (by kernel_rfl) (by kernel_rfl) (by kernel_rfl) (fun _ _ _ h => h) (Or.inl ⟨by rfl, ?_⟩) (by assumption) ?_
                    rotate_left
                    focus (intro wS hSw; (try dsimp only at hSw); go_simp; (try with_reducible rfl)); done
                    (try simp only [Act.put, List.setIfInBounds_toArray, List.set_cons_zero, List.set_cons_succ])
                    refine wpAnyH_take (i := 20) (v := ?_) (by rw [List.getElem?_toArray]; rfl) (by kernel_rfl) (by kernel_rfl) (by kernel_rfl) (fun _ _ _ h => h) (Or.inl ⟨by rfl, ?_⟩) (by assumption) ?_
                    rotate_left
                    focus (intro wS hSw; (try dsimp only at hSw); go_simp; (try with_reducible rfl)); done
                    (try simp only [Act.put, List.setIfInBounds_toArray, List.set_cons_zero, List.set_cons_succ])
                    refine wpAnyH_take (i := 21) (v := ?_) (by rw [List.getElem?_toArray]; rfl) (by kernel_rfl) (by kernel_rfl) (by kernel_rfl) (fun _ _ _ h => h) (Or.inl ⟨by rfl, ?_⟩) (by assumption) ?_
                    rotate_left
                    focus (intro wS hSw; (try dsimp only at hSw); go_simp; (try with_reducible rfl)); done
                    (try simp only [Act.put, List.setIfInBounds_toArray, List.set_cons_zero, List.set_cons_succ])
                    refine wpAnyH_ready (rs := [22]) (by kernel_rfl) (by simp) ?_
                    refine AllReadyH.cons (by rw [List.getElem?_toArray]; rfl) (fun K hK => ?_) AllReadyH.nil
                    go_simp
                    skip
                    refine hK.out _ _ ?_ (fun hHeld => ?_)
                    focus (first | exact trivial | ((try dsimp only); (exact ⟨Blk.cell (T := 3) (cs := #[.int .i64 15, .int .i64 va, .int .i64 7]) (by (repeat (first | (with_reducible assumption) | (with_reducible exact Blk.newAt _ _ (by simp)) | (with_reducible refine Blk.drew ?_) | (with_reducible refine Blk.other ?_ (by first | (simp; done) | (simp; omega) | omega) _) | (with_reducible refine Blk.alloc ?_ _))) : Blk _ wb.heap.size 3 #[.int .i64 15, .int .i64 va, .int .i64 7]) x1 hy1x, Blk.cell (T := 3) (cs := #[.int .i64 0, .int .i64 0, .int .i64 (1 + vd)]) (by (repeat (first | (with_reducible assumption) | (with_reducible exact Blk.newAt _ _ (by simp)) | (with_reducible refine Blk.drew ?_) | (with_reducible refine Blk.other ?_ (by first | (simp; done) | (simp; omega) | omega) _) | (with_reducible refine Blk.alloc ?_ _))) : Blk _ wd.heap.size 3 #[.int .i64 0, .int .i64 0, .int .i64 (1 + vd)]) x2 hy2x⟩))); done
                    clear hK K
                    (try simp only [Act.put, List.setIfInBounds_toArray, List.set_cons_zero, List.set_cons_succ])
                    refine wpAnyH_done (by kernel_rfl) ?_ _
                    refine NoPanic.normal ?_
                    go_wp2
                    go_roundw
                    case rel => exact ⟨p, mf, cf, Af, ef, rfl, by go_num, by omega, hof.out, hrf.mono (by omega), hF⟩
                    case measure => simp [intOf]
                  · go_simp
                    refine (pick_any g (N + 80 - 6 * (p + 1) + 1 + 1 + 1 + 1 + 1) 3 _ (by (repeat (first | (with_reducible assumption) | (with_reducible refine Rdr.drew ?_) | (with_reducible refine Rdr.set ?_ (by first | (simp; done) | (simp; omega) | omega) _) | (with_reducible refine Rdr.alloc ?_ _)))) (by omega) (by omega)).mono ?_; rintro e we ⟨ve, rfl, hve, ule, -, hre, fe⟩; replace ule := ule (by omega); have ze := fe.size; (try simp at ze); replace ho := Own.fr (by (repeat (first | (with_reducible assumption) | (with_reducible refine Own.alloc ?_ _) | (with_reducible refine Own.drew ?_) | (with_reducible refine Own.set ?_ (by first | (simp; done) | (simp; omega) | omega) _))) : Own _ w.heap.size wr.heap.size 39 6 (some ⟨gA, aA, none⟩) q c (ents ds)) fe (.inr (by omega)); have TL1 := Blk.fr (by (repeat (first | (with_reducible assumption) | (with_reducible exact Blk.newAt _ _ (by simp)) | (with_reducible refine Blk.drew ?_) | (with_reducible refine Blk.other ?_ (by first | (simp; done) | (simp; omega) | omega) _) | (with_reducible refine Blk.alloc ?_ _))) : Blk _ wb.heap.size 3 #[.int .i64 15, .int .i64 va, .int .i64 7]) fe (.inr (by omega)); replace hF := Fr.trans (by (repeat (first | (with_reducible assumption) | (with_reducible refine Fr.drew ?_) | (with_reducible exact Fr.refl _ _ _) | (with_reducible refine Fr.setOut ?_ (by first | (simp; done) | (simp; omega) | omega) _) | (with_reducible refine Fr.alloc ?_ _))) : Fr g (g + 1) w _) fe; have lte := hre.lt; clear fe hrd
                    refine hK.out _ _ ?_ (fun hHeld => ?_)
                    focus (first | exact trivial | ((try dsimp only); (exact Blk.cell (T := 3) (cs := #[.int .i64 15, .int .i64 va, .int .i64 7]) (by (repeat (first | (with_reducible assumption) | (with_reducible exact Blk.newAt _ _ (by simp)) | (with_reducible refine Blk.drew ?_) | (with_reducible refine Blk.other ?_ (by first | (simp; done) | (simp; omega) | omega) _) | (with_reducible refine Blk.alloc ?_ _))) : Blk _ wb.heap.size 3 #[.int .i64 15, .int .i64 va, .int .i64 7]) x1 hy1x))); done
                    clear hK K
                    (try simp only [Act.put, List.setIfInBounds_toArray, List.set_cons_zero, List.set_cons_succ])
                    refine wpAnyH_ready (rs := [12]) (by kernel_rfl) (by simp) ?_
                    refine AllReadyH.cons (by rw [List.getElem?_toArray]; rfl) (fun K hK => ?_) AllReadyH.nil
                    go_simp
                    skip
                    refine hK.out _ _ ?_ (fun hHeld => ?_)
                    focus (first | exact trivial | ((try dsimp only); (exact Blk.cell (T := 3) (cs := #[.int .i64 15, .int .i64 va, .int .i64 7]) (by (repeat (first | (with_reducible assumption) | (with_reducible exact Blk.newAt _ _ (by simp)) | (with_reducible refine Blk.drew ?_) | (with_reducible refine Blk.other ?_ (by first | (simp; done) | (simp; omega) | omega) _) | (with_reducible refine Blk.alloc ?_ _))) : Blk _ wb.heap.size 3 #[.int .i64 15, .int .i64 va, .int .i64 7]) x1 hy1x))); done
                    clear hK K
                    (try simp only [Act.put, List.setIfInBounds_toArray, List.set_cons_zero, List.set_cons_succ])
                    obtain ⟨x2, rfl⟩ := Int.eq_ofNat_of_zero_le hve
                    have hlx2 : x2 < 3 := by omega
                    obtain ⟨y2, hy2x⟩ := c3t 0 0 (1 + vd) hlx2
                    refine wpAnyH_to (S' := (fun W => W.cell? ⟨wb.heap.size, x1, none⟩ = some (.int .i64 y1) ∧ W.cell? ⟨we.heap.size, x2, none⟩ = some (.int .i64 y2))) (fun _ h => h.1) ?_ (fun hHeld => ?_)
                    focus ((try dsimp only); exact ⟨Blk.cell (T := 3) (cs := #[.int .i64 15, .int .i64 va, .int .i64 7]) (by (repeat (first | (with_reducible assumption) | (with_reducible exact Blk.newAt _ _ (by simp)) | (with_reducible refine Blk.drew ?_) | (with_reducible refine Blk.other ?_ (by first | (simp; done) | (simp; omega) | omega) _) | (with_reducible refine Blk.alloc ?_ _))) : Blk _ wb.heap.size 3 #[.int .i64 15, .int .i64 va, .int .i64 7]) x1 hy1x, Blk.cell (T := 3) (cs := #[.int .i64 0, .int .i64 0, .int .i64 (1 + vd)]) (by (repeat (first | (with_reducible assumption) | (with_reducible exact Blk.newAt _ _ (by simp)) | (with_reducible refine Blk.drew ?_) | (with_reducible refine Blk.other ?_ (by first | (simp; done) | (simp; omega) | omega) _) | (with_reducible refine Blk.alloc ?_ _))) : Blk _ we.heap.size 3 #[.int .i64 0, .int .i64 0, .int .i64 (1 + vd)]) x2 hy2x⟩); done
                    (try dsimp only at hHeld)
                    refine wpAnyH_take (i := 15) (v := ?_) (by rw [List.getElem?_toArray]; rfl) (by kernel_rfl) (by kernel_rfl) (by kernel_rfl) (fun _ _ _ h => h) (Or.inl ⟨by rfl, ?_⟩) (by assumption) ?_
                    rotate_left
                    focus (intro wS hSw; (try dsimp only at hSw); go_simp; (try with_reducible rfl)); done
                    (try simp only [Act.put, List.setIfInBounds_toArray, List.set_cons_zero, List.set_cons_succ])
                    refine wpAnyH_take (i := 16) (v := ?_) (by rw [List.getElem?_toArray]; rfl) (by kernel_rfl) (by kernel_rfl) (by kernel_rfl) (fun _ _ _ h => h) (Or.inl ⟨by rfl, ?_⟩) (by assumption) ?_
                    rotate_left
                    focus (intro wS hSw; (try dsimp only at hSw); go_simp; (try with_reducible rfl)); done
                    (try simp only [Act.put, List.setIfInBounds_toArray, List.set_cons_zero, List.set_cons_succ])
                    refine wpAnyH_ready (rs := [17]) (by kernel_rfl) (by simp) ?_
                    refine AllReadyH.cons (by rw [List.getElem?_toArray]; rfl) (fun K hK => ?_) AllReadyH.nil
                    go_simp
                    refine (sDeriveCap_mem w.heap.size wr.heap.size q c (some ⟨gA, aA, none⟩) ds m y1 y2 _ ((by (repeat (first | (with_reducible assumption) | (with_reducible refine Own.alloc ?_ _) | (with_reducible refine Own.drew ?_) | (with_reducible refine Own.set ?_ (by first | (simp; done) | (simp; omega) | omega) _))) : Own _ w.heap.size wr.heap.size 39 6 (some ⟨gA, aA, none⟩) q c (ents ds)).rd) (by omega) hmq).mono ?_; rintro e wf ⟨Af, mf, cf, ef, idf, okf, rfl, hmf, hof, hbf⟩; have zf := hbf.size; (try simp at zf); have hrf := Rdr.below (by (repeat (first | (with_reducible assumption) | (with_reducible refine Rdr.drew ?_) | (with_reducible refine Rdr.set ?_ (by first | (simp; done) | (simp; omega) | omega) _) | (with_reducible refine Rdr.alloc ?_ _))) : Rdr _ g (N + 80 - 6 * (p + 1) + 1 + 1 + 1 + 1 + 1 + 1)) hbf; replace hF := Fr.trans (by (repeat (first | (with_reducible assumption) | (with_reducible refine Fr.drew ?_) | (with_reducible exact Fr.refl _ _ _) | (with_reducible refine Fr.setOut ?_ (by first | (simp; done) | (simp; omega) | omega) _) | (with_reducible refine Fr.alloc ?_ _))) : Fr g (g + 1) w _) (Fr.of_below hbf g (g + 1)); have TL1 := Blk.below (by (repeat (first | (with_reducible assumption) | (with_reducible exact Blk.newAt _ _ (by simp)) | (with_reducible refine Blk.drew ?_) | (with_reducible refine Blk.other ?_ (by first | (simp; done) | (simp; omega) | omega) _) | (with_reducible refine Blk.alloc ?_ _))) : Blk _ wb.heap.size 3 #[.int .i64 15, .int .i64 va, .int .i64 7]) hbf; have TL2 := Blk.below (by (repeat (first | (with_reducible assumption) | (with_reducible exact Blk.newAt _ _ (by simp)) | (with_reducible refine Blk.drew ?_) | (with_reducible refine Blk.other ?_ (by first | (simp; done) | (simp; omega) | omega) _) | (with_reducible refine Blk.alloc ?_ _))) : Blk _ we.heap.size 3 #[.int .i64 0, .int .i64 0, .int .i64 (1 + vd)]) hbf; replace hof := Lib.hid (hof.mono (B' := w.heap.size) (T' := wf.heap.size) (by (try simp) <;> omega) (Nat.le_refl _)); clear hbf ho hre
                    refine hK.out _ _ ?_ (fun hHeld => ?_)
                    focus (first | exact trivial | ((try dsimp only); (exact ⟨Blk.cell (T := 3) (cs := #[.int .i64 15, .int .i64 va, .int .i64 7]) (by (repeat (first | (with_reducible assumption) | (with_reducible exact Blk.newAt _ _ (by simp)) | (with_reducible refine Blk.drew ?_) | (with_reducible refine Blk.other ?_ (by first | (simp; done) | (simp; omega) | omega) _) | (with_reducible refine Blk.alloc ?_ _))) : Blk _ wb.heap.size 3 #[.int .i64 15, .int .i64 va, .int .i64 7]) x1 hy1x, Blk.cell (T := 3) (cs := #[.int .i64 0, .int .i64 0, .int .i64 (1 + vd)]) (by (repeat (first | (with_reducible assumption) | (with_reducible exact Blk.newAt _ _ (by simp)) | (with_reducible refine Blk.drew ?_) | (with_reducible refine Blk.other ?_ (by first | (simp; done) | (simp; omega) | omega) _) | (with_reducible refine Blk.alloc ?_ _))) : Blk _ we.heap.size 3 #[.int .i64 0, .int .i64 0, .int .i64 (1 + vd)]) x2 hy2x⟩))); done
                    clear hK K
                    (try simp only [Act.put, List.setIfInBounds_toArray, List.set_cons_zero, List.set_cons_succ])
                    refine wpAnyH_take (i := 18) (v := ?_) (by rw [List.getElem?_toArray]; rfl) (by kernel_rfl) (by kernel_rfl) (by kernel_rfl) (fun _ _ _ h => h) (Or.inl ⟨by rfl, ?_⟩) (by assumption) ?_
                    rotate_left
                    focus (intro wS hSw; (try dsimp only at hSw); go_simp; (try with_reducible rfl)); done
                    (try simp only [Act.put, List.setIfInBounds_toArray, List.set_cons_zero, List.set_cons_succ])
                    refine wpAnyH_take (i := 19) (v := ?_) (by rw [List.getElem?_toArray]; rfl) (by kernel_rfl) (by kernel_rfl) (by kernel_rfl) (fun _ _ _ h => h) (Or.inl ⟨by rfl, ?_⟩) (by assumption) ?_
                    rotate_left
                    focus (intro wS hSw; (try dsimp only at hSw); go_simp; (try with_reducible rfl)); done
                    (try simp only [Act.put, List.setIfInBounds_toArray, List.set_cons_zero, List.set_cons_succ])
                    refine wpAnyH_take (i := 20) (v := ?_) (by rw [List.getElem?_toArray]; rfl) (by kernel_rfl) (by kernel_rfl) (by kernel_rfl) (fun _ _ _ h => h) (Or.inl ⟨by rfl, ?_⟩) (by assumption) ?_
                    rotate_left
                    focus (intro wS hSw; (try dsimp only at hSw); go_simp; (try with_reducible rfl)); done
                    (try simp only [Act.put, List.setIfInBounds_toArray, List.set_cons_zero, List.set_cons_succ])
                    refine wpAnyH_take (i := 21) (v := ?_) (by rw [List.getElem?_toArray]; rfl) (by kernel_rfl) (by kernel_rfl) (by kernel_rfl) (fun _ _ _ h => h) (Or.inl ⟨by rfl, ?_⟩) (by assumption) ?_
                    rotate_left
                    focus (intro wS hSw; (try dsimp only at hSw); go_simp; (try with_reducible rfl)); done
                    (try simp only [Act.put, List.setIfInBounds_toArray, List.set_cons_zero, List.set_cons_succ])
                    refine wpAnyH_ready (rs := [22]) (by kernel_rfl) (by simp) ?_
                    refine AllReadyH.cons (by rw [List.getElem?_toArray]; rfl) (fun K hK => ?_) AllReadyH.nil
                    go_simp
                    skip
                    refine hK.out _ _ ?_ (fun hHeld => ?_)
                    focus (first | exact trivial | ((try dsimp only); (exact ⟨Blk.cell (T := 3) (cs := #[.int .i64 15, .int .i64 va, .int .i64 7]) (by (repeat (first | (with_reducible assumption) | (with_reducible exact Blk.newAt _ _ (by simp)) | (with_reducible refine Blk.drew ?_) | (with_reducible refine Blk.other ?_ (by first | (simp; done) | (simp; omega) | omega) _) | (with_reducible refine Blk.alloc ?_ _))) : Blk _ wb.heap.size 3 #[.int .i64 15, .int .i64 va, .int .i64 7]) x1 hy1x, Blk.cell (T := 3) (cs := #[.int .i64 0, .int .i64 0, .int .i64 (1 + vd)]) (by (repeat (first | (with_reducible assumption) | (with_reducible exact Blk.newAt _ _ (by simp)) | (with_reducible refine Blk.drew ?_) | (with_reducible refine Blk.other ?_ (by first | (simp; done) | (simp; omega) | omega) _) | (with_reducible refine Blk.alloc ?_ _))) : Blk _ we.heap.size 3 #[.int .i64 0, .int .i64 0, .int .i64 (1 + vd)]) x2 hy2x⟩))); done
                    clear hK K
                    (try simp only [Act.put, List.setIfInBounds_toArray, List.set_cons_zero, List.set_cons_succ])
                    refine wpAnyH_done (by kernel_rfl) ?_ _
                    refine NoPanic.normal ?_
                    go_wp2
                    go_roundw
                    case rel => exact ⟨p, mf, cf, Af, ef, rfl, by go_num, by omega, hof.out, hrf.mono (by omega), hF⟩
                    case measure => simp [intOf]
                · go_simp
                  refine (pick_any g (N + 80 - 6 * (p + 1) + 1 + 1 + 1 + 1) 4 _ (by (repeat (first | (with_reducible assumption) | (with_reducible refine Rdr.drew ?_) | (with_reducible refine Rdr.set ?_ (by first | (simp; done) | (simp; omega) | omega) _) | (with_reducible refine Rdr.alloc ?_ _)))) (by omega) (by omega)).mono ?_; rintro e wd ⟨vd, rfl, hvd, uld, -, hrd, fd⟩; replace uld := uld (by omega); have zd := fd.size; (try simp at zd); replace ho := Own.fr (by (repeat (first | (with_reducible assumption) | (with_reducible refine Own.alloc ?_ _) | (with_reducible refine Own.drew ?_) | (with_reducible refine Own.set ?_ (by first | (simp; done) | (simp; omega) | omega) _))) : Own _ w.heap.size wr.heap.size 39 6 (some ⟨gA, aA, none⟩) q c (ents ds)) fd (.inr (by omega)); replace hF := Fr.trans (by (repeat (first | (with_reducible assumption) | (with_reducible refine Fr.drew ?_) | (with_reducible exact Fr.refl _ _ _) | (with_reducible refine Fr.setOut ?_ (by first | (simp; done) | (simp; omega) | omega) _) | (with_reducible refine Fr.alloc ?_ _))) : Fr g (g + 1) w _) fd; have ltd := hrd.lt; clear fd hrb; have ed : IntKind.i64.wrap (1 + vd) = 1 + vd := wr64s (by omega) (by omega)
                  refine hK.out _ _ ?_ (fun hHeld => ?_)
                  focus (first | exact trivial | ((try dsimp only); (exact trivial))); done
                  clear hK K
                  (try simp only [Act.put, List.setIfInBounds_toArray, List.set_cons_zero, List.set_cons_succ])
                  refine wpAnyH_take (i := 11) (v := ?_) (by rw [List.getElem?_toArray]; rfl) (by kernel_rfl) (by kernel_rfl) (by kernel_rfl) (fun _ _ _ h => h) (Or.inl ⟨by rfl, ?_⟩) (by assumption) ?_
                  rotate_left
                  focus (intro wS hSw; (try dsimp only at hSw); go_simp; (try with_reducible rfl)); done
                  (try simp only [Act.put, List.setIfInBounds_toArray, List.set_cons_zero, List.set_cons_succ])
                  refine wpAnyH_ready (rs := [4, 12, 14]) (by kernel_rfl) (by simp) ?_
                  refine AllReadyH.cons (by rw [List.getElem?_toArray]; rfl) (fun K hK => ?_) (AllReadyH.cons (by rw [List.getElem?_toArray]; rfl) (fun K hK => ?_) (AllReadyH.cons (by rw [List.getElem?_toArray]; rfl) (fun K hK => ?_) AllReadyH.nil))
                  · go_simp
                    skip
                    refine hK.out _ _ ?_ (fun hHeld => ?_)
                    focus (first | exact trivial | ((try dsimp only); (exact trivial))); done
                    clear hK K
                    (try simp only [Act.put, List.setIfInBounds_toArray, List.set_cons_zero, List.set_cons_succ])
                    obtain ⟨x1, rfl⟩ := Int.eq_ofNat_of_zero_le hvb
                    have hlx1 : x1 < 3 := by omega
                    obtain ⟨y1, hy1x⟩ := c3t 15 va 7 hlx1
                    refine wpAnyH_to (S' := (fun W => W.cell? ⟨wd.heap.size, x1, none⟩ = some (.int .i64 y1))) (fun _ _ => trivial) ?_ (fun hHeld => ?_)
                    focus ((try dsimp only); exact Blk.cell (T := 3) (cs := #[.int .i64 15, .int .i64 va, .int .i64 7]) (by (repeat (first | (with_reducible assumption) | (with_reducible exact Blk.newAt _ _ (by simp)) | (with_reducible refine Blk.drew ?_) | (with_reducible refine Blk.other ?_ (by first | (simp; done) | (simp; omega) | omega) _) | (with_reducible refine Blk.alloc ?_ _))) : Blk _ wd.heap.size 3 #[.int .i64 15, .int .i64 va, .int .i64 7]) x1 hy1x); done
                    (try dsimp only at hHeld)
                    refine wpAnyH_take (i := 7) (v := ?_) (by rw [List.getElem?_toArray]; rfl) (by kernel_rfl) (by kernel_rfl) (by kernel_rfl) (fun _ _ _ h => h) (Or.inl ⟨by rfl, ?_⟩) (by assumption) ?_
                    rotate_left
                    focus (intro wS hSw; (try dsimp only at hSw); go_simp; (try with_reducible rfl)); done
                    (try simp only [Act.put, List.setIfInBounds_toArray, List.set_cons_zero, List.set_cons_succ])
                    refine wpAnyH_take (i := 8) (v := ?_) (by rw [List.getElem?_toArray]; rfl) (by kernel_rfl) (by kernel_rfl) (by kernel_rfl) (fun _ _ _ h => h) (Or.inl ⟨by rfl, ?_⟩) (by assumption) ?_
                    rotate_left
                    focus (intro wS hSw; (try dsimp only at hSw); go_simp; (try with_reducible rfl)); done
                    (try simp only [Act.put, List.setIfInBounds_toArray, List.set_cons_zero, List.set_cons_succ])
                    refine wpAnyH_ready (rs := [12, 14]) (by kernel_rfl) (by simp) ?_
                    refine AllReadyH.cons (by rw [List.getElem?_toArray]; rfl) (fun K hK => ?_) (AllReadyH.cons (by rw [List.getElem?_toArray]; rfl) (fun K hK => ?_) AllReadyH.nil)
                    · go_simp
                      skip
                      refine hK.out _ _ ?_ (fun hHeld => ?_)
                      focus (first | exact trivial | ((try dsimp only); (exact Blk.cell (T := 3) (cs := #[.int .i64 15, .int .i64 va, .int .i64 7]) (by (repeat (first | (with_reducible assumption) | (with_reducible exact Blk.newAt _ _ (by simp)) | (with_reducible refine Blk.drew ?_) | (with_reducible refine Blk.other ?_ (by first | (simp; done) | (simp; omega) | omega) _) | (with_reducible refine Blk.alloc ?_ _))) : Blk _ wd.heap.size 3 #[.int .i64 15, .int .i64 va, .int .i64 7]) x1 hy1x))); done
                      clear hK K
                      (try simp only [Act.put, List.setIfInBounds_toArray, List.set_cons_zero, List.set_cons_succ])
                      refine wpAnyH_ready (rs := [14]) (by kernel_rfl) (by simp) ?_
                      refine AllReadyH.cons (by rw [List.getElem?_toArray]; rfl) (fun K hK => ?_) AllReadyH.nil
                      go_simp
                      refine (pick_any g (N + 80 - 6 * (p + 1) + 1 + 1 + 1 + 1 + 1) 3 _ (by (repeat (first | (with_reducible assumption) | (with_reducible refine Rdr.drew ?_) | (with_reducible refine Rdr.set ?_ (by first | (simp; done) | (simp; omega) | omega) _) | (with_reducible refine Rdr.alloc ?_ _)))) (by omega) (by omega)).mono ?_; rintro e we ⟨ve, rfl, hve, ule, -, hre, fe⟩; replace ule := ule (by omega); have ze := fe.size; (try simp at ze); replace ho := Own.fr (by (repeat (first | (with_reducible assumption) | (with_reducible refine Own.alloc ?_ _) | (with_reducible refine Own.drew ?_) | (with_reducible refine Own.set ?_ (by first | (simp; done) | (simp; omega) | omega) _))) : Own _ w.heap.size wr.heap.size 39 6 (some ⟨gA, aA, none⟩) q c (ents ds)) fe (.inr (by omega)); have TL1 := Blk.fr (by (repeat (first | (with_reducible assumption) | (with_reducible exact Blk.newAt _ _ (by simp)) | (with_reducible refine Blk.drew ?_) | (with_reducible refine Blk.other ?_ (by first | (simp; done) | (simp; omega) | omega) _) | (with_reducible refine Blk.alloc ?_ _))) : Blk _ wd.heap.size 3 #[.int .i64 15, .int .i64 va, .int .i64 7]) fe (.inr (by omega)); have TL2 := Blk.fr (by (repeat (first | (with_reducible assumption) | (with_reducible exact Blk.newAt _ _ (by simp)) | (with_reducible refine Blk.drew ?_) | (with_reducible refine Blk.other ?_ (by first | (simp; done) | (simp; omega) | omega) _) | (with_reducible refine Blk.alloc ?_ _))) : Blk _ (wd.heap.size + 1) 3 #[.int .i64 0, .int .i64 0, .int .i64 (1 + vd)]) fe (.inr (by omega)); replace hF := Fr.trans (by (repeat (first | (with_reducible assumption) | (with_reducible refine Fr.drew ?_) | (with_reducible exact Fr.refl _ _ _) | (with_reducible refine Fr.setOut ?_ (by first | (simp; done) | (simp; omega) | omega) _) | (with_reducible refine Fr.alloc ?_ _))) : Fr g (g + 1) w _) fe; have lte := hre.lt; clear fe hrd
                      refine hK.out _ _ ?_ (fun hHeld => ?_)
                      focus (first | exact trivial | ((try dsimp only); (exact Blk.cell (T := 3) (cs := #[.int .i64 15, .int .i64 va, .int .i64 7]) (by (repeat (first | (with_reducible assumption) | (with_reducible exact Blk.newAt _ _ (by simp)) | (with_reducible refine Blk.drew ?_) | (with_reducible refine Blk.other ?_ (by first | (simp; done) | (simp; omega) | omega) _) | (with_reducible refine Blk.alloc ?_ _))) : Blk _ wd.heap.size 3 #[.int .i64 15, .int .i64 va, .int .i64 7]) x1 hy1x))); done
                      clear hK K
                      (try simp only [Act.put, List.setIfInBounds_toArray, List.set_cons_zero, List.set_cons_succ])
                      obtain ⟨x2, rfl⟩ := Int.eq_ofNat_of_zero_le hve
                      have hlx2 : x2 < 3 := by omega
                      obtain ⟨y2, hy2x⟩ := c3t 0 0 (1 + vd) hlx2
                      refine wpAnyH_to (S' := (fun W => W.cell? ⟨wd.heap.size, x1, none⟩ = some (.int .i64 y1) ∧ W.cell? ⟨(wd.heap.size + 1), x2, none⟩ = some (.int .i64 y2))) (fun _ h => h.1) ?_ (fun hHeld => ?_)
                      focus ((try dsimp only); exact ⟨Blk.cell (T := 3) (cs := #[.int .i64 15, .int .i64 va, .int .i64 7]) (by (repeat (first | (with_reducible assumption) | (with_reducible exact Blk.newAt _ _ (by simp)) | (with_reducible refine Blk.drew ?_) | (with_reducible refine Blk.other ?_ (by first | (simp; done) | (simp; omega) | omega) _) | (with_reducible refine Blk.alloc ?_ _))) : Blk _ wd.heap.size 3 #[.int .i64 15, .int .i64 va, .int .i64 7]) x1 hy1x, Blk.cell (T := 3) (cs := #[.int .i64 0, .int .i64 0, .int .i64 (1 + vd)]) (by (repeat (first | (with_reducible assumption) | (with_reducible exact Blk.newAt _ _ (by simp)) | (with_reducible refine Blk.drew ?_) | (with_reducible refine Blk.other ?_ (by first | (simp; done) | (simp; omega) | omega) _) | (with_reducible refine Blk.alloc ?_ _))) : Blk _ (wd.heap.size + 1) 3 #[.int .i64 0, .int .i64 0, .int .i64 (1 + vd)]) x2 hy2x⟩); done
                      (try dsimp only at hHeld)
                      refine wpAnyH_take (i := 15) (v := ?_) (by rw [List.getElem?_toArray]; rfl) (by kernel_rfl) (by kernel_rfl) (by kernel_rfl) (fun _ _ _ h => h) (Or.inl ⟨by rfl, ?_⟩) (by assumption) ?_
                      rotate_left
                      focus (intro wS hSw; (try dsimp only at hSw); go_simp; (try with_reducible rfl)); done
                      (try simp only [Act.put, List.setIfInBounds_toArray, List.set_cons_zero, List.set_cons_succ])
                      refine wpAnyH_take (i := 16) (v := ?_) (by rw [List.getElem?_toArray]; rfl) (by kernel_rfl) (by kernel_rfl) (by kernel_rfl) (fun _ _ _ h => h) (Or.inl ⟨by rfl, ?_⟩) (by assumption) ?_
                      rotate_left
                      focus (intro wS hSw; (try dsimp only at hSw); go_simp; (try with_reducible rfl)); done
                      (try simp only [Act.put, List.setIfInBounds_toArray, List.set_cons_zero, List.set_cons_succ])
                      refine wpAnyH_ready (rs := [17]) (by kernel_rfl) (by simp) ?_
                      refine AllReadyH.cons (by rw [List.getElem?_toArray]; rfl) (fun K hK => ?_) AllReadyH.nil
                      go_simp
                      refine (sDeriveCap_mem w.heap.size wr.heap.size q c (some ⟨gA, aA, none⟩) ds m y1 y2 _ ((by (repeat (first | (with_reducible assumption) | (with_reducible refine Own.alloc ?_ _) | (with_reducible refine Own.drew ?_) | (with_reducible refine Own.set ?_ (by first | (simp; done) | (simp; omega) | omega) _))) : Own _ w.heap.size wr.heap.size 39 6 (some ⟨gA, aA, none⟩) q c (ents ds)).rd) (by omega) hmq).mono ?_; rintro e wf ⟨Af, mf, cf, ef, idf, okf, rfl, hmf, hof, hbf⟩; have zf := hbf.size; (try simp at zf); have hrf := Rdr.below (by (repeat (first | (with_reducible assumption) | (with_reducible refine Rdr.drew ?_) | (with_reducible refine Rdr.set ?_ (by first | (simp; done) | (simp; omega) | omega) _) | (with_reducible refine Rdr.alloc ?_ _))) : Rdr _ g (N + 80 - 6 * (p + 1) + 1 + 1 + 1 + 1 + 1 + 1)) hbf; replace hF := Fr.trans (by (repeat (first | (with_reducible assumption) | (with_reducible refine Fr.drew ?_) | (with_reducible exact Fr.refl _ _ _) | (with_reducible refine Fr.setOut ?_ (by first | (simp; done) | (simp; omega) | omega) _) | (with_reducible refine Fr.alloc ?_ _))) : Fr g (g + 1) w _) (Fr.of_below hbf g (g + 1)); have TL1 := Blk.below (by (repeat (first | (with_reducible assumption) | (with_reducible exact Blk.newAt _ _ (by simp)) | (with_reducible refine Blk.drew ?_) | (with_reducible refine Blk.other ?_ (by first | (simp; done) | (simp; omega) | omega) _) | (with_reducible refine Blk.alloc ?_ _))) : Blk _ wd.heap.size 3 #[.int .i64 15, .int .i64 va, .int .i64 7]) hbf; have TL2 := Blk.below (by (repeat (first | (with_reducible assumption) | (with_reducible exact Blk.newAt _ _ (by simp)) | (with_reducible refine Blk.drew ?_) | (with_reducible refine Blk.other ?_ (by first | (simp; done) | (simp; omega) | omega) _) | (with_reducible refine Blk.alloc ?_ _))) : Blk _ (wd.heap.size + 1) 3 #[.int .i64 0, .int .i64 0, .int .i64 (1 + vd)]) hbf; replace hof := Lib.hid (hof.mono (B' := w.heap.size) (T' := wf.heap.size) (by (try simp) <;> omega) (Nat.le_refl _)); clear hbf ho hre
                      refine hK.out _ _ ?_ (fun hHeld => ?_)
                      focus (first | exact trivial | ((try dsimp only); (exact ⟨Blk.cell (T := 3) (cs := #[.int .i64 15, .int .i64 va, .int .i64 7]) (by (repeat (first | (with_reducible assumption) | (with_reducible exact Blk.newAt _ _ (by simp)) | (with_reducible refine Blk.drew ?_) | (with_reducible refine Blk.other ?_ (by first | (simp; done) | (simp; omega) | omega) _) | (with_reducible refine Blk.alloc ?_ _))) : Blk _ wd.heap.size 3 #[.int .i64 15, .int .i64 va, .int .i64 7]) x1 hy1x, Blk.cell (T := 3) (cs := #[.int .i64 0, .int .i64 0, .int .i64 (1 + vd)]) (by (repeat (first | (with_reducible assumption) | (with_reducible exact Blk.newAt _ _ (by simp)) | (with_reducible refine Blk.drew ?_) | (with_reducible refine Blk.other ?_ (by first | (simp; done) | (simp; omega) | omega) _) | (with_reducible refine Blk.alloc ?_ _))) : Blk _ (wd.heap.size + 1) 3 #[.int .i64 0, .int .i64 0, .int .i64 (1 + vd)]) x2 hy2x⟩))); done
                      clear hK K
                      (try simp only [Act.put, List.setIfInBounds_toArray, List.set_cons_zero, List.set_cons_succ])
                      refine wpAnyH_take (i := 18) (v := ?_) (by rw [List.getElem?_toArray]; rfl) (by kernel_rfl) (by kernel_rfl) (by kernel_rfl) (fun _ _ _ h => h) (Or.inl ⟨by rfl, ?_⟩) (by assumption) ?_
                      rotate_left
                      focus (intro wS hSw; (try dsimp only at hSw); go_simp; (try with_reducible rfl)); done
                      (try simp only [Act.put, List.setIfInBounds_toArray, List.set_cons_zero, List.set_cons_succ])
                      refine wpAnyH_take (i := 19) (v := ?_) (by rw [List.getElem?_toArray]; rfl) (by kernel_rfl) (by kernel_rfl) (by kernel_rfl) (fun _ _ _ h => h) (Or.inl ⟨by rfl, ?_⟩) (by assumption) ?_
                      rotate_left
                      focus (intro wS hSw; (try dsimp only at hSw); go_simp; (try with_reducible rfl)); done
                      (try simp only [Act.put, List.setIfInBounds_toArray, List.set_cons_zero, List.set_cons_succ])
                      refine wpAnyH_take (i := 20) (v := ?_) (by rw [List.getElem?_toArray]; rfl) (by kernel_rfl) (by kernel_rfl) (by kernel_rfl) (fun _ _ _ h => h) (Or.inl ⟨by rfl, ?_⟩) (by assumption) ?_
                      rotate_left
                      focus (intro wS hSw; (try dsimp only at hSw); go_simp; (try with_reducible rfl)); done
                      (try simp only [Act.put, List.setIfInBounds_toArray, List.set_cons_zero, List.set_cons_succ])
                      refine wpAnyH_take (i := 21) (v := ?_) (by rw [List.getElem?_toArray]; rfl) (by kernel_rfl) (by kernel_rfl) (by kernel_rfl) (fun _ _ _ h => h) (Or.inl ⟨by rfl, ?_⟩) (by assumption) ?_
                      rotate_left
                      focus (intro wS hSw; (try dsimp only at hSw); go_simp; (try with_reducible rfl)); done
                      (try simp only [Act.put, List.setIfInBounds_toArray, List.set_cons_zero, List.set_cons_succ])
                      refine wpAnyH_ready (rs := [22]) (by kernel_rfl) (by simp) ?_
                      refine AllReadyH.cons (by rw [List.getElem?_toArray]; rfl) (fun K hK => ?_) AllReadyH.nil
                      go_simp
                      skip
                      refine hK.out _ _ ?_ (fun hHeld => ?_)
                      focus (first | exact trivial | ((try dsimp only); (exact ⟨Blk.cell (T := 3) (cs := #[.int .i64 15, .int .i64 va, .int .i64 7]) (by (repeat (first | (with_reducible assumption) | (with_reducible exact Blk.newAt _ _ (by simp)) | (with_reducible refine Blk.drew ?_) | (with_reducible refine Blk.other ?_ (by first | (simp; done) | (simp; omega) | omega) _) | (with_reducible refine Blk.alloc ?_ _))) : Blk _ wd.heap.size 3 #[.int .i64 15, .int .i64 va, .int .i64 7]) x1 hy1x, Blk.cell (T := 3) (cs := #[.int .i64 0, .int .i64 0, .int .i64 (1 + vd)]) (by (repeat (first | (with_reducible assumption) | (with_reducible exact Blk.newAt _ _ (by simp)) | (with_reducible refine Blk.drew ?_) | (with_reducible refine Blk.other ?_ (by first | (simp; done) | (simp; omega) | omega) _) | (with_reducible refine Blk.alloc ?_ _))) : Blk _ (wd.heap.size + 1) 3 #[.int .i64 0, .int .i64 0, .int .i64 (1 + vd)]) x2 hy2x⟩))); done
                      clear hK K
                      (try simp only [Act.put, List.setIfInBounds_toArray, List.set_cons_zero, List.set_cons_succ])
                      refine wpAnyH_done (by kernel_rfl) ?_ _
                      refine NoPanic.normal ?_
                      go_wp2
                      go_roundw
                      case rel => exact ⟨p, mf, cf, Af, ef, rfl, by go_num, by omega, hof.out, hrf.mono (by omega), hF⟩
                      case measure => simp [intOf]
                    · go_simp
                      refine (pick_any g (N + 80 - 6 * (p + 1) + 1 + 1 + 1 + 1 + 1) 3 _ (by (repeat (first | (with_reducible assumption) | (with_reducible refine Rdr.drew ?_) | (with_reducible refine Rdr.set ?_ (by first | (simp; done) | (simp; omega) | omega) _) | (with_reducible refine Rdr.alloc ?_ _)))) (by omega) (by omega)).mono ?_; rintro e we ⟨ve, rfl, hve, ule, -, hre, fe⟩; replace ule := ule (by omega); have ze := fe.size; (try simp at ze); replace ho := Own.fr (by (repeat (first | (with_reducible assumption) | (with_reducible refine Own.alloc ?_ _) | (with_reducible refine Own.drew ?_) | (with_reducible refine Own.set ?_ (by first | (simp; done) | (simp; omega) | omega) _))) : Own _ w.heap.size wr.heap.size 39 6 (some ⟨gA, aA, none⟩) q c (ents ds)) fe (.inr (by omega)); have TL1 := Blk.fr (by (repeat (first | (with_reducible assumption) | (with_reducible exact Blk.newAt _ _ (by simp)) | (with_reducible refine Blk.drew ?_) | (with_reducible refine Blk.other ?_ (by first | (simp; done) | (simp; omega) | omega) _) | (with_reducible refine Blk.alloc ?_ _))) : Blk _ wd.heap.size 3 #[.int .i64 15, .int .i64 va, .int .i64 7]) fe (.inr (by omega)); replace hF := Fr.trans (by (repeat (first | (with_reducible assumption) | (with_reducible refine Fr.drew ?_) | (with_reducible exact Fr.refl _ _ _) | (with_reducible refine Fr.setOut ?_ (by first | (simp; done) | (simp; omega) | omega) _) | (with_reducible refine Fr.alloc ?_ _))) : Fr g (g + 1) w _) fe; have lte := hre.lt; clear fe hrd
                      refine hK.out _ _ ?_ (fun hHeld => ?_)
                      focus (first | exact trivial | ((try dsimp only); (exact Blk.cell (T := 3) (cs := #[.int .i64 15, .int .i64 va, .int .i64 7]) (by (repeat (first | (with_reducible assumption) | (with_reducible exact Blk.newAt _ _ (by simp)) | (with_reducible refine Blk.drew ?_) | (with_reducible refine Blk.other ?_ (by first | (simp; done) | (simp; omega) | omega) _) | (with_reducible refine Blk.alloc ?_ _))) : Blk _ wd.heap.size 3 #[.int .i64 15, .int .i64 va, .int .i64 7]) x1 hy1x))); done
                      clear hK K
                      (try simp only [Act.put, List.setIfInBounds_toArray, List.set_cons_zero, List.set_cons_succ])
                      refine wpAnyH_ready (rs := [12]) (by kernel_rfl) (by simp) ?_
                      refine AllReadyH.cons (by rw [List.getElem?_toArray]; rfl) (fun K hK => ?_) AllReadyH.nil
                      go_simp
                      skip
                      refine hK.out _ _ ?_ (fun hHeld => ?_)
                      focus (first | exact trivial | ((try dsimp only); (exact Blk.cell (T := 3) (cs := #[.int .i64 15, .int .i64 va, .int .i64 7]) (by (repeat (first | (with_reducible assumption) | (with_reducible exact Blk.newAt _ _ (by simp)) | (with_reducible refine Blk.drew ?_) | (with_reducible refine Blk.other ?_ (by first | (simp; done) | (simp; omega) | omega) _) | (with_reducible refine Blk.alloc ?_ _))) : Blk _ wd.heap.size 3 #[.int .i64 15, .int .i64 va, .int .i64 7]) x1 hy1x))); done
                      clear hK K
                      (try simp only [Act.put, List.setIfInBounds_toArray, List.set_cons_zero, List.set_cons_succ])
                      obtain ⟨x2, rfl⟩ := Int.eq_ofNat_of_zero_le hve
                      have hlx2 : x2 < 3 := by omega
                      obtain ⟨y2, hy2x⟩ := c3t 0 0 (1 + vd) hlx2
                      refine wpAnyH_to (S' := (fun W => W.cell? ⟨wd.heap.size, x1, none⟩ = some (.int .i64 y1) ∧ W.cell? ⟨we.heap.size, x2, none⟩ = some (.int .i64 y2))) (fun _ h => h.1) ?_ (fun hHeld => ?_)
                      focus ((try dsimp only); exact ⟨Blk.cell (T := 3) (cs := #[.int .i64 15, .int .i64 va, .int .i64 7]) (by (repeat (first | (with_reducible assumption) | (with_reducible exact Blk.newAt _ _ (by simp)) | (with_reducible refine Blk.drew ?_) | (with_reducible refine Blk.other ?_ (by first | (simp; done) | (simp; omega) | omega) _) | (with_reducible refine Blk.alloc ?_ _))) : Blk _ wd.heap.size 3 #[.int .i64 15, .int .i64 va, .int .i64 7]) x1 hy1x, Blk.cell (T := 3) (cs := #[.int .i64 0, .int .i64 0, .int .i64 (1 + vd)]) (by (repeat (first | (with_reducible assumption) | (with_reducible exact Blk.newAt _ _ (by simp)) | (with_reducible refine Blk.drew ?_) | (with_reducible refine Blk.other ?_ (by first | (simp; done) | (simp; omega) | omega) _) | (with_reducible refine Blk.alloc ?_ _))) : Blk _ we.heap.size 3 #[.int .i64 0, .int .i64 0, .int .i64 (1 + vd)]) x2 hy2x⟩); done
                      (try dsimp only at hHeld)
                      refine wpAnyH_take (i := 15) (v := ?_) (by rw [List.getElem?_toArray]; rfl) (by kernel_rfl) (by kernel_rfl) (by kernel_rfl) (fun _ _ _ h => h) (Or.inl ⟨by rfl, ?_⟩) (by assumption) ?_
                      rotate_left
                      focus (intro wS hSw; (try dsimp only at hSw); go_simp; (try with_reducible rfl)); done
                      (try simp only [Act.put, List.setIfInBounds_toArray, List.set_cons_zero, List.set_cons_succ])
                      refine wpAnyH_take (i := 16) (v := ?_) (by rw [List.getElem?_toArray]; rfl) (by kernel_rfl) (by kernel_rfl) (by kernel_rfl) (fun _ _ _ h => h) (Or.inl ⟨by rfl, ?_⟩) (by assumption) ?_
                      rotate_left
                      focus (intro wS hSw; (try dsimp only at hSw); go_simp; (try with_reducible rfl)); done
                      (try simp only [Act.put, List.setIfInBounds_toArray, List.set_cons_zero, List.set_cons_succ])
                      refine wpAnyH_ready (rs := [17]) (by kernel_rfl) (by simp) ?_
                      refine AllReadyH.cons (by rw [List.getElem?_toArray]; rfl) (fun K hK => ?_) AllReadyH.nil
                      go_simp
                      refine (sDeriveCap_mem w.heap.size wr.heap.size q c (some ⟨gA, aA, none⟩) ds m y1 y2 _ ((by (repeat (first | (with_reducible assumption) | (with_reducible refine Own.alloc ?_ _) | (with_reducible refine Own.drew ?_) | (with_reducible refine Own.set ?_ (by first | (simp; done) | (simp; omega) | omega) _))) : Own _ w.heap.size wr.heap.size 39 6 (some ⟨gA, aA, none⟩) q c (ents ds)).rd) (by omega) hmq).mono ?_; rintro e wf ⟨Af, mf, cf, ef, idf, okf, rfl, hmf, hof, hbf⟩; have zf := hbf.size; (try simp at zf); have hrf := Rdr.below (by (repeat (first | (with_reducible assumption) | (with_reducible refine Rdr.drew ?_) | (with_reducible refine Rdr.set ?_ (by first | (simp; done) | (simp; omega) | omega) _) | (with_reducible refine Rdr.alloc ?_ _))) : Rdr _ g (N + 80 - 6 * (p + 1) + 1 + 1 + 1 + 1 + 1 + 1)) hbf; replace hF := Fr.trans (by (repeat (first | (with_reducible assumption) | (with_reducible refine Fr.drew ?_) | (with_reducible exact Fr.refl _ _ _) | (with_reducible refine Fr.setOut ?_ (by first | (simp; done) | (simp; omega) | omega) _) | (with_reducible refine Fr.alloc ?_ _))) : Fr g (g + 1) w _) (Fr.of_below hbf g (g + 1)); have TL1 := Blk.below (by (repeat (first | (with_reducible assumption) | (with_reducible exact Blk.newAt _ _ (by simp)) | (with_reducible refine Blk.drew ?_) | (with_reducible refine Blk.other ?_ (by first | (simp; done) | (simp; omega) | omega) _) | (with_reducible refine Blk.alloc ?_ _))) : Blk _ wd.heap.size 3 #[.int .i64 15, .int .i64 va, .int .i64 7]) hbf; have TL2 := Blk.below (by (repeat (first | (with_reducible assumption) | (with_reducible exact Blk.newAt _ _ (by simp)) | (with_reducible refine Blk.drew ?_) | (with_reducible refine Blk.other ?_ (by first | (simp; done) | (simp; omega) | omega) _) | (with_reducible refine Blk.alloc ?_ _))) : Blk _ we.heap.size 3 #[.int .i64 0, .int .i64 0, .int .i64 (1 + vd)]) hbf; replace hof := Lib.hid (hof.mono (B' := w.heap.size) (T' := wf.heap.size) (by (try simp) <;> omega) (Nat.le_refl _)); clear hbf ho hre
                      refine hK.out _ _ ?_ (fun hHeld => ?_)
                      focus (first | exact trivial | ((try dsimp only); (exact ⟨Blk.cell (T := 3) (cs := #[.int .i64 15, .int .i64 va, .int .i64 7]) (by (repeat (first | (with_reducible assumption) | (with_reducible exact Blk.newAt _ _ (by simp)) | (with_reducible refine Blk.drew ?_) | (with_reducible refine Blk.other ?_ (by first | (simp; done) | (simp; omega) | omega) _) | (with_reducible refine Blk.alloc ?_ _))) : Blk _ wd.heap.size 3 #[.int .i64 15, .int .i64 va, .int .i64 7]) x1 hy1x, Blk.cell (T := 3) (cs := #[.int .i64 0, .int .i64 0, .int .i64 (1 + vd)]) (by (repeat (first | (with_reducible assumption) | (with_reducible exact Blk.newAt _ _ (by simp)) | (with_reducible refine Blk.drew ?_) | (with_reducible refine Blk.other ?_ (by first | (simp; done) | (simp; omega) | omega) _) | (with_reducible refine Blk.alloc ?_ _))) : Blk _ we.heap.size 3 #[.int .i64 0, .int .i64 0, .int .i64 (1 + vd)]) x2 hy2x⟩))); done
                      clear hK K
                      (try simp only [Act.put, List.setIfInBounds_toArray, List.set_cons_zero, List.set_cons_succ])
                      refine wpAnyH_take (i := 18) (v := ?_) (by rw [List.getElem?_toArray]; rfl) (by kernel_rfl) (by kernel_rfl) (by kernel_rfl) (fun _ _ _ h => h) (Or.inl ⟨by rfl, ?_⟩) (by assumption) ?_
                      rotate_left
                      focus (intro wS hSw; (try dsimp only at hSw); go_simp; (try with_reducible rfl)); done
                      (try simp only [Act.put, List.setIfInBounds_toArray, List.set_cons_zero, List.set_cons_succ])
                      refine wpAnyH_take (i := 19) (v := ?_) (by rw [List.getElem?_toArray]; rfl) (by kernel_rfl) (by kernel_rfl) (by kernel_rfl) (fun _ _ _ h => h) (Or.inl ⟨by rfl, ?_⟩) (by assumption) ?_
                      rotate_left
                      focus (intro wS hSw; (try dsimp only at hSw); go_simp; (try with_reducible rfl)); done
                      (try simp only [Act.put, List.setIfInBounds_toArray, List.set_cons_zero, List.set_cons_succ])
                      refine wpAnyH_take (i := 20) (v := ?_) (by rw [List.getElem?_toArray]; rfl) (by kernel_rfl) (by kernel_rfl) (by kernel_rfl) (fun _ _ _ h => h) (Or.inl ⟨by rfl, ?_⟩) (by assumption) ?_
                      rotate_left
                      focus (intro wS hSw; (try dsimp only at hSw); go_simp; (try with_reducible rfl)); done
                      (try simp only [Act.put, List.setIfInBounds_toArray, List.set_cons_zero, List.set_cons_succ])
                      refine wpAnyH_take (i := 21) (v := ?_) (by rw [List.getElem?_toArray]; rfl) (by kernel_rfl) (by kernel_rfl) (by kernel_rfl) (fun _ _ _ h => h) (Or.inl ⟨by rfl, ?_⟩) (by assumption) ?_
                      rotate_left
                      focus (intro wS hSw; (try dsimp only at hSw); go_simp; (try with_reducible rfl)); done
                      (try simp only [Act.put, List.setIfInBounds_toArray, List.set_cons_zero, List.set_cons_succ])
                      refine wpAnyH_ready (rs := [22]) (by kernel_rfl) (by simp) ?_
                      refine AllReadyH.cons (by rw [List.getElem?_toArray]; rfl) (fun K hK => ?_) AllReadyH.nil
                      go_simp
                      skip
                      refine hK.out _ _ ?_ (fun hHeld => ?_)
                      focus (first | exact trivial | ((try dsimp only); (exact ⟨Blk.cell (T := 3) (cs := #[.int .i64 15, .int .i64 va, .int .i64 7]) (by (repeat (first | (with_reducible assumption) | (with_reducible exact Blk.newAt _ _ (by simp)) | (with_reducible refine Blk.drew ?_) | (with_reducible refine Blk.other ?_ (by first | (simp; done) | (simp; omega) | omega) _) | (with_reducible refine Blk.alloc ?_ _))) : Blk _ wd.heap.size 3 #[.int .i64 15, .int .i64 va, .int .i64 7]) x1 hy1x, Blk.cell (T := 3) (cs := #[.int .i64 0, .int .i64 0, .int .i64 (1 + vd)]) (by (repeat (first | (with_reducible assumption) | (with_reducible exact Blk.newAt _ _ (by simp)) | (with_reducible refine Blk.drew ?_) | (with_reducible refine Blk.other ?_ (by first | (simp; done) | (simp; omega) | omega) _) | (with_reducible refine Blk.alloc ?_ _))) : Blk _ we.heap.size 3 #[.int .i64 0, .int .i64 0, .int .i64 (1 + vd)]) x2 hy2x⟩))); done
                      clear hK K
                      (try simp only [Act.put, List.setIfInBounds_toArray, List.set_cons_zero, List.set_cons_succ])
                      refine wpAnyH_done (by kernel_rfl) ?_ _
                      refine NoPanic.normal ?_
                      go_wp2
                      go_roundw
                      case rel => exact ⟨p, mf, cf, Af, ef, rfl, by go_num, by omega, hof.out, hrf.mono (by omega), hF⟩
                      case measure => simp [intOf]
                  · go_simp
                    skip
                    refine hK.out _ _ ?_ (fun hHeld => ?_)
                    focus (first | exact trivial | ((try dsimp only); (exact trivial))); done
                    clear hK K
                    (try simp only [Act.put, List.setIfInBounds_toArray, List.set_cons_zero, List.set_cons_succ])
                    refine wpAnyH_ready (rs := [4, 14]) (by kernel_rfl) (by simp) ?_
                    refine AllReadyH.cons (by rw [List.getElem?_toArray]; rfl) (fun K hK => ?_) (AllReadyH.cons (by rw [List.getElem?_toArray]; rfl) (fun K hK => ?_) AllReadyH.nil)
                    · go_simp
                      skip
                      refine hK.out _ _ ?_ (fun hHeld => ?_)
                      focus (first | exact trivial | ((try dsimp only); (exact trivial))); done
                      clear hK K
                      (try simp only [Act.put, List.setIfInBounds_toArray, List.set_cons_zero, List.set_cons_succ])
                      obtain ⟨x1, rfl⟩ := Int.eq_ofNat_of_zero_le hvb
                      have hlx1 : x1 < 3 := by omega
                      obtain ⟨y1, hy1x⟩ := c3t 15 va 7 hlx1
                      refine wpAnyH_to (S' := (fun W => W.cell? ⟨(wd.heap.size + 1), x1, none⟩ = some (.int .i64 y1))) (fun _ _ => trivial) ?_ (fun hHeld => ?_)
                      focus ((try dsimp only); exact Blk.cell (T := 3) (cs := #[.int .i64 15, .int .i64 va, .int .i64 7]) (by (repeat (first | (with_reducible assumption) | (with_reducible exact Blk.newAt _ _ (by simp)) | (with_reducible refine Blk.drew ?_) | (with_reducible refine Blk.other ?_ (by first | (simp; done) | (simp; omega) | omega) _) | (with_reducible refine Blk.alloc ?_ _))) : Blk _ (wd.heap.size + 1) 3 #[.int .i64 15, .int .i64 va, .int .i64 7]) x1 hy1x); done
                      (try dsimp only at hHeld)
                      refine wpAnyH_take (i := 7) (v := ?_) (by rw [List.getElem?_toArray]; rfl) (by kernel_rfl) (by kernel_rfl) (by kernel_rfl) (fun _ _ _ h => h) (Or.inl ⟨by rfl, ?_⟩) (by assumption) ?_
                      rotate_left
                      focus (intro wS hSw; (try dsimp only at hSw); go_simp; (try with_reducible rfl)); done
                      (try simp only [Act.put, List.setIfInBounds_toArray, List.set_cons_zero, List.set_cons_succ])
                      refine wpAnyH_take (i := 8) (v := ?_) (by rw [List.getElem?_toArray]; rfl) (by kernel_rfl) (by kernel_rfl) (by kernel_rfl) (fun _ _ _ h => h) (Or.inl ⟨by rfl, ?_⟩) (by assumption) ?_
                      rotate_left
                      focus (intro wS hSw; (try dsimp only at hSw); go_simp; (try with_reducible rfl)); done
                      (try simp only [Act.put, List.setIfInBounds_toArray, List.set_cons_zero, List.set_cons_succ])
                      refine wpAnyH_ready (rs := [14]) (by kernel_rfl) (by simp) ?_
                      refine AllReadyH.cons (by rw [List.getElem?_toArray]; rfl) (fun K hK => ?_) AllReadyH.nil
                      go_simp
                      refine (pick_any g (N + 80 - 6 * (p + 1) + 1 + 1 + 1 + 1 + 1) 3 _ (by (repeat (first | (with_reducible assumption) | (with_reducible refine Rdr.drew ?_) | (with_reducible refine Rdr.set ?_ (by first | (simp; done) | (simp; omega) | omega) _) | (with_reducible refine Rdr.alloc ?_ _)))) (by omega) (by omega)).mono ?_; rintro e we ⟨ve, rfl, hve, ule, -, hre, fe⟩; replace ule := ule (by omega); have ze := fe.size; (try simp at ze); replace ho := Own.fr (by (repeat (first | (with_reducible assumption) | (with_reducible refine Own.alloc ?_ _) | (with_reducible refine Own.drew ?_) | (with_reducible refine Own.set ?_ (by first | (simp; done) | (simp; omega) | omega) _))) : Own _ w.heap.size wr.heap.size 39 6 (some ⟨gA, aA, none⟩) q c (ents ds)) fe (.inr (by omega)); have TL1 := Blk.fr (by (repeat (first | (with_reducible assumption) | (with_reducible exact Blk.newAt _ _ (by simp)) | (with_reducible refine Blk.drew ?_) | (with_reducible refine Blk.other ?_ (by first | (simp; done) | (simp; omega) | omega) _) | (with_reducible refine Blk.alloc ?_ _))) : Blk _ (wd.heap.size + 1) 3 #[.int .i64 15, .int .i64 va, .int .i64 7]) fe (.inr (by omega)); have TL2 := Blk.fr (by (repeat (first | (with_reducible assumption) | (with_reducible exact Blk.newAt _ _ (by simp)) | (with_reducible refine Blk.drew ?_) | (with_reducible refine Blk.other ?_ (by first | (simp; done) | (simp; omega) | omega) _) | (with_reducible refine Blk.alloc ?_ _))) : Blk _ wd.heap.size 3 #[.int .i64 0, .int .i64 0, .int .i64 (1 + vd)]) fe (.inr (by omega)); replace hF := Fr.trans (by (repeat (first | (with_reducible assumption) | (with_reducible refine Fr.drew ?_) | (with_reducible exact Fr.refl _ _ _) | (with_reducible refine Fr.setOut ?_ (by first | (simp; done) | (simp; omega) | omega) _) | (with_reducible refine Fr.alloc ?_ _))) : Fr g (g + 1) w _) fe; have lte := hre.lt; clear fe hrd
                      refine hK.out _ _ ?_ (fun hHeld => ?_)
                      focus (first | exact trivial | ((try dsimp only); (exact Blk.cell (T := 3) (cs := #[.int .i64 15, .int .i64 va, .int .i64 7]) (by (repeat (first | (with_reducible assumption) | (with_reducible exact Blk.newAt _ _ (by simp)) | (with_reducible refine Blk.drew ?_) | (with_reducible refine Blk.other ?_ (by first | (simp; done) | (simp; omega) | omega) _) | (with_reducible refine Blk.alloc ?_ _))) : Blk _ (wd.heap.size + 1) 3 #[.int .i64 15, .int .i64 va, .int .i64 7]) x1 hy1x))); done
                      clear hK K
                      (try simp only [Act.put, List.setIfInBounds_toArray, List.set_cons_zero, List.set_cons_succ])
                      obtain ⟨x2, rfl⟩ := Int.eq_ofNat_of_zero_le hve
                      have hlx2 : x2 < 3 := by omega
                      obtain ⟨y2, hy2x⟩ := c3t 0 0 (1 + vd) hlx2
                      refine wpAnyH_to (S' := (fun W => W.cell? ⟨(wd.heap.size + 1), x1, none⟩ = some (.int .i64 y1) ∧ W.cell? ⟨wd.heap.size, x2, none⟩ = some (.int .i64 y2))) (fun _ h => h.1) ?_ (fun hHeld => ?_)
                      focus ((try dsimp only); exact ⟨Blk.cell (T := 3) (cs := #[.int .i64 15, .int .i64 va, .int .i64 7]) (by (repeat (first | (with_reducible assumption) | (with_reducible exact Blk.newAt _ _ (by simp)) | (with_reducible refine Blk.drew ?_) | (with_reducible refine Blk.other ?_ (by first | (simp; done) | (simp; omega) | omega) _) | (with_reducible refine Blk.alloc ?_ _))) : Blk _ (wd.heap.size + 1) 3 #[.int .i64 15, .int .i64 va, .int .i64 7]) x1 hy1x, Blk.cell (T := 3) (cs := #[.int .i64 0, .int .i64 0, .int .i64 (1 + vd)]) (by (repeat (first | (with_reducible assumption) | (with_reducible exact Blk.newAt _ _ (by simp)) | (with_reducible refine Blk.drew ?_) | (with_reducible refine Blk.other ?_ (by first | (simp; done) | (simp; omega) | omega) _) | (with_reducible refine Blk.alloc ?_ _))) : Blk _ wd.heap.size 3 #[.int .i64 0, .int .i64 0, .int .i64 (1 + vd)]) x2 hy2x⟩); done
                      (try dsimp only at hHeld)
                      refine wpAnyH_take (i := 15) (v := ?_) (by rw [List.getElem?_toArray]; rfl) (by kernel_rfl) (by kernel_rfl) (by kernel_rfl) (fun _ _ _ h => h) (Or.inl ⟨by rfl, ?_⟩) (by assumption) ?_
                      rotate_left
                      focus (intro wS hSw; (try dsimp only at hSw); go_simp; (try with_reducible rfl)); done
                      (try simp only [Act.put, List.setIfInBounds_toArray, List.set_cons_zero, List.set_cons_succ])
                      refine wpAnyH_take (i := 16) (v := ?_) (by rw [List.getElem?_toArray]; rfl) (by kernel_rfl) (by kernel_rfl) (by kernel_rfl) (fun _ _ _ h => h) (Or.inl ⟨by rfl, ?_⟩) (by assumption) ?_
                      rotate_left
                      focus (intro wS hSw; (try dsimp only at hSw); go_simp; (try with_reducible rfl)); done
                      (try simp only [Act.put, List.setIfInBounds_toArray, List.set_cons_zero, List.set_cons_succ])
                      refine wpAnyH_ready (rs := [17]) (by kernel_rfl) (by simp) ?_
                      refine AllReadyH.cons (by rw [List.getElem?_toArray]; rfl) (fun K hK => ?_) AllReadyH.nil
                      go_simp
                      refine (sDeriveCap_mem w.heap.size wr.heap.size q c (some ⟨gA, aA, none⟩) ds m y1 y2 _ ((by (repeat (first | (with_reducible assumption) | (with_reducible refine Own.alloc ?_ _) | (with_reducible refine Own.drew ?_) | (with_reducible refine Own.set ?_ (by first | (simp; done) | (simp; omega) | omega) _))) : Own _ w.heap.size wr.heap.size 39 6 (some ⟨gA, aA, none⟩) q c (ents ds)).rd) (by omega) hmq).mono ?_; rintro e wf ⟨Af, mf, cf, ef, idf, okf, rfl, hmf, hof, hbf⟩; have zf := hbf.size; (try simp at zf); have hrf := Rdr.below (by (repeat (first | (with_reducible assumption) | (with_reducible refine Rdr.drew ?_) | (with_reducible refine Rdr.set ?_ (by first | (simp; done) | (simp; omega) | omega) _) | (with_reducible refine Rdr.alloc ?_ _))) : Rdr _ g (N + 80 - 6 * (p + 1) + 1 + 1 + 1 + 1 + 1 + 1)) hbf; replace hF := Fr.trans (by (repeat (first | (with_reducible assumption) | (with_reducible refine Fr.drew ?_) | (with_reducible exact Fr.refl _ _ _) | (with_reducible refine Fr.setOut ?_ (by first | (simp; done) | (simp; omega) | omega) _) | (with_reducible refine Fr.alloc ?_ _))) : Fr g (g + 1) w _) (Fr.of_below hbf g (g + 1)); have TL1 := Blk.below (by (repeat (first | (with_reducible assumption) | (with_reducible exact Blk.newAt _ _ (by simp)) | (with_reducible refine Blk.drew ?_) | (with_reducible refine Blk.other ?_ (by first | (simp; done) | (simp; omega) | omega) _) | (with_reducible refine Blk.alloc ?_ _))) : Blk _ (wd.heap.size + 1) 3 #[.int .i64 15, .int .i64 va, .int .i64 7]) hbf; have TL2 := Blk.below (by (repeat (first | (with_reducible assumption) | (with_reducible exact Blk.newAt _ _ (by simp)) | (with_reducible refine Blk.drew ?_) | (with_reducible refine Blk.other ?_ (by first | (simp; done) | (simp; omega) | omega) _) | (with_reducible refine Blk.alloc ?_ _))) : Blk _ wd.heap.size 3 #[.int .i64 0, .int .i64 0, .int .i64 (1 + vd)]) hbf; replace hof := Lib.hid (hof.mono (B' := w.heap.size) (T' := wf.heap.size) (by (try simp) <;> omega) (Nat.le_refl _)); clear hbf ho hre
                      refine hK.out _ _ ?_ (fun hHeld => ?_)
                      focus (first | exact trivial | ((try dsimp only); (exact ⟨Blk.cell (T := 3) (cs := #[.int .i64 15, .int .i64 va, .int .i64 7]) (by (repeat (first | (with_reducible assumption) | (with_reducible exact Blk.newAt _ _ (by simp)) | (with_reducible refine Blk.drew ?_) | (with_reducible refine Blk.other ?_ (by first | (simp; done) | (simp; omega) | omega) _) | (with_reducible refine Blk.alloc ?_ _))) : Blk _ (wd.heap.size + 1) 3 #[.int .i64 15, .int .i64 va, .int .i64 7]) x1 hy1x, Blk.cell (T := 3) (cs := #[.int .i64 0, .int .i64 0, .int .i64 (1 + vd)]) (by (repeat (first | (with_reducible assumption) | (with_reducible exact Blk.newAt _ _ (by simp)) | (with_reducible refine Blk.drew ?_) | (with_reducible refine Blk.other ?_ (by first | (simp; done) | (simp; omega) | omega) _) | (with_reducible refine Blk.alloc ?_ _))) : Blk _ wd.heap.size 3 #[.int .i64 0, .int .i64 0, .int .i64 (1 + vd)]) x2 hy2x⟩))); done
                      clear hK K
                      (try simp only [Act.put, List.setIfInBounds_toArray, List.set_cons_zero, List.set_cons_succ])
                      refine wpAnyH_take (i := 18) (v := ?_) (by rw [List.getElem?_toArray]; rfl) (by kernel_rfl) (by kernel_rfl) (by kernel_rfl) (fun _ _ _ h => h) (Or.inl ⟨by rfl, ?_⟩) (by assumption) ?_
                      rotate_left
                      focus (intro wS hSw; (try dsimp only at hSw); go_simp; (try with_reducible rfl)); done
                      (try simp only [Act.put, List.setIfInBounds_toArray, List.set_cons_zero, List.set_cons_succ])
                      refine wpAnyH_take (i := 19) (v := ?_) (by rw [List.getElem?_toArray]; rfl) (by kernel_rfl) (by kernel_rfl) (by kernel_rfl) (fun _ _ _ h => h) (Or.inl ⟨by rfl, ?_⟩) (by assumption) ?_
                      rotate_left
                      focus (intro wS hSw; (try dsimp only at hSw); go_simp; (try with_reducible rfl)); done
                      (try simp only [Act.put, List.setIfInBounds_toArray, List.set_cons_zero, List.set_cons_succ])
                      refine wpAnyH_take (i := 20) (v := ?_) (by rw [List.getElem?_toArray]; rfl) (by kernel_rfl) (by kernel_rfl) (by kernel_rfl) (fun _ _ _ h => h) (Or.inl ⟨by rfl, ?_⟩) (by assumption) ?_
                      rotate_left
                      focus (intro wS hSw; (try dsimp only at hSw); go_simp; (try with_reducible rfl)); done
                      (try simp only [Act.put, List.setIfInBounds_toArray, List.set_cons_zero, List.set_cons_succ])
                      refine wpAnyH_take (i := 21) (v := ?_) (by rw [List.getElem?_toArray]; rfl) (by kernel_rfl) (by kernel_rfl) (by kernel_rfl) (fun _ _ _ h => h) (Or.inl ⟨by rfl, ?_⟩) (by assumption) ?_
                      rotate_left
                      focus (intro wS hSw; (try dsimp only at hSw); go_simp; (try with_reducible rfl)); done
                      (try simp only [Act.put, List.setIfInBounds_toArray, List.set_cons_zero, List.set_cons_succ])
                      refine wpAnyH_ready (rs := [22]) (by kernel_rfl) (by simp) ?_
                      refine AllReadyH.cons (by rw [List.getElem?_toArray]; rfl) (fun K hK => ?_) AllReadyH.nil
                      go_simp
                      skip
                      refine hK.out _ _ ?_ (fun hHeld => ?_)
                      focus (first | exact trivial | ((try dsimp only); (exact ⟨Blk.cell (T := 3) (cs := #[.int .i64 15, .int .i64 va, .int .i64 7]) (by (repeat (first | (with_reducible assumption) | (with_reducible exact Blk.newAt _ _ (by simp)) | (with_reducible refine Blk.drew ?_) | (with_reducible refine Blk.other ?_ (by first | (simp; done) | (simp; omega) | omega) _) | (with_reducible refine Blk.alloc ?_ _))) : Blk _ (wd.heap.size + 1) 3 #[.int .i64 15, .int .i64 va, .int .i64 7]) x1 hy1x, Blk.cell (T := 3) (cs := #[.int .i64 0, .int .i64 0, .int .i64 (1 + vd)]) (by (repeat (first | (with_reducible assumption) | (with_reducible exact Blk.newAt _ _ (by simp)) | (with_reducible refine Blk.drew ?_) | (with_reducible refine Blk.other ?_ (by first | (simp; done) | (simp; omega) | omega) _) | (with_reducible refine Blk.alloc ?_ _))) : Blk _ wd.heap.size 3 #[.int .i64 0, .int .i64 0, .int .i64 (1 + vd)]) x2 hy2x⟩))); done
                      clear hK K
                      (try simp only [Act.put, List.setIfInBounds_toArray, List.set_cons_zero, List.set_cons_succ])
                      refine wpAnyH_done (by kernel_rfl) ?_ _
                      refine NoPanic.normal ?_
                      go_wp2
                      go_roundw
                      case rel => exact ⟨p, mf, cf, Af, ef, rfl, by go_num, by omega, hof.out, hrf.mono (by omega), hF⟩
                      case measure => simp [intOf]
                    · go_simp
                      refine (pick_any g (N + 80 - 6 * (p + 1) + 1 + 1 + 1 + 1 + 1) 3 _ (by (repeat (first | (with_reducible assumption) | (with_reducible refine Rdr.drew ?_) | (with_reducible refine Rdr.set ?_ (by first | (simp; done) | (simp; omega) | omega) _) | (with_reducible refine Rdr.alloc ?_ _)))) (by omega) (by omega)).mono ?_; rintro e we ⟨ve, rfl, hve, ule, -, hre, fe⟩; replace ule := ule (by omega); have ze := fe.size; (try simp at ze); replace ho := Own.fr (by (repeat (first | (with_reducible assumption) | (with_reducible refine Own.alloc ?_ _) | (with_reducible refine Own.drew ?_) | (with_reducible refine Own.set ?_ (by first | (simp; done) | (simp; omega) | omega) _))) : Own _ w.heap.size wr.heap.size 39 6 (some ⟨gA, aA, none⟩) q c (ents ds)) fe (.inr (by omega)); have TL2 := Blk.fr (by (repeat (first | (with_reducible assumption) | (with_reducible exact Blk.newAt _ _ (by simp)) | (with_reducible refine Blk.drew ?_) | (with_reducible refine Blk.other ?_ (by first | (simp; done) | (simp; omega) | omega) _) | (with_reducible refine Blk.alloc ?_ _))) : Blk _ wd.heap.size 3 #[.int .i64 0, .int .i64 0, .int .i64 (1 + vd)]) fe (.inr (by omega)); replace hF := Fr.trans (by (repeat (first | (with_reducible assumption) | (with_reducible refine Fr.drew ?_) | (with_reducible exact Fr.refl _ _ _) | (with_reducible refine Fr.setOut ?_ (by first | (simp; done) | (simp; omega) | omega) _) | (with_reducible refine Fr.alloc ?_ _))) : Fr g (g + 1) w _) fe; have lte := hre.lt; clear fe hrd
                      refine hK.out _ _ ?_ (fun hHeld => ?_)
                      focus (first | exact trivial | ((try dsimp only); (exact trivial))); done
                      clear hK K
                      (try simp only [Act.put, List.setIfInBounds_toArray, List.set_cons_zero, List.set_cons_succ])
                      obtain ⟨x2, rfl⟩ := Int.eq_ofNat_of_zero_le hve
                      have hlx2 : x2 < 3 := by omega
                      obtain ⟨y2, hy2x⟩ := c3t 0 0 (1 + vd) hlx2
                      refine wpAnyH_to (S' := (fun W => W.cell? ⟨wd.heap.size, x2, none⟩ = some (.int .i64 y2))) (fun _ _ => trivial) ?_ (fun hHeld => ?_)
                      focus ((try dsimp only); exact Blk.cell (T := 3) (cs := #[.int .i64 0, .int .i64 0, .int .i64 (1 + vd)]) (by (repeat (first | (with_reducible assumption) | (with_reducible exact Blk.newAt _ _ (by simp)) | (with_reducible refine Blk.drew ?_) | (with_reducible refine Blk.other ?_ (by first | (simp; done) | (simp; omega) | omega) _) | (with_reducible refine Blk.alloc ?_ _))) : Blk _ wd.heap.size 3 #[.int .i64 0, .int .i64 0, .int .i64 (1 + vd)]) x2 hy2x); done
                      (try dsimp only at hHeld)
                      refine wpAnyH_take (i := 15) (v := ?_) (by rw [List.getElem?_toArray]; rfl) (by kernel_rfl) (by kernel_rfl) (by kernel_rfl) (fun _ _ _ h => h) (Or.inl ⟨by rfl, ?_⟩) (by assumption) ?_
                      rotate_left
                      focus (intro wS hSw; (try dsimp only at hSw); go_simp; (try with_reducible rfl)); done
                      (try simp only [Act.put, List.setIfInBounds_toArray, List.set_cons_zero, List.set_cons_succ])
                      refine wpAnyH_take (i := 16) (v := ?_) (by rw [List.getElem?_toArray]; rfl) (by kernel_rfl) (by kernel_rfl) (by kernel_rfl) (fun _ _ _ h => h) (Or.inl ⟨by rfl, ?_⟩) (by assumption) ?_
                      rotate_left
                      focus (intro wS hSw; (try dsimp only at hSw); go_simp; (try with_reducible rfl)); done
                      (try simp only [Act.put, List.setIfInBounds_toArray, List.set_cons_zero, List.set_cons_succ])
                      refine wpAnyH_ready (rs := [4]) (by kernel_rfl) (by simp) ?_
                      refine AllReadyH.cons (by rw [List.getElem?_toArray]; rfl) (fun K hK => ?_) AllReadyH.nil
                      go_simp
                      skip
                      refine hK.out _ _ ?_ (fun hHeld => ?_)
                      focus (first | exact trivial | ((try dsimp only); (exact Blk.cell (T := 3) (cs := #[.int .i64 0, .int .i64 0, .int .i64 (1 + vd)]) (by (repeat (first | (with_reducible assumption) | (with_reducible exact Blk.newAt _ _ (by simp)) | (with_reducible refine Blk.drew ?_) | (with_reducible refine Blk.other ?_ (by first | (simp; done) | (simp; omega) | omega) _) | (with_reducible refine Blk.alloc ?_ _))) : Blk _ wd.heap.size 3 #[.int .i64 0, .int .i64 0, .int .i64 (1 + vd)]) x2 hy2x))); done
                      clear hK K
                      (try simp only [Act.put, List.setIfInBounds_toArray, List.set_cons_zero, List.set_cons_succ])
                      obtain ⟨x1, rfl⟩ := Int.eq_ofNat_of_zero_le hvb
                      have hlx1 : x1 < 3 := by omega
                      obtain ⟨y1, hy1x⟩ := c3t 15 va 7 hlx1
                      refine wpAnyH_to (S' := (fun W => W.cell? ⟨we.heap.size, x1, none⟩ = some (.int .i64 y1) ∧ W.cell? ⟨wd.heap.size, x2, none⟩ = some (.int .i64 y2))) (fun _ h => h.2) ?_ (fun hHeld => ?_)
                      focus ((try dsimp only); exact ⟨Blk.cell (T := 3) (cs := #[.int .i64 15, .int .i64 va, .int .i64 7]) (by (repeat (first | (with_reducible assumption) | (with_reducible exact Blk.newAt _ _ (by simp)) | (with_reducible refine Blk.drew ?_) | (with_reducible refine Blk.other ?_ (by first | (simp; done) | (simp; omega) | omega) _) | (with_reducible refine Blk.alloc ?_ _))) : Blk _ we.heap.size 3 #[.int .i64 15, .int .i64 va, .int .i64 7]) x1 hy1x, Blk.cell (T := 3) (cs := #[.int .i64 0, .int .i64 0, .int .i64 (1 + vd)]) (by (repeat (first | (with_reducible assumption) | (with_reducible exact Blk.newAt _ _ (by simp)) | (with_reducible refine Blk.drew ?_) | (with_reducible refine Blk.other ?_ (by first | (simp; done) | (simp; omega) | omega) _) | (with_reducible refine Blk.alloc ?_ _))) : Blk _ wd.heap.size 3 #[.int .i64 0, .int .i64 0, .int .i64 (1 + vd)]) x2 hy2x⟩); done
                      (try dsimp only at hHeld)
                      refine wpAnyH_take (i := 7) (v := ?_) (by rw [List.getElem?_toArray]; rfl) (by kernel_rfl) (by kernel_rfl) (by kernel_rfl) (fun _ _ _ h => h) (Or.inl ⟨by rfl, ?_⟩) (by assumption) ?_
                      rotate_left
                      focus (intro wS hSw; (try dsimp only at hSw); go_simp; (try with_reducible rfl)); done
                      (try simp only [Act.put, List.setIfInBounds_toArray, List.set_cons_zero, List.set_cons_succ])
                      refine wpAnyH_take (i := 8) (v := ?_) (by rw [List.getElem?_toArray]; rfl) (by kernel_rfl) (by kernel_rfl) (by kernel_rfl) (fun _ _ _ h => h) (Or.inl ⟨by rfl, ?_⟩) (by assumption) ?_
                      rotate_left
                      focus (intro wS hSw; (try dsimp only at hSw); go_simp; (try with_reducible rfl)); done
                      (try simp only [Act.put, List.setIfInBounds_toArray, List.set_cons_zero, List.set_cons_succ])
                      refine wpAnyH_ready (rs := [17]) (by kernel_rfl) (by simp) ?_
                      refine AllReadyH.cons (by rw [List.getElem?_toArray]; rfl) (fun K hK => ?_) AllReadyH.nil
                      go_simp
                      refine (sDeriveCap_mem w.heap.size wr.heap.size q c (some ⟨gA, aA, none⟩) ds m y1 y2 _ ((by (repeat (first | (with_reducible assumption) | (with_reducible refine Own.alloc ?_ _) | (with_reducible refine Own.drew ?_) | (with_reducible refine Own.set ?_ (by first | (simp; done) | (simp; omega) | omega) _))) : Own _ w.heap.size wr.heap.size 39 6 (some ⟨gA, aA, none⟩) q c (ents ds)).rd) (by omega) hmq).mono ?_; rintro e wf ⟨Af, mf, cf, ef, idf, okf, rfl, hmf, hof, hbf⟩; have zf := hbf.size; (try simp at zf); have hrf := Rdr.below (by (repeat (first | (with_reducible assumption) | (with_reducible refine Rdr.drew ?_) | (with_reducible refine Rdr.set ?_ (by first | (simp; done) | (simp; omega) | omega) _) | (with_reducible refine Rdr.alloc ?_ _))) : Rdr _ g (N + 80 - 6 * (p + 1) + 1 + 1 + 1 + 1 + 1 + 1)) hbf; replace hF := Fr.trans (by (repeat (first | (with_reducible assumption) | (with_reducible refine Fr.drew ?_) | (with_reducible exact Fr.refl _ _ _) | (with_reducible refine Fr.setOut ?_ (by first | (simp; done) | (simp; omega) | omega) _) | (with_reducible refine Fr.alloc ?_ _))) : Fr g (g + 1) w _) (Fr.of_below hbf g (g + 1)); have TL1 := Blk.below (by (repeat (first | (with_reducible assumption) | (with_reducible exact Blk.newAt _ _ (by simp)) | (with_reducible refine Blk.drew ?_) | (with_reducible refine Blk.other ?_ (by first | (simp; done) | (simp; omega) | omega) _) | (with_reducible refine Blk.alloc ?_ _))) : Blk _ we.heap.size 3 #[.int .i64 15, .int .i64 va, .int .i64 7]) hbf; have TL2 := Blk.below (by (repeat (first | (with_reducible assumption) | (with_reducible exact Blk.newAt _ _ (by simp)) | (with_reducible refine Blk.drew ?_) | (with_reducible refine Blk.other ?_ (by first | (simp; done) | (simp; omega) | omega) _) | (with_reducible refine Blk.alloc ?_ _))) : Blk _ wd.heap.size 3 #[.int .i64 0, .int .i64 0, .int .i64 (1 + vd)]) hbf; replace hof := Lib.hid (hof.mono (B' := w.heap.size) (T' := wf.heap.size) (by (try simp) <;> omega) (Nat.le_refl _)); clear hbf ho hre
                      refine hK.out _ _ ?_ (fun hHeld => ?_)
                      focus (first | exact trivial | ((try dsimp only); (exact ⟨Blk.cell (T := 3) (cs := #[.int .i64 15, .int .i64 va, .int .i64 7]) (by (repeat (first | (with_reducible assumption) | (with_reducible exact Blk.newAt _ _ (by simp)) | (with_reducible refine Blk.drew ?_) | (with_reducible refine Blk.other ?_ (by first | (simp; done) | (simp; omega) | omega) _) | (with_reducible refine Blk.alloc ?_ _))) : Blk _ we.heap.size 3 #[.int .i64 15, .int .i64 va, .int .i64 7]) x1 hy1x, Blk.cell (T := 3) (cs := #[.int .i64 0, .int .i64 0, .int .i64 (1 + vd)]) (by (repeat (first | (with_reducible assumption) | (with_reducible exact Blk.newAt _ _ (by simp)) | (with_reducible refine Blk.drew ?_) | (with_reducible refine Blk.other ?_ (by first | (simp; done) | (simp; omega) | omega) _) | (with_reducible refine Blk.alloc ?_ _))) : Blk _ wd.heap.size 3 #[.int .i64 0, .int .i64 0, .int .i64 (1 + vd)]) x2 hy2x⟩))); done
                      clear hK K
                      (try simp only [Act.put, List.setIfInBounds_toArray, List.set_cons_zero, List.set_cons_succ])
                      refine wpAnyH_take (i := 18) (v := ?_) (by rw [List.getElem?_toArray]; rfl) (by kernel_rfl) (by kernel_rfl) (by kernel_rfl) (fun _ _ _ h => h) (Or.inl ⟨by rfl, ?_⟩) (by assumption) ?_
                      rotate_left
                      focus (intro wS hSw; (try dsimp only at hSw); go_simp; (try with_reducible rfl)); done
                      (try simp only [Act.put, List.setIfInBounds_toArray, List.set_cons_zero, List.set_cons_succ])
                      refine wpAnyH_take (i := 19) (v := ?_) (by rw [List.getElem?_toArray]; rfl) (by kernel_rfl) (by kernel_rfl) (by kernel_rfl) (fun _ _ _ h => h) (Or.inl ⟨by rfl, ?_⟩) (by assumption) ?_
                      rotate_left
                      focus (intro wS hSw; (try dsimp only at hSw); go_simp; (try with_reducible rfl)); done
                      (try simp only [Act.put, List.setIfInBounds_toArray, List.set_cons_zero, List.set_cons_succ])
                      refine wpAnyH_take (i := 20) (v := ?_) (by rw [List.getElem?_toArray]; rfl) (by kernel_rfl) (by kernel_rfl) (by kernel_rfl) (fun _ _ _ h => h) (Or.inl ⟨by rfl, ?_⟩) (by assumption) ?_
                      rotate_left
                      focus (intro wS hSw; (try dsimp only at hSw); go_simp; (try with_reducible rfl)); done
                      (try simp only [Act.put, List.setIfInBounds_toArray, List.set_cons_zero, List.set_cons_succ])
                      refine wpAnyH_take (i := 21) (v := ?_) (by rw [List.getElem?_toArray]; rfl) (by kernel_rfl) (by kernel_rfl) (by kernel_rfl) (fun _ _ _ h => h) (Or.inl ⟨by rfl, ?_⟩) (by assumption) ?_
                      rotate_left
                      focus (intro wS hSw; (try dsimp only at hSw); go_simp; (try with_reducible rfl)); done
                      (try simp only [Act.put, List.setIfInBounds_toArray, List.set_cons_zero, List.set_cons_succ])
                      refine wpAnyH_ready (rs := [22]) (by kernel_rfl) (by simp) ?_
                      refine AllReadyH.cons (by rw [List.getElem?_toArray]; rfl) (fun K hK => ?_) AllReadyH.nil
                      go_simp
                      skip
                      refine hK.out _ _ ?_ (fun hHeld => ?_)
                      focus (first | exact trivial | ((try dsimp only); (exact ⟨Blk.cell (T := 3) (cs := #[.int .i64 15, .int .i64 va, .int .i64 7]) (by (repeat (first | (with_reducible assumption) | (with_reducible exact Blk.newAt _ _ (by simp)) | (with_reducible refine Blk.drew ?_) | (with_reducible refine Blk.other ?_ (by first | (simp; done) | (simp; omega) | omega) _) | (with_reducible refine Blk.alloc ?_ _))) : Blk _ we.heap.size 3 #[.int .i64 15, .int .i64 va, .int .i64 7]) x1 hy1x, Blk.cell (T := 3) (cs := #[.int .i64 0, .int .i64 0, .int .i64 (1 + vd)]) (by (repeat (first | (with_reducible assumption) | (with_reducible exact Blk.newAt _ _ (by simp)) | (with_reducible refine Blk.drew ?_) | (with_reducible refine Blk.other ?_ (by first | (simp; done) | (simp; omega) | omega) _) | (with_reducible refine Blk.alloc ?_ _))) : Blk _ wd.heap.size 3 #[.int .i64 0, .int .i64 0, .int .i64 (1 + vd)]) x2 hy2x⟩))); done
                      clear hK K
                      (try simp only [Act.put, List.setIfInBounds_toArray, List.set_cons_zero, List.set_cons_succ])
                      refine wpAnyH_done (by kernel_rfl) ?_ _
                      refine NoPanic.normal ?_
                      go_wp2
                      go_roundw
                      case rel => exact ⟨p, mf, cf, Af, ef, rfl, by go_num, by omega, hof.out, hrf.mono (by omega), hF⟩
                      case measure => simp [intOf]
                  · go_simp
                    refine (pick_any g (N + 80 - 6 * (p + 1) + 1 + 1 + 1 + 1 + 1) 3 _ (by (repeat (first | (with_reducible assumption) | (with_reducible refine Rdr.drew ?_) | (with_reducible refine Rdr.set ?_ (by first | (simp; done) | (simp; omega) | omega) _) | (with_reducible refine Rdr.alloc ?_ _)))) (by omega) (by omega)).mono ?_; rintro e we ⟨ve, rfl, hve, ule, -, hre, fe⟩; replace ule := ule (by omega); have ze := fe.size; (try simp at ze); replace ho := Own.fr (by (repeat (first | (with_reducible assumption) | (with_reducible refine Own.alloc ?_ _) | (with_reducible refine Own.drew ?_) | (with_reducible refine Own.set ?_ (by first | (simp; done) | (simp; omega) | omega) _))) : Own _ w.heap.size wr.heap.size 39 6 (some ⟨gA, aA, none⟩) q c (ents ds)) fe (.inr (by omega)); replace hF := Fr.trans (by (repeat (first | (with_reducible assumption) | (with_reducible refine Fr.drew ?_) | (with_reducible exact Fr.refl _ _ _) | (with_reducible refine Fr.setOut ?_ (by first | (simp; done) | (simp; omega) | omega) _) | (with_reducible refine Fr.alloc ?_ _))) : Fr g (g + 1) w _) fe; have lte := hre.lt; clear fe hrd
                    refine hK.out _ _ ?_ (fun hHeld => ?_)
                    focus (first | exact trivial | ((try dsimp only); (exact trivial))); done
                    clear hK K
                    (try simp only [Act.put, List.setIfInBounds_toArray, List.set_cons_zero, List.set_cons_succ])
                    refine wpAnyH_ready (rs := [4, 12]) (by kernel_rfl) (by simp) ?_
                    refine AllReadyH.cons (by rw [List.getElem?_toArray]; rfl) (fun K hK => ?_) (AllReadyH.cons (by rw [List.getElem?_toArray]; rfl) (fun K hK => ?_) AllReadyH.nil)
                    · go_simp
                      skip
                      refine hK.out _ _ ?_ (fun hHeld => ?_)
                      focus (first | exact trivial | ((try dsimp only); (exact trivial))); done
                      clear hK K
                      (try simp only [Act.put, List.setIfInBounds_toArray, List.set_cons_zero, List.set_cons_succ])
                      obtain ⟨x1, rfl⟩ := Int.eq_ofNat_of_zero_le hvb
                      have hlx1 : x1 < 3 := by omega
                      obtain ⟨y1, hy1x⟩ := c3t 15 va 7 hlx1
                      refine wpAnyH_to (S' := (fun W => W.cell? ⟨we.heap.size, x1, none⟩ = some (.int .i64 y1))) (fun _ _ => trivial) ?_ (fun hHeld => ?_)
                      focus ((try dsimp only); exact Blk.cell (T := 3) (cs := #[.int .i64 15, .int .i64 va, .int .i64 7]) (by (repeat (first | (with_reducible assumption) | (with_reducible exact Blk.newAt _ _ (by simp)) | (with_reducible refine Blk.drew ?_) | (with_reducible refine Blk.other ?_ (by first | (simp; done) | (simp; omega) | omega) _) | (with_reducible refine Blk.alloc ?_ _))) : Blk _ we.heap.size 3 #[.int .i64 15, .int .i64 va, .int .i64 7]) x1 hy1x); done
                      (try dsimp only at hHeld)
                      refine wpAnyH_take (i := 7) (v := ?_) (by rw [List.getElem?_toArray]; rfl) (by kernel_rfl) (by kernel_rfl) (by kernel_rfl) (fun _ _ _ h => h) (Or.inl ⟨by rfl, ?_⟩) (by assumption) ?_
                      rotate_left
                      focus (intro wS hSw; (try dsimp only at hSw); go_simp; (try with_reducible rfl)); done
                      (try simp only [Act.put, List.setIfInBounds_toArray, List.set_cons_zero, List.set_cons_succ])
                      refine wpAnyH_take (i := 8) (v := ?_) (by rw [List.getElem?_toArray]; rfl) (by kernel_rfl) (by kernel_rfl) (by kernel_rfl) (fun _ _ _ h => h) (Or.inl ⟨by rfl, ?_⟩) (by assumption) ?_
                      rotate_left
                      focus (intro wS hSw; (try dsimp only at hSw); go_simp; (try with_reducible rfl)); done
                      (try simp only [Act.put, List.setIfInBounds_toArray, List.set_cons_zero, List.set_cons_succ])
                      refine wpAnyH_ready (rs := [12]) (by kernel_rfl) (by simp) ?_
                      refine AllReadyH.cons (by rw [List.getElem?_toArray]; rfl) (fun K hK => ?_) AllReadyH.nil
                      go_simp
                      skip
                      refine hK.out _ _ ?_ (fun hHeld => ?_)
                      focus (first | exact trivial | ((try dsimp only); (exact Blk.cell (T := 3) (cs := #[.int .i64 15, .int .i64 va, .int .i64 7]) (by (repeat (first | (with_reducible assumption) | (with_reducible exact Blk.newAt _ _ (by simp)) | (with_reducible refine Blk.drew ?_) | (with_reducible refine Blk.other ?_ (by first | (simp; done) | (simp; omega) | omega) _) | (with_reducible refine Blk.alloc ?_ _))) : Blk _ we.heap.size 3 #[.int .i64 15, .int .i64 va, .int .i64 7]) x1 hy1x))); done
                      clear hK K
                      (try simp only [Act.put, List.setIfInBounds_toArray, List.set_cons_zero, List.set_cons_succ])
                      obtain ⟨x2, rfl⟩ := Int.eq_ofNat_of_zero_le hve
                      have hlx2 : x2 < 3 := by omega
                      obtain ⟨y2, hy2x⟩ := c3t 0 0 (1 + vd) hlx2
                      refine wpAnyH_to (S' := (fun W => W.cell? ⟨we.heap.size, x1, none⟩ = some (.int .i64 y1) ∧ W.cell? ⟨(we.heap.size + 1), x2, none⟩ = some (.int .i64 y2))) (fun _ h => h.1) ?_ (fun hHeld => ?_)
                      focus ((try dsimp only); exact ⟨Blk.cell (T := 3) (cs := #[.int .i64 15, .int .i64 va, .int .i64 7]) (by (repeat (first | (with_reducible assumption) | (with_reducible exact Blk.newAt _ _ (by simp)) | (with_reducible refine Blk.drew ?_) | (with_reducible refine Blk.other ?_ (by first | (simp; done) | (simp; omega) | omega) _) | (with_reducible refine Blk.alloc ?_ _))) : Blk _ we.heap.size 3 #[.int .i64 15, .int .i64 va, .int .i64 7]) x1 hy1x, Blk.cell (T := 3) (cs := #[.int .i64 0, .int .i64 0, .int .i64 (1 + vd)]) (by (repeat (first | (with_reducible assumption) | (with_reducible exact Blk.newAt _ _ (by simp)) | (with_reducible refine Blk.drew ?_) | (with_reducible refine Blk.other ?_ (by first | (simp; done) | (simp; omega) | omega) _) | (with_reducible refine Blk.alloc ?_ _))) : Blk _ (we.heap.size + 1) 3 #[.int .i64 0, .int .i64 0, .int .i64 (1 + vd)]) x2 hy2x⟩); done
                      (try dsimp only at hHeld)
                      refine wpAnyH_take (i := 15) (v := ?_) (by rw [List.getElem?_toArray]; rfl) (by kernel_rfl) (by kernel_rfl) (by kernel_rfl) (fun _ _ _ h => h) (Or.inl ⟨by rfl, ?_⟩) (by assumption) ?_
                      rotate_left
                      focus (intro wS hSw; (try dsimp only at hSw); go_simp; (try with_reducible rfl)); done
                      (try simp only [Act.put, List.setIfInBounds_toArray, List.set_cons_zero, List.set_cons_succ])
                      refine wpAnyH_take (i := 16) (v := ?_) (by rw [List.getElem?_toArray]; rfl) (by kernel_rfl) (by kernel_rfl) (by kernel_rfl) (fun _ _ _ h => h) (Or.inl ⟨by rfl, ?_⟩) (by assumption) ?_
                      rotate_left
                      focus (intro wS hSw; (try dsimp only at hSw); go_simp; (try with_reducible rfl)); done
                      (try simp only [Act.put, List.setIfInBounds_toArray, List.set_cons_zero, List.set_cons_succ])
                      refine wpAnyH_ready (rs := [17]) (by kernel_rfl) (by simp) ?_
                      refine AllReadyH.cons (by rw [List.getElem?_toArray]; rfl) (fun K hK => ?_) AllReadyH.nil
                      go_simp
                      refine (sDeriveCap_mem w.heap.size wr.heap.size q c (some ⟨gA, aA, none⟩) ds m y1 y2 _ ((by (repeat (first | (with_reducible assumption) | (with_reducible refine Own.alloc ?_ _) | (with_reducible refine Own.drew ?_) | (with_reducible refine Own.set ?_ (by first | (simp; done) | (simp; omega) | omega) _))) : Own _ w.heap.size wr.heap.size 39 6 (some ⟨gA, aA, none⟩) q c (ents ds)).rd) (by omega) hmq).mono ?_; rintro e wf ⟨Af, mf, cf, ef, idf, okf, rfl, hmf, hof, hbf⟩; have zf := hbf.size; (try simp at zf); have hrf := Rdr.below (by (repeat (first | (with_reducible assumption) | (with_reducible refine Rdr.drew ?_) | (with_reducible refine Rdr.set ?_ (by first | (simp; done) | (simp; omega) | omega) _) | (with_reducible refine Rdr.alloc ?_ _))) : Rdr _ g (N + 80 - 6 * (p + 1) + 1 + 1 + 1 + 1 + 1 + 1)) hbf; replace hF := Fr.trans (by (repeat (first | (with_reducible assumption) | (with_reducible refine Fr.drew ?_) | (with_reducible exact Fr.refl _ _ _) | (with_reducible refine Fr.setOut ?_ (by first | (simp; done) | (simp; omega) | omega) _) | (with_reducible refine Fr.alloc ?_ _))) : Fr g (g + 1) w _) (Fr.of_below hbf g (g + 1)); have TL1 := Blk.below (by (repeat (first | (with_reducible assumption) | (with_reducible exact Blk.newAt _ _ (by simp)) | (with_reducible refine Blk.drew ?_) | (with_reducible refine Blk.other ?_ (by first | (simp; done) | (simp; omega) | omega) _) | (with_reducible refine Blk.alloc ?_ _))) : Blk _ we.heap.size 3 #[.int .i64 15, .int .i64 va, .int .i64 7]) hbf; have TL2 := Blk.below (by (repeat (first | (with_reducible assumption) | (with_reducible exact Blk.newAt _ _ (by simp)) | (with_reducible refine Blk.drew ?_) | (with_reducible refine Blk.other ?_ (by first | (simp; done) | (simp; omega) | omega) _) | (with_reducible refine Blk.alloc ?_ _))) : Blk _ (we.heap.size + 1) 3 #[.int .i64 0, .int .i64 0, .int .i64 (1 + vd)]) hbf; replace hof := Lib.hid (hof.mono (B' := w.heap.size) (T' := wf.heap.size) (by (try simp) <;> omega) (Nat.le_refl _)); clear hbf ho hre
                      refine hK.out _ _ ?_ (fun hHeld => ?_)
                      focus (first | exact trivial | ((try dsimp only); (exact ⟨Blk.cell (T := 3) (cs := #[.int .i64 15, .int .i64 va, .int .i64 7]) (by (repeat (first | (with_reducible assumption) | (with_reducible exact Blk.newAt _ _ (by simp)) | (with_reducible refine Blk.drew ?_) | (with_reducible refine Blk.other ?_ (by first | (simp; done) | (simp; omega) | omega) _) | (with_reducible refine Blk.alloc ?_ _))) : Blk _ we.heap.size 3 #[.int .i64 15, .int .i64 va, .int .i64 7]) x1 hy1x, Blk.cell (T := 3) (cs := #[.int .i64 0, .int .i64 0, .int .i64 (1 + vd)]) (by (repeat (first | (with_reducible assumption) | (with_reducible exact Blk.newAt _ _ (by simp)) | (with_reducible refine Blk.drew ?_) | (with_reducible refine Blk.other ?_ (by first | (simp; done) | (simp; omega) | omega) _) | (with_reducible refine Blk.alloc ?_ _))) : Blk _ (we.heap.size + 1) 3 #[.int .i64 0, .int .i64 0, .int .i64 (1 + vd)]) x2 hy2x⟩))); done
                      clear hK K
                      (try simp only [Act.put, List.setIfInBounds_toArray, List.set_cons_zero, List.set_cons_succ])
                      refine wpAnyH_take (i := 18) (v := ?_) (by rw [List.getElem?_toArray]; rfl) (by kernel_rfl) (by kernel_rfl) (by kernel_rfl) (fun _ _ _ h => h) (Or.inl ⟨by rfl, ?_⟩) (by assumption) ?_
                      rotate_left
                      focus (intro wS hSw; (try dsimp only at hSw); go_simp; (try with_reducible rfl)); done
                      (try simp only [Act.put, List.setIfInBounds_toArray, List.set_cons_zero, List.set_cons_succ])
                      refine wpAnyH_take (i := 19) (v := ?_) (by rw [List.getElem?_toArray]; rfl) (by kernel_rfl) (by kernel_rfl) (by kernel_rfl) (fun _ _ _ h => h) (Or.inl ⟨by rfl, ?_⟩) (by assumption) ?_
                      rotate_left
                      focus (intro wS hSw; (try dsimp only at hSw); go_simp; (try with_reducible rfl)); done
                      (try simp only [Act.put, List.setIfInBounds_toArray, List.set_cons_zero, List.set_cons_succ])
                      refine wpAnyH_take (i := 20) (v := ?_) (by rw [List.getElem?_toArray]; rfl) (by kernel_rfl) (by kernel_rfl) (by kernel_rfl) (fun _ _ _ h => h) (Or.inl ⟨by rfl, ?_⟩) (by assumption) ?_
                      rotate_left
                      focus (intro wS hSw; (try dsimp only at hSw); go_simp; (try with_reducible rfl)); done
                      (try simp only [Act.put, List.setIfInBounds_toArray, List.set_cons_zero, List.set_cons_succ])
                      refine wpAnyH_take (i := 21) (v := ?_) (by rw [List.getElem?_toArray]; rfl) (by kernel_rfl) (by kernel_rfl) (by kernel_rfl) (fun _ _ _ h => h) (Or.inl ⟨by rfl, ?_⟩) (by assumption) ?_
                      rotate_left
                      focus (intro wS hSw; (try dsimp only at hSw); go_simp; (try with_reducible rfl)); done
                      (try simp only [Act.put, List.setIfInBounds_toArray, List.set_cons_zero, List.set_cons_succ])
                      refine wpAnyH_ready (rs := [22]) (by kernel_rfl) (by simp) ?_
                      refine AllReadyH.cons (by rw [List.getElem?_toArray]; rfl) (fun K hK => ?_) AllReadyH.nil
                      go_simp
                      skip
                      refine hK.out _ _ ?_ (fun hHeld => ?_)
                      focus (first | exact trivial | ((try dsimp only); (exact ⟨Blk.cell (T := 3) (cs := #[.int .i64 15, .int .i64 va, .int .i64 7]) (by (repeat (first | (with_reducible assumption) | (with_reducible exact Blk.newAt _ _ (by simp)) | (with_reducible refine Blk.drew ?_) | (with_reducible refine Blk.other ?_ (by first | (simp; done) | (simp; omega) | omega) _) | (with_reducible refine Blk.alloc ?_ _))) : Blk _ we.heap.size 3 #[.int .i64 15, .int .i64 va, .int .i64 7]) x1 hy1x, Blk.cell (T := 3) (cs := #[.int .i64 0, .int .i64 0, .int .i64 (1 + vd)]) (by (repeat (first | (with_reducible assumption) | (with_reducible exact Blk.newAt _ _ (by simp)) | (with_reducible refine Blk.drew ?_) | (with_reducible refine Blk.other ?_ (by first | (simp; done) | (simp; omega) | omega) _) | (with_reducible refine Blk.alloc ?_ _))) : Blk _ (we.heap.size + 1) 3 #[.int .i64 0, .int .i64 0, .int .i64 (1 + vd)]) x2 hy2x⟩))); done
                      clear hK K
                      (try simp only [Act.put, List.setIfInBounds_toArray, List.set_cons_zero, List.set_cons_succ])
                      refine wpAnyH_done (by kernel_rfl) ?_ _
                      refine NoPanic.normal ?_
                      go_wp2
                      go_roundw
                      case rel => exact ⟨p, mf, cf, Af, ef, rfl, by go_num, by omega, hof.out, hrf.mono (by omega), hF⟩
                      case measure => simp [intOf]
                    · go_simp
                      skip
                      refine hK.out _ _ ?_ (fun hHeld => ?_)
                      focus (first | exact trivial | ((try dsimp only); (exact trivial))); done
                      clear hK K
                      (try simp only [Act.put, List.setIfInBounds_toArray, List.set_cons_zero, List.set_cons_succ])
                      obtain ⟨x2, rfl⟩ := Int.eq_ofNat_of_zero_le hve
                      have hlx2 : x2 < 3 := by omega
                      obtain ⟨y2, hy2x⟩ := c3t 0 0 (1 + vd) hlx2
                      refine wpAnyH_to (S' := (fun W => W.cell? ⟨we.heap.size, x2, none⟩ = some (.int .i64 y2))) (fun _ _ => trivial) ?_ (fun hHeld => ?_)
                      focus ((try dsimp only); exact Blk.cell (T := 3) (cs := #[.int .i64 0, .int .i64 0, .int .i64 (1 + vd)]) (by (repeat (first | (with_reducible assumption) | (with_reducible exact Blk.newAt _ _ (by simp)) | (with_reducible refine Blk.drew ?_) | (with_reducible refine Blk.other ?_ (by first | (simp; done) | (simp; omega) | omega) _) | (with_reducible refine Blk.alloc ?_ _))) : Blk _ we.heap.size 3 #[.int .i64 0, .int .i64 0, .int .i64 (1 + vd)]) x2 hy2x); done
                      (try dsimp only at hHeld)
                      refine wpAnyH_take (i := 15) (v := ?_) (by rw [List.getElem?_toArray]; rfl) (by kernel_rfl) (by kernel_rfl) (by kernel_rfl) (fun _ _ _ h => h) (Or.inl ⟨by rfl, ?_⟩) (by assumption) ?_
                      rotate_left
                      focus (intro wS hSw; (try dsimp only at hSw); go_simp; (try with_reducible rfl)); done
                      (try simp only [Act.put, List.setIfInBounds_toArray, List.set_cons_zero, List.set_cons_succ])
                      refine wpAnyH_take (i := 16) (v := ?_) (by rw [List.getElem?_toArray]; rfl) (by kernel_rfl) (by kernel_rfl) (by kernel_rfl) (fun _ _ _ h => h) (Or.inl ⟨by rfl, ?_⟩) (by assumption) ?_
                      rotate_left
                      focus (intro wS hSw; (try dsimp only at hSw); go_simp; (try with_reducible rfl)); done
                      (try simp only [Act.put, List.setIfInBounds_toArray, List.set_cons_zero, List.set_cons_succ])
                      refine wpAnyH_ready (rs := [4]) (by kernel_rfl) (by simp) ?_
                      refine AllReadyH.cons (by rw [List.getElem?_toArray]; rfl) (fun K hK => ?_) AllReadyH.nil
                      go_simp
                      skip
                      refine hK.out _ _ ?_ (fun hHeld => ?_)
                      focus (first | exact trivial | ((try dsimp only); (exact Blk.cell (T := 3) (cs := #[.int .i64 0, .int .i64 0, .int .i64 (1 + vd)]) (by (repeat (first | (with_reducible assumption) | (with_reducible exact Blk.newAt _ _ (by simp)) | (with_reducible refine Blk.drew ?_) | (with_reducible refine Blk.other ?_ (by first | (simp; done) | (simp; omega) | omega) _) | (with_reducible refine Blk.alloc ?_ _))) : Blk _ we.heap.size 3 #[.int .i64 0, .int .i64 0, .int .i64 (1 + vd)]) x2 hy2x))); done
                      clear hK K
                      (try simp only [Act.put, List.setIfInBounds_toArray, List.set_cons_zero, List.set_cons_succ])
                      obtain ⟨x1, rfl⟩ := Int.eq_ofNat_of_zero_le hvb
                      have hlx1 : x1 < 3 := by omega
                      obtain ⟨y1, hy1x⟩ := c3t 15 va 7 hlx1
                      refine wpAnyH_to (S' := (fun W => W.cell? ⟨(we.heap.size + 1), x1, none⟩ = some (.int .i64 y1) ∧ W.cell? ⟨we.heap.size, x2, none⟩ = some (.int .i64 y2))) (fun _ h => h.2) ?_ (fun hHeld => ?_)
                      focus ((try dsimp only); exact ⟨Blk.cell (T := 3) (cs := #[.int .i64 15, .int .i64 va, .int .i64 7]) (by (repeat (first | (with_reducible assumption) | (with_reducible exact Blk.newAt _ _ (by simp)) | (with_reducible refine Blk.drew ?_) | (with_reducible refine Blk.other ?_ (by first | (simp; done) | (simp; omega) | omega) _) | (with_reducible refine Blk.alloc ?_ _))) : Blk _ (we.heap.size + 1) 3 #[.int .i64 15, .int .i64 va, .int .i64 7]) x1 hy1x, Blk.cell (T := 3) (cs := #[.int .i64 0, .int .i64 0, .int .i64 (1 + vd)]) (by (repeat (first | (with_reducible assumption) | (with_reducible exact Blk.newAt _ _ (by simp)) | (with_reducible refine Blk.drew ?_) | (with_reducible refine Blk.other ?_ (by first | (simp; done) | (simp; omega) | omega) _) | (with_reducible refine Blk.alloc ?_ _))) : Blk _ we.heap.size 3 #[.int .i64 0, .int .i64 0, .int .i64 (1 + vd)]) x2 hy2x⟩); done
                      (try dsimp only at hHeld)
                      refine wpAnyH_take (i := 7) (v := ?_) (by rw [List.getElem?_toArray]; rfl) (by kernel_rfl) (by kernel_rfl) (by kernel_rfl) (fun _ _ _ h => h) (Or.inl ⟨by rfl, ?_⟩) (by assumption) ?_
                      rotate_left
                      focus (intro wS hSw; (try dsimp only at hSw); go_simp; (try with_reducible rfl)); done
                      (try simp only [Act.put, List.setIfInBounds_toArray, List.set_cons_zero, List.set_cons_succ])
                      refine wpAnyH_take (i := 8) (v := ?_) (by rw [List.getElem?_toArray]; rfl) (by kernel_rfl) (by kernel_rfl) (by kernel_rfl) (fun _ _ _ h => h) (Or.inl ⟨by rfl, ?_⟩) (by assumption) ?_
                      rotate_left
                      focus (intro wS hSw; (try dsimp only at hSw); go_simp; (try with_reducible rfl)); done
                      (try simp only [Act.put, List.setIfInBounds_toArray, List.set_cons_zero, List.set_cons_succ])
                      refine wpAnyH_ready (rs := [17]) (by kernel_rfl) (by simp) ?_
                      refine AllReadyH.cons (by rw [List.getElem?_toArray]; rfl) (fun K hK => ?_) AllReadyH.nil
                      go_simp
                      refine (sDeriveCap_mem w.heap.size wr.heap.size q c (some ⟨gA, aA, none⟩) ds m y1 y2 _ ((by (repeat (first | (with_reducible assumption) | (with_reducible refine Own.alloc ?_ _) | (with_reducible refine Own.drew ?_) | (with_reducible refine Own.set ?_ (by first | (simp; done) | (simp; omega) | omega) _))) : Own _ w.heap.size wr.heap.size 39 6 (some ⟨gA, aA, none⟩) q c (ents ds)).rd) (by omega) hmq).mono ?_; rintro e wf ⟨Af, mf, cf, ef, idf, okf, rfl, hmf, hof, hbf⟩; have zf := hbf.size; (try simp at zf); have hrf := Rdr.below (by (repeat (first | (with_reducible assumption) | (with_reducible refine Rdr.drew ?_) | (with_reducible refine Rdr.set ?_ (by first | (simp; done) | (simp; omega) | omega) _) | (with_reducible refine Rdr.alloc ?_ _))) : Rdr _ g (N + 80 - 6 * (p + 1) + 1 + 1 + 1 + 1 + 1 + 1)) hbf; replace hF := Fr.trans (by (repeat (first | (with_reducible assumption) | (with_reducible refine Fr.drew ?_) | (with_reducible exact Fr.refl _ _ _) | (with_reducible refine Fr.setOut ?_ (by first | (simp; done) | (simp; omega) | omega) _) | (with_reducible refine Fr.alloc ?_ _))) : Fr g (g + 1) w _) (Fr.of_below hbf g (g + 1)); have TL1 := Blk.below (by (repeat (first | (with_reducible assumption) | (with_reducible exact Blk.newAt _ _ (by simp)) | (with_reducible refine Blk.drew ?_) | (with_reducible refine Blk.other ?_ (by first | (simp; done) | (simp; omega) | omega) _) | (with_reducible refine Blk.alloc ?_ _))) : Blk _ (we.heap.size + 1) 3 #[.int .i64 15, .int .i64 va, .int .i64 7]) hbf; have TL2 := Blk.below (by (repeat (first | (with_reducible assumption) | (with_reducible exact Blk.newAt _ _ (by simp)) | (with_reducible refine Blk.drew ?_) | (with_reducible refine Blk.other ?_ (by first | (simp; done) | (simp; omega) | omega) _) | (with_reducible refine Blk.alloc ?_ _))) : Blk _ we.heap.size 3 #[.int .i64 0, .int .i64 0, .int .i64 (1 + vd)]) hbf; replace hof := Lib.hid (hof.mono (B' := w.heap.size) (T' := wf.heap.size) (by (try simp) <;> omega) (Nat.le_refl _)); clear hbf ho hre
                      refine hK.out _ _ ?_ (fun hHeld => ?_)
                      focus (first | exact trivial | ((try dsimp only); (exact ⟨Blk.cell (T := 3) (cs := #[.int .i64 15, .int .i64 va, .int .i64 7]) (by (repeat (first | (with_reducible assumption) | (with_reducible exact Blk.newAt _ _ (by simp)) | (with_reducible refine Blk.drew ?_) | (with_reducible refine Blk.other ?_ (by first | (simp; done) | (simp; omega) | omega) _) | (with_reducible refine Blk.alloc ?_ _))) : Blk _ (we.heap.size + 1) 3 #[.int .i64 15, .int .i64 va, .int .i64 7]) x1 hy1x, Blk.cell (T := 3) (cs := #[.int .i64 0, .int .i64 0, .int .i64 (1 + vd)]) (by (repeat (first | (with_reducible assumption) | (with_reducible exact Blk.newAt _ _ (by simp)) | (with_reducible refine Blk.drew ?_) | (with_reducible refine Blk.other ?_ (by first | (simp; done) | (simp; omega) | omega) _) | (with_reducible refine Blk.alloc ?_ _))) : Blk _ we.heap.size 3 #[.int .i64 0, .int .i64 0, .int .i64 (1 + vd)]) x2 hy2x⟩))); done
                      clear hK K
                      (try simp only [Act.put, List.setIfInBounds_toArray, List.set_cons_zero, List.set_cons_succ])
                      refine wpAnyH_take (i := 18) (v := ?_) (by rw [List.getElem?_toArray]; rfl) (by kernel_rfl) (by kernel_rfl) (by kernel_rfl) (fun _ _ _ h => h) (Or.inl ⟨by rfl, ?_⟩) (by assumption) ?_
                      rotate_left
                      focus (intro wS hSw; (try dsimp only at hSw); go_simp; (try with_reducible rfl)); done
                      (try simp only [Act.put, List.setIfInBounds_toArray, List.set_cons_zero, List.set_cons_succ])
                      refine wpAnyH_take (i := 19) (v := ?_) (by rw [List.getElem?_toArray]; rfl) (by kernel_rfl) (by kernel_rfl) (by kernel_rfl) (fun _ _ _ h => h) (Or.inl ⟨by rfl, ?_⟩) (by assumption) ?_
                      rotate_left
                      focus (intro wS hSw; (try dsimp only at hSw); go_simp; (try with_reducible rfl)); done
                      (try simp only [Act.put, List.setIfInBounds_toArray, List.set_cons_zero, List.set_cons_succ])
                      refine wpAnyH_take (i := 20) (v := ?_) (by rw [List.getElem?_toArray]; rfl) (by kernel_rfl) (by kernel_rfl) (by kernel_rfl) (fun _ _ _ h => h) (Or.inl ⟨by rfl, ?_⟩) (by assumption) ?_
                      rotate_left
                      focus (intro wS hSw; (try dsimp only at hSw); go_simp; (try with_reducible rfl)); done
                      (try simp only [Act.put, List.setIfInBounds_toArray, List.set_cons_zero, List.set_cons_succ])
                      refine wpAnyH_take (i := 21) (v := ?_) (by rw [List.getElem?_toArray]; rfl) (by kernel_rfl) (by kernel_rfl) (by kernel_rfl) (fun _ _ _ h => h) (Or.inl ⟨by rfl, ?_⟩) (by assumption) ?_
                      rotate_left
                      focus (intro wS hSw; (try dsimp only at hSw); go_simp; (try with_reducible rfl)); done
                      (try simp only [Act.put, List.setIfInBounds_toArray, List.set_cons_zero, List.set_cons_succ])
                      refine wpAnyH_ready (rs := [22]) (by kernel_rfl) (by simp) ?_
                      refine AllReadyH.cons (by rw [List.getElem?_toArray]; rfl) (fun K hK => ?_) AllReadyH.nil
                      go_simp
                      skip
                      refine hK.out _ _ ?_ (fun hHeld => ?_)
                      focus (first | exact trivial | ((try dsimp only); (exact ⟨Blk.cell (T := 3) (cs := #[.int .i64 15, .int .i64 va, .int .i64 7]) (by (repeat (first | (with_reducible assumption) | (with_reducible exact Blk.newAt _ _ (by simp)) | (with_reducible refine Blk.drew ?_) | (with_reducible refine Blk.other ?_ (by first | (simp; done) | (simp; omega) | omega) _) | (with_reducible refine Blk.alloc ?_ _))) : Blk _ (we.heap.size + 1) 3 #[.int .i64 15, .int .i64 va, .int .i64 7]) x1 hy1x, Blk.cell (T := 3) (cs := #[.int .i64 0, .int .i64 0, .int .i64 (1 + vd)]) (by (repeat (first | (with_reducible assumption) | (with_reducible exact Blk.newAt _ _ (by simp)) | (with_reducible refine Blk.drew ?_) | (with_reducible refine Blk.other ?_ (by first | (simp; done) | (simp; omega) | omega) _) | (with_reducible refine Blk.alloc ?_ _))) : Blk _ we.heap.size 3 #[.int .i64 0, .int .i64 0, .int .i64 (1 + vd)]) x2 hy2x⟩))); done
                      clear hK K
                      (try simp only [Act.put, List.setIfInBounds_toArray, List.set_cons_zero, List.set_cons_succ])
                      refine wpAnyH_done (by kernel_rfl) ?_ _
                      refine NoPanic.normal ?_
                      go_wp2
                      go_roundw
                      case rel => exact ⟨p, mf, cf, Af, ef, rfl, by go_num, by omega, hof.out, hrf.mono (by omega), hF⟩
                      case measure => simp [intOf]
            · have HO := Lib.hid ho
              clear ho
              go_wp2
              go_roundw
              case rel => exact ⟨p, q, c, _, ds, rfl, by go_num, by omega, HO.out.mono (Nat.le_refl _) (by omega), hr7.mono (by omega), hF⟩
              case measure => simp [intOf]
    | zero =>
      have hz0 : ¬ (0 : Int) < ((0 : Nat) : Int) := by omega
      rcases Nat.eq_zero_or_pos q with rfl | hq
      · have HO := Lib.hid ho
        clear ho
        go_wp2
        go_ret
        exact ⟨_, 0, c, ds, rfl, HO.out.mono (Nat.le_refl _) (by omega), by omega, hrd.mono (by omega), hF⟩
      · have hq0 : (0 : Int) < (q : Int) := by omega
        go_wp2_with fail
        refine (odd_any _ _ (n) _ hrd (by omega) (by omega)).mono ?_
        rintro e w8 ⟨b8, rfl, hr8, f8⟩
        have z8 := f8.size
        have lt8 := hr8.lt
        replace ho := Own.fr ho f8 (.inr (by omega))
        replace hF := hF.trans f8
        clear f8 hrd
        cases b8
        · have HO := Lib.hid ho
          clear ho
          go_wp2
          go_ret
          exact ⟨_, q, c, ds, rfl, HO.out.mono (Nat.le_refl _) (by omega), by omega, hr8.mono (by omega), hF⟩
        · skip
          go_wp2_with fail
          refine (pick_any _ _ ((q : Int)) _ hr8 (by omega) (by omega)).mono ?_
          rintro e w9 ⟨v9, rfl, hv9, ul9, -, hr9, f9⟩
          replace ul9 := ul9 (by omega)
          have z9 := f9.size
          have lt9 := hr9.lt
          replace ho := Own.fr ho f9 (.inr (by omega))
          replace hF := hF.trans f9
          clear f9 hr8
          obtain ⟨j, rfl⟩ := Int.eq_ofNat_of_zero_le hv9
          have hjq : j < q := by omega
          go_wp2_with fail
          refine (pick_any _ _ (4) _ hr9 (by omega) (by omega)).mono ?_
          rintro e w10 ⟨v10, rfl, hv10, ul10, -, hr10, f10⟩
          replace ul10 := ul10 (by omega)
          have z10 := f10.size
          have lt10 := hr10.lt
          replace ho := Own.fr ho f10 (.inr (by omega))
          replace hF := hF.trans f10
          clear f10 hr9
          rcases (by omega : v10 = 0 ∨ v10 = 1 ∨ v10 = 2 ∨ v10 = 3) with rfl | rfl | rfl | rfl
          · clear hv10 ul10
            obtain ⟨gA, aA, rfl, x1, x2, x3, x4, x5, es', x6⟩ := ho.noCap hjq
            have c0 : ∃ u, w10.cell? ⟨gA, aA + j * 6, none⟩ = some u := x4 0 (by omega)
            obtain ⟨u0, c0⟩ := c0
            obtain ⟨u1, c1⟩ := x4 1 (by omega)
            obtain ⟨u2, c2⟩ := x4 2 (by omega)
            obtain ⟨u3, c3⟩ := x4 3 (by omega)
            have HO := Lib.hid x6
            clear x6 x4 ho
            go_wp2
            go_ret
            exact ⟨_, q, c, es', rfl, HO.out.mono (Nat.le_refl _) (by simp; omega), by omega, (by (repeat (first | (with_reducible assumption) | (with_reducible refine Rdr.drew ?_) | (with_reducible refine Rdr.set ?_ (by first | (simp; done) | (simp; omega) | omega) _) | (with_reducible refine Rdr.alloc ?_ _))) : Rdr _ g (N + 80 - 6 * 0 + 1 + 1 + 1)).mono (by omega), by (repeat (first | (with_reducible assumption) | (with_reducible refine Fr.setOut ?_ (by simp; omega) _) | (with_reducible refine Fr.alloc ?_ _)))⟩
          · clear hv10 ul10
            obtain ⟨gA, aA, kk, oo, rr, bb, pp, gg, rfl, hgA, hx, q0, q1, q2, q3, q4, q5⟩ := ent_at ho.rd hjq
            clear hx q0 q1 q2 q3 q4 q5
            go_wp2_with fail
            refine (pick_any _ _ (2) _ (hr10.alloc _) (by omega) (by omega)).mono ?_
            rintro e w11 ⟨v11, rfl, hv11, ul11, -, hr11, f11⟩
            replace ul11 := ul11 (by omega)
            have z11 := f11.size
            have lt11 := hr11.lt
            simp at z11
            replace ho := Own.fr (ho.alloc (.cells #[.int .i64 (j : Int), .int .i64 (-2)] 3)) f11 (.inr (by omega))
            have TL := (Blk.new w10 3 #[.int .i64 (j : Int), .int .i64 (-2)]).fr f11 (.inr (by omega))
            replace hF := (Fr.alloc hF (.cells #[.int .i64 (j : Int), .int .i64 (-2)] 3)).trans f11
            obtain ⟨e1, e2, e3, e4, ⟨u4, e5⟩, e6⟩ := ho.par hjq
            have hfz := e4 (aA + j * 6 + 4)
            obtain ⟨x1, rfl⟩ := Int.eq_ofNat_of_zero_le hv11
            have hlx1 : x1 < 2 := by omega
            obtain ⟨y1, hy1x⟩ := c2t (j : Int) (-2) hlx1
            have y1c := TL.cell x1 hy1x
            obtain ⟨es', HE⟩ := e6 y1
            have HO := Lib.hid HE
            clear HE ho f11 hr10 e4 e6 hy1x TL
            go_wp2
            go_ret
            exact ⟨_, q, c, es', rfl, HO.out.mono (Nat.le_refl _) (by simp; omega), by omega, (by (repeat (first | (with_reducible assumption) | (with_reducible refine Rdr.drew ?_) | (with_reducible refine Rdr.set ?_ (by first | (simp; done) | (simp; omega) | omega) _) | (with_reducible refine Rdr.alloc ?_ _))) : Rdr _ g (N + 80 - 6 * 0 + 1 + 1 + 1 + 1)).mono (by omega), by (repeat (first | (with_reducible assumption) | (with_reducible refine Fr.setOut ?_ (by simp; omega) _) | (with_reducible refine Fr.alloc ?_ _)))⟩
          · clear hv10 ul10
            go_wp2_with (at_builtin; refine wpList_appg _ (by rfl) (.tmp 122) (.tmp 125) 23 rfl 39 j0 (entv 0 0 0 0 0 false) 6 48 Try.underlying23 hj0 hy0 hy1 hy2 rfl (by omega) w.heap.size wr.heap.size w10.heap.size (w10.heap.size + 1) A (some ⟨w10.heap.size, 0, none⟩) q c 1 1 (ents ds) (entC ((6, 9, 3, 0), 0, false)) rfl rfl (ho.alloc _) (ent_new _ _ 39 rfl ((6, 9, 3, 0), 0, false)) (ents_one [((6, 9, 3, 0), 0, false)]) (by unfold maxLen; omega) (by omega) (by simp; omega) ?_; intro A11 c11 w11 o11 f11; have z11 := f11.size; (try simp at z11); have hrz := Rdr.fr (g := g) (by (repeat (first | (with_reducible assumption) | (with_reducible refine Rdr.drew ?_) | (with_reducible refine Rdr.set ?_ (by first | (simp; done) | (simp; omega) | omega) _) | (with_reducible refine Rdr.alloc ?_ _))) : Rdr _ g (N + 80 - 6 * 0 + 1 + 1 + 1)) f11 (.inl (by omega)) (by omega); have hFz := Fr.own (by (repeat (first | (with_reducible assumption) | (with_reducible refine Fr.drew ?_) | (with_reducible exact Fr.refl _ _ _) | (with_reducible refine Fr.setOut ?_ (by first | (simp; done) | (simp; omega) | omega) _) | (with_reducible refine Fr.alloc ?_ _))) : Fr g (g + 1) w _) f11; have HOZ := Lib.hid o11; clear o11 f11 ho hF)
            go_ret
            refine ⟨_, q + 1, c11, ds ++ [((6, 9, 3, 0), 0, false)], rfl, ?_, by omega, hrz.mono (by omega), hFz⟩
            have h := HOZ.out
            rw [ents_append]
            simpa [ents] using h
          · clear hv10 ul10
            have HO := Lib.hid ho
            have HF := Lib.hid hF
            go_wp2
            go_loopw [5] (fun u wx => ∃ (q c : Nat) (A : Option Addr) (ds : List En), u = .slice A q c ∧ 1 ≤ q ∧ q ≤ 60 ∧ Own wx w.heap.size wx.heap.size 39 6 A q c (ents ds) ∧ Rdr wx g (N + 83) ∧ Fr g (g + 1) w wx) (fun u _ => 31 - sliceN u)
            case atStart => exact ⟨q, c, A, ds, rfl, hq, by omega, HO.out.mono (Nat.le_refl _) (by omega), hr10.mono (by omega), HF.out⟩
            case round =>
              clear HO HF ho hF hr10
              obtain ⟨q2, c2, A2, ds2, rfl, hq21, hq22, ho, hrx, hF⟩ := hrel
              have lgx := hrx.lt
              have hwx := hF.size
              by_cases h30 : q2 ≤ 30
              · have h30i : (q2 : Int) ≤ 30 := by omega
                go_wp2_with (at_builtin; refine wpList_appg _ (by rfl) (.tmp 98) (.tmp 99) 23 rfl 39 j0 (entv 0 0 0 0 0 false) 6 48 Try.underlying23 hj0 hy0 hy1 hy2 rfl (by omega) w.heap.size wr.heap.size w.heap.size wr.heap.size A2 A2 q2 c2 q2 c2 (ents ds2) (ents ds2) rfl rfl ho ho.rd (ents_one ds2) (by unfold maxLen; omega) (by omega) (by omega) ?_; intro A9 c9 w9 o9 f9; have z9 := f9.size; have hrz := hrx.fr f9 (.inl (by omega)) (by omega); have hFz := hF.own f9; rw [← ents_append] at o9; have HOZ := Lib.hid o9; clear o9 f9 ho hF hrx)
                go_roundw
                case rel => exact ⟨q2 + q2, c9, A9, ds2 ++ ds2, rfl, by omega, by omega, HOZ.out, hrz, hFz⟩
                case measure => simp [sliceN]; omega
              · have h30i : ¬ (q2 : Int) ≤ 30 := by omega
                have HO2 := Lib.hid ho
                clear ho
                go_wp2
                go_ret
                exact ⟨_, q2, c2, ds2, rfl, HO2.out, by omega, hrx.mono (by omega), hF⟩
/-- What l20Pick returns: any number. -/
def PickT (w : World) (g M : Nat) (e : Ending) (w' : World) : Prop := ∃ v : Int, e = .returned (.int .i64 v) ∧ Rdr w' g M ∧ Fr g (g + 1) w w'
set_option maxHeartbeats 2000000 in
theorem l20Pick_any (g N m c : Nat) (A : Option Addr) (w : World) (hr : Rdr w g N) (hN : N ≤ 1000000) (hm : m ≤ 60) :
    Calls Try.prog 54 #[.pointer (some ⟨g, 0, none⟩), .slice A m c] w (PickT w g (N + 2)) := by
  go_enter Try.func54, Try.ntmps54
  have e0 : IntKind.i64.wrap ((m : Int) + 1) = (m : Int) + 1 := wr64s (by omega) (by omega)
  go_wp2_with fail
  refine (pick_any _ _ (((m : Int) + 1)) _ hr (by omega) (by omega)).mono ?_
  rintro e w1 ⟨v1, rfl, hv1, ul1, -, hr1, f1⟩
  replace ul1 := ul1 (by omega)
  have z1 := f1.size
  have lt1 := hr1.lt
  go_wp2_with fail
  refine (pick_any _ _ (14) _ hr1 (by omega) (by omega)).mono ?_
  rintro e w2 ⟨v2, rfl, hv2, ul2, -, hr2, f2⟩
  replace ul2 := ul2 (by omega)
  have z2 := f2.size
  have lt2 := hr2.lt
  have e2 := quo13 hv2 ul2
  have F2 := f1.trans f2
  clear f1 f2 hr hr1
  go_wp2
  go_ret
  exact ⟨_, rfl, hr2, F2⟩
end Go.Proofs.Ytpgmfjipkhldmaa
