/- Contracts of clone (of entries), alive and l5Live, descendants, removed. -/
import Derived.Test.YtpgmfjipkhldmaaRev2
import Derived.Test.YtpgmfjipkhldmaaInts2
namespace Go.Proofs.Ytpgmfjipkhldmaa
set_option linter.unusedVariables false
open Go.RowKit
def dI (L : List Nat) : List Int := L.map (fun (k : Nat) => (k : Int))
theorem dI_len (L : List Nat) : (dI L).length = L.length := by simp [dI]
/-- A list of booleans: what is known of the entries before number k. -/
def FromTo (cs : List Value) (es : List En) (n k m : Nat) : Prop := cs.length = m ∧ ∀ j : Nat, j < m → cs[j]? = some (.bool (decide (j < k) && fr es n j))
theorem FromTo.keep {cs : List Value} {es : List En} {n k m : Nat} (h : FromTo cs es n k m) (hf : fr es n k = false) : FromTo cs es n (k + 1) m := by
  refine ⟨h.1, fun j hj => ?_⟩
  rw [h.2 j hj]
  by_cases hjk : j = k
  · subst hjk; rw [hf]; simp
  · have : decide (j < k + 1) = decide (j < k) := by by_cases hl : j < k <;> simp [hl] <;> omega
    rw [this]
theorem FromTo.put {cs : List Value} {es : List En} {n k m : Nat} (h : FromTo cs es n k m) (hk : k < m) (hf : fr es n k = true) : FromTo (cs.set k (.bool true)) es n (k + 1) m := by
  refine ⟨by rw [List.length_set]; exact h.1, fun j hj => ?_⟩
  by_cases hjk : j = k
  · subst hjk
    rw [List.getElem?_set_self (by rw [h.1]; exact hj), hf]; simp
  · rw [List.getElem?_set_ne (by omega), h.2 j hj]
    have : decide (j < k + 1) = decide (j < k) := by by_cases hl : j < k <;> simp [hl] <;> omega
    rw [this]
theorem FromTo.start {es : List En} {n m : Nat} (hn : n < m) : FromTo ((madeCells (Value.bool false).cells (m * 1)).toList.set n (.bool true)) es n (n + 1) m := by
  refine ⟨by simp [size_madeCells], fun j hj => ?_⟩
  by_cases hjn : j = n
  · subst hjn
    rw [List.getElem?_set_self (by simp [size_madeCells]; omega), fr_self]; simp
  · rw [List.getElem?_set_ne (by omega), Nat.mul_one, show (Value.bool false).cells = #[.bool false] from rfl, toList_madeCells_one, List.getElem?_replicate, if_pos hj]
    by_cases hl : j < n
    · rw [fr_low hl]; simp
    · have : ¬ j < n + 1 := by omega
      simp [this]
theorem removed_step {es : List En} {L : List Nat} {j x : Nat} {c : Cp} {p : Int} {g : Bool} (hx : L[j]? = some x) (he : (removed es (L.take j))[x]? = some (c, p, g)) : (removed es (L.take j)).set x (c, p, true) = removed es (L.take (j + 1)) := by
  apply List.ext_getElem?
  intro i
  by_cases hi : i = x
  · subst hi
    rw [List.getElem?_set_self (List.getElem?_eq_some_iff.1 he).1, removed_get]
    rw [removed_get] at he
    obtain ⟨e, h1, h2⟩ := Option.map_eq_some_iff.1 he
    rw [h1]
    injection h2 with h2 h3
    injection h3 with h3 h4
    rw [Option.map_some, List.take_add_one, hx, ← h2, ← h3]
    simp
  · rw [List.getElem?_set_ne (by omega), removed_get, removed_get, List.take_add_one, hx]
    congr 1
    funext e
    simp [hi]
/-- A literal that has just been laid. -/
theorem lit_rd (w : World) (cs : Array Value) (e : TypeId) (n b : Nat) (hb : b = w.heap.size) (hs : cs.size = n) (hn : n ≤ maxLen) : Rd (w.alloc (.cells cs e)) b (b + 1) 1 (some ⟨b, 0, none⟩) n cs.toList := by
  subst hb
  exact (Own.new (e := e) (size := 1) w cs n hn (by omega)).rd
theorem Try.infoBool : (Try.prog.info? 4).map (fun i => (i.zero, i.size, i.bytes)) = some (some (.bool false), 1, 1) := by kernel_rfl
set_option maxHeartbeats 400000 in
theorem ClipE_any (n c : Nat) (A : Option Addr) (w : World) (hA : 0 < n → ∃ b o, A = some ⟨b, o, none⟩) (hc : n ≤ c) (hn : n ≤ 1048576) :
    Calls Try.prog 62 #[.slice A n c] w fun e w' => e = .returned (.slice A n n) ∧ w = w' := by
  have hcc : (n : Int) ≤ (c : Int) := by omega
  rcases Nat.eq_zero_or_pos n with rfl | hp
  · go_enter Try.func62, Try.ntmps62
    go_wp2
    go_ret
    exact ⟨rfl, rfl⟩
  · obtain ⟨b, o, rfl⟩ := hA hp
    have hn0 : ¬ n = 0 := by omega
    clear hA
    go_enter Try.func62, Try.ntmps62
    go_wp2
    go_ret
    exact ⟨rfl, rfl⟩
set_option maxHeartbeats 400000 in
theorem CloneE_any (B T n c : Nat) (A : Option Addr) (xs : List En) (w : World) (hr : Rd w B T 6 A n (ents xs)) (hn : n ≤ 1048576) :
    Calls Try.prog 63 #[.slice A n c] w (NewEnts w xs) := by
  obtain ⟨i0, hi0, hz0, hz1, hz2⟩ := info_parts Try.infoEntry
  have hl := ents_len hr
  have HL := Lib.hid hl
  cases A with
  | none =>
    have h0 : n = 0 := by
      rcases Nat.eq_zero_or_pos n with h0 | h0
      · exact h0
      · obtain ⟨b, o, h, _⟩ := hr.2 h0
        cases h
    subst h0
    obtain rfl : xs = [] := List.eq_nil_of_length_eq_zero hl
    have hnil := fun W : World => Lib.run_eql_slice_nil (P := Try.prog) W 23 39 none 0 c 0 0 Try.underlying23
    go_enter Try.func63, Try.ntmps63
    go_wp2
    go_ret
    exact ⟨none, 0, rfl, Own.nil _ _ _ _ _ _, Below.refl _ _⟩
  | some ad =>
    clear hl
    have hnil := fun W : World => Lib.run_eql_slice_nil (P := Try.prog) W 23 39 (some ad) n c 0 0 Try.underlying23
    go_enter Try.func63, Try.ntmps63
    go_wp2_with (at_builtin; refine wpList_app _ rfl (.tmp 5) (.tmp 6) 23 rfl 39 i0 (entv 0 0 0 0 0 false) 6 48 Try.underlying23 hi0 hz0 hz1 hz2 rfl (by omega) w.heap.size 0 B T (some ⟨w.heap.size, 0, none⟩) (some ad) 0 0 n c [] (ents xs) rfl rfl (Own.nil _ _ _ _ _ _) (hr.alloc _) (ents_one xs) (by unfold maxLen; omega) (by omega) (by simp) ?_; intro A1 c1 w1 hown hfr)
    go_ret
    refine ⟨A1, c1, by rw [HL.out]; simp, ?_, Below.via ((Below.refl _ _).alloc (Nat.le_refl _) _) hfr.below0⟩
    rw [HL.out]
    simpa using hown
set_option maxHeartbeats 400000 in
theorem cloneE_any (B T n c : Nat) (A : Option Addr) (xs : List En) (w : World) (hr : Rd w B T 6 A n (ents xs)) (hn : n ≤ 1048576) :
    Calls Try.prog 47 #[.slice A n c] w (NewEnts w xs) := by
  have hl := ents_len hr
  have HL := Lib.hid hl
  clear hl
  go_enter Try.func47, Try.ntmps47
  go_wp2_with fail
  refine (CloneE_any B T n c A xs _ hr hn).mono ?_
  rintro e w1 ⟨A1, c1, rfl, ho, hb⟩
  have hle := ho.le
  go_wp2_with fail
  refine (ClipE_any xs.length c1 A1 w1 ?_ hle (by rw [HL.out]; exact hn)).mono ?_
  · intro h0
    obtain ⟨b, o, h, _⟩ := ho.rd.2 h0
    exact ⟨b, o, h⟩
  rintro e w2 ⟨rfl, rfl⟩
  go_wp2
  go_ret
  refine ⟨A1, xs.length, rfl, ?_, hb⟩
  have h := ho.take (Nat.le_refl _) (Nat.le_refl _) hle
  rwa [List.take_of_length_le (by rw [ho.1]; exact Nat.le_refl _)] at h
set_option maxHeartbeats 2000000 in
theorem iAlive_any (B T m c : Nat) (A : Option Addr) (es : List En) (n : Int) (w : World) (hr : Rd w B T 6 A m (ents es)) (hm : m ≤ 1048576) :
    Calls Try.prog 31 #[.slice A m c, .int .i64 n] w fun e w' => e = .returned (.bool (liveV es n)) ∧ Below w.heap.size w w' := by
  have hl := ents_len hr
  have hw : IntKind.i64.wrap ((m : Int) - 1) = (m : Int) - 1 := wr64s (by omega) (by omega)
  cases h1 : treeV es
  · have HV := Lib.hid (show liveV es n = false by unfold liveV; rw [h1]; rfl)
    clear hl
    go_enter Try.func31, Try.ntmps31
    go_wp2_with fail
    refine (iDerivationValid_any _ _ _ _ _ es _ hr hm).mono ?_
    rintro e w1 ⟨rfl, hb1⟩
    rw [h1]
    go_wp2
    go_ret
    exact ⟨by rw [HV.out]; rfl, hb1⟩
  · have hv : liveV es n = (inB n 0 ((m : Int) - 1) && !(es.getD n.toNat dfE).2.2) := by unfold liveV; rw [h1, hl, Bool.true_and]
    clear hl
    cases h2 : inB n 0 ((m : Int) - 1)
    · have HV := Lib.hid (show liveV es n = false by rw [hv, h2]; rfl)
      clear hv
      go_enter Try.func31, Try.ntmps31
      go_wp2_with fail
      refine (iDerivationValid_any _ _ _ _ _ es _ hr hm).mono ?_
      rintro e w1 ⟨rfl, hb1⟩
      rw [h1]
      go_wp2_with fail
      refine (in_any _ _ _ _).mono ?_
      rintro e w2 ⟨rfl, rfl⟩
      rw [h2]
      go_wp2
      go_ret
      exact ⟨by rw [HV.out]; rfl, hb1⟩
    · have hb2 := inB_true.1 h2
      obtain ⟨k, rfl⟩ := Int.eq_ofNat_of_zero_le hb2.1
      obtain ⟨g, o, kk, oo, rr, bb, pp, gg, rfl, hgl, hx, q0, q1, q2, q3, q4, q5⟩ := ent_at hr (show k < m by omega)
      have HV := Lib.hid (show liveV es (k : Int) = !gg by rw [hv, h2, Int.toNat_natCast, getD_of hx]; rfl)
      have hkm : (k : Int) < (m : Int) := by omega
      have hk0 : (0 : Int) ≤ (k : Int) := by omega
      have H2 := Lib.hid h2
      clear hv hx h2 hb2
      go_enter Try.func31, Try.ntmps31
      go_wp2_with fail
      refine (iDerivationValid_any _ _ _ _ _ es _ hr hm).mono ?_
      rintro e w1 ⟨rfl, hb1⟩
      rw [h1]
      have p5 := (hb1.cell (p := ⟨g, o + k * 6 + 5, none⟩) hgl).trans q5
      clear hr q0 q1 q2 q3 q4 q5
      go_wp2_with fail
      refine (in_any _ _ _ _).mono ?_
      rintro e w2 ⟨rfl, rfl⟩
      rw [H2.out]
      go_wp2
      go_ret
      exact ⟨by rw [HV.out]; rfl, hb1⟩
set_option maxHeartbeats 2000000 in
theorem l5Live_any (B T m c : Nat) (A : Option Addr) (es : List En) (n : Int) (w : World) (hr : Rd w B T 6 A m (ents es)) (hm : m ≤ 1048576) :
    Calls Try.prog 34 #[.slice A m c, .int .i64 n] w fun e w' => e = .returned (.bool (liveV es n)) ∧ Below w.heap.size w w' := by
  have hl := ents_len hr
  have hw : IntKind.i64.wrap ((m : Int) - 1) = (m : Int) - 1 := wr64s (by omega) (by omega)
  cases h1 : treeV es
  · have HV := Lib.hid (show liveV es n = false by unfold liveV; rw [h1]; rfl)
    clear hl
    go_enter Try.func34, Try.ntmps34
    go_wp2_with fail
    refine (sDerivationValid_any _ _ _ _ _ es _ hr hm).mono ?_
    rintro e w1 ⟨rfl, hb1⟩
    rw [h1]
    go_wp2
    go_ret
    exact ⟨by rw [HV.out]; rfl, hb1⟩
  · have hv : liveV es n = (inB n 0 ((m : Int) - 1) && !(es.getD n.toNat dfE).2.2) := by unfold liveV; rw [h1, hl, Bool.true_and]
    clear hl
    cases h2 : inB n 0 ((m : Int) - 1)
    · have HV := Lib.hid (show liveV es n = false by rw [hv, h2]; rfl)
      clear hv
      go_enter Try.func34, Try.ntmps34
      go_wp2_with fail
      refine (sDerivationValid_any _ _ _ _ _ es _ hr hm).mono ?_
      rintro e w1 ⟨rfl, hb1⟩
      rw [h1]
      go_wp2_with fail
      refine (l1In_any _ _ _ _).mono ?_
      rintro e w2 ⟨rfl, rfl⟩
      rw [h2]
      go_wp2
      go_ret
      exact ⟨by rw [HV.out]; rfl, hb1⟩
    · have hb2 := inB_true.1 h2
      obtain ⟨k, rfl⟩ := Int.eq_ofNat_of_zero_le hb2.1
      obtain ⟨g, o, kk, oo, rr, bb, pp, gg, rfl, hgl, hx, q0, q1, q2, q3, q4, q5⟩ := ent_at hr (show k < m by omega)
      have HV := Lib.hid (show liveV es (k : Int) = !gg by rw [hv, h2, Int.toNat_natCast, getD_of hx]; rfl)
      have hkm : (k : Int) < (m : Int) := by omega
      have hk0 : (0 : Int) ≤ (k : Int) := by omega
      have H2 := Lib.hid h2
      clear hv hx h2 hb2
      go_enter Try.func34, Try.ntmps34
      go_wp2_with fail
      refine (sDerivationValid_any _ _ _ _ _ es _ hr hm).mono ?_
      rintro e w1 ⟨rfl, hb1⟩
      rw [h1]
      have p5 := (hb1.cell (p := ⟨g, o + k * 6 + 5, none⟩) hgl).trans q5
      clear hr q0 q1 q2 q3 q4 q5
      go_wp2_with fail
      refine (l1In_any _ _ _ _).mono ?_
      rintro e w2 ⟨rfl, rfl⟩
      rw [H2.out]
      go_wp2
      go_ret
      exact ⟨by rw [HV.out]; rfl, hb1⟩
set_option maxHeartbeats 4000000 in
theorem descendants_any (B T m c : Nat) (A : Option Addr) (es : List En) (n : Nat) (w : World) (hr : Rd w B T 6 A m (ents es)) (hm : m ≤ 1048576) (hl : liveV es (n : Int) = true) :
    Calls Try.prog 33 #[.slice A m c, .int .i64 n] w (NewInts w (dI (descL es n))) := by
  obtain ⟨i0, hi0, hz0, hz1, hz2⟩ := info_parts Try.infoInt
  obtain ⟨j0, hj0, hy0, hy1, hy2⟩ := info_parts Try.infoBool
  have hlen := ents_len hr
  obtain ⟨h1, h2, h3, e, h4, h5⟩ := liveV_iff.1 hl
  have htr := (treeV_iff.1 h1).1
  have h30 := (treeV_iff.1 h1).2
  have hnm : n < m := by omega
  have hnm' : (n : Int) < (m : Int) := by omega
  have hn0 : (0 : Int) ≤ (n : Int) := by omega
  have HT := Lib.hid (And.intro htr hlen)
  replace hr := hr.here (by omega)
  clear hl h1 h2 h3 h4 h5 hlen htr
  go_enter Try.func33, Try.ntmps33
  go_wp2_with (at_make; refine wpList_mk _ rfl _ _ 65 rfl 4 j0 (.bool false) 1 Try.underlying65 hj0 hy0 hy1 _ _ _ _ m rfl rfl rfl rfl (by rw [hy2]; omega) (by unfold maxLen; omega) ?_; intro w1 hown hb1 hs1; obtain ⟨g1, o1', x1, x2, x3, x4, x5, x6, x7⟩ := hown.at_ (by omega); injection x1 with x1; injection x1 with xg xo; subst xg; subst xo; have hst := x7 n (.bool true) (by simp [size_madeCells]; omega); have hcn : ∃ v, w1.cell? ⟨w.heap.size, n, none⟩ = some v := ⟨_, by simpa using x5 n _ (List.getElem?_eq_getElem (by simp [size_madeCells]; omega))⟩; obtain ⟨vn, hcn⟩ := hcn; have hfn := x6 n; (try simp only [Nat.zero_add] at hst); have HW := Lib.hid hst; clear hown x5 x6 x7 hst; have z1 := hb1.size)
  go_loopw [6, 7] (fun a i wr => ∃ k : Nat, n + 1 ≤ k ∧ k ≤ m ∧ i = .int .i64 k ∧ ∃ (A2 : Option Addr) (q c2 : Nat) (cs : List Value), a = .slice A2 q c2 ∧ q ≤ k ∧ Own wr w.heap.size (w.heap.size + 1) 4 1 (some ⟨w.heap.size, 0, none⟩) m m cs ∧ FromTo cs es n k m ∧ Own wr (w.heap.size + 1) wr.heap.size 3 1 A2 q c2 (ints (dI (descTo es n k))) ∧ Below w.heap.size w wr ∧ w.heap.size < wr.heap.size) (fun _ i _ => m - (intOf i).toNat)
  case atStart => exact ⟨n + 1, by omega, by omega, by go_num, none, 0, 0, _, rfl, by omega, HW.out, FromTo.start hnm, by rw [descTo_low (by omega)]; exact Own.nil _ _ _ _ _ _, by (repeat (first | (with_reducible assumption) | (with_reducible exact Below.refl _ _) | (with_reducible refine Below.setCell ?_ (by first | (simp; done) | (simp; omega) | omega) _) | (with_reducible refine Below.alloc ?_ (by first | (simp; done) | (simp; omega) | omega) _) | (with_reducible refine Below.drew ?_) | (with_reducible refine Below.drewN ?_ _))), by (try simp) <;> omega⟩
  case round =>
    clear HW hb1 hcn hfn
    obtain ⟨k, hnk, hk, rfl, A2, q, c2, cs, rfl, hqk, hof, hft, hoo, hb, hwz⟩ := hrel
    by_cases hlt : k < m
    · obtain ⟨g, o, kk, oo, rr, bb, pp, gg, rfl, hgl, hx, q0, q1, q2, q3, q4, q5⟩ := ent_at hr hlt
      have hkk : (k : Int) < (m : Int) := by omega
      have hk0 : (0 : Int) ≤ (k : Int) := by omega
      have p4 := (hb.cell (p := ⟨g, o + k * 6 + 4, none⟩) hgl).trans q4
      have p5 := (hb.cell (p := ⟨g, o + k * 6 + 5, none⟩) hgl).trans q5
      have hfs := fr_step HT.out.1 (show n < k by omega) hx
      have hpb := (HT.out.1 k _ hx).2.2
      simp only at hfs hpb
      clear hx q0 q1 q2 q3 q4 q5
      have skip : fr es n k = false → FromTo cs es n (k + 1) m ∧ descTo es n (k + 1) = descTo es n k := fun h => ⟨hft.keep h, by rw [descTo_succ]; unfold isD; rw [h]; simp⟩
      cases gg
      · by_cases hp : 0 ≤ pp
        · obtain ⟨p, rfl⟩ := Int.eq_ofNat_of_zero_le hp
          have hpk : p < k := by omega
          have hpm : (p : Int) < (m : Int) := by omega
          have hfp := hft.2 p (by omega)
          rw [decide_eq_true hpk, Bool.true_and] at hfp
          obtain ⟨g9, o9, e9, f1, f2, f3, f4, f5, f6⟩ := hof.at_ (by omega)
          injection e9 with e9
          injection e9 with eg eo
          subst eg
          subst eo
          have hcp : wr.cell? ⟨w.heap.size, p, none⟩ = some (.bool (fr es n p)) := by simpa using f4 p _ hfp
          have hck : ∃ v, wr.cell? ⟨w.heap.size, k, none⟩ = some v := ⟨_, by simpa using f4 k _ (hft.2 k hlt)⟩
          obtain ⟨vk, hck⟩ := hck
          have hfk := f5 k
          have hset := f6 k (.bool true) (by rw [hft.1]; exact hlt)
          rw [Nat.zero_add] at hset
          rw [Int.toNat_natCast, decide_eq_true hp] at hfs
          cases hpp : fr es n p
          · rw [hpp] at hfs hcp
            have HS := Lib.hid (skip (by rw [hfs]; rfl))
            clear skip hfs hfp hpb hr f4 f5 f6 hck hset hfk hpp
            have HO := Lib.hid (And.intro hof hoo)
            clear hof hoo hft
            go_wp2
            go_roundw
            case rel => exact ⟨k + 1, by omega, by omega, by go_num, A2, q, c2, cs, rfl, by omega, HO.out.1, HS.out.1, by rw [HS.out.2]; exact HO.out.2, hb, hwz⟩
            case measure => simp [intOf]; omega
          · rw [hpp] at hfs hcp
            have hfk2 : fr es n k = true := by rw [hfs]; rfl
            have HF := Lib.hid (hft.put hlt hfk2)
            have HD := Lib.hid (show descTo es n (k + 1) = descTo es n k ++ [k] by rw [descTo_succ]; unfold isD; rw [hfk2, decide_eq_true (show n < k by omega)]; rfl)
            have HW2 := Lib.hid hset
            have hoo2 := hoo.set (p := ⟨w.heap.size, k, none⟩) (.inl (Nat.lt_succ_self _)) (.bool true)
            have hBk : Below w.heap.size w (wr.setCell ⟨w.heap.size, k, none⟩ (.bool true)) := by (repeat (first | (with_reducible assumption) | (with_reducible exact Below.refl _ _) | (with_reducible refine Below.setCell ?_ (by first | (simp; done) | (simp; omega) | omega) _) | (with_reducible refine Below.alloc ?_ (by first | (simp; done) | (simp; omega) | omega) _) | (with_reducible refine Below.drew ?_) | (with_reducible refine Below.drewN ?_ _)))
            obtain ⟨ds, hds⟩ : ∃ ds, dI (descTo es n k) = ds := ⟨_, rfl⟩
            rw [hds] at hoo2
            have HDS := Lib.hid hds
            clear skip hfs hfp hpb hr f4 f5 f6 hset hpp hfk2 hof hoo hft hds
            go_wp2_with (at_builtin; refine wpList_appg _ (by rfl) (.tmp 49) (.tmp 51) 33 rfl 3 i0 (.int .i64 0) 1 8 Try.underlying33 hi0 hz0 hz1 hz2 rfl (by omega) (w.heap.size + 1) wr.heap.size wr.heap.size (wr.heap.size + 1) A2 (some ⟨wr.heap.size, 0, none⟩) q c2 1 1 (ints ds) (ints [(k : Int)]) rfl rfl (by (repeat (first | (with_reducible assumption) | (with_reducible refine Own.alloc ?_ _) | (with_reducible refine Own.drew ?_) | (with_reducible refine Own.set ?_ (by first | (simp; done) | (simp; omega) | omega) _)))) (lit_rd _ #[.int .i64 (k : Int)] 3 1 _ (by simp) rfl (by unfold maxLen; omega)) (ints_one _) (by unfold maxLen; omega) (by omega) (by simp; omega) ?_; intro A3 c3 w3 o3 f3; have HW3 := Lib.hid (Own.fr (Own.alloc HW2.out (.cells #[.int .i64 (k : Int)] 3)) f3 (.inl (Nat.le_refl _))); have B3 := Below.trans (by (repeat (first | (with_reducible assumption) | (with_reducible exact Below.refl _ _) | (with_reducible refine Below.setCell ?_ (by first | (simp; done) | (simp; omega) | omega) _) | (with_reducible refine Below.alloc ?_ (by first | (simp; done) | (simp; omega) | omega) _) | (with_reducible refine Below.drew ?_) | (with_reducible refine Below.drewN ?_ _))) : Below w.heap.size w ((wr.setCell ⟨w.heap.size, k, none⟩ (.bool true)).alloc (.cells #[.int .i64 (k : Int)] 3))) (f3.below (W := w.heap.size) (by omega) (by (try simp) <;> omega)); have z3 := f3.size; (try simp at z3); have HO3 := Lib.hid o3; clear o3)
            go_roundw
            case rel => exact ⟨k + 1, by omega, by omega, by go_num, A3, q + 1, c3, cs.set k (.bool true), rfl, by omega, HW3.out, HF.out, by have h := HO3.out; rw [HD.out]; rw [← HDS.out, ← ints_append] at h; simpa [dI] using h, B3, by omega⟩
            case measure => simp [intOf]; omega
        · have hpd : decide ((0 : Int) ≤ pp) = false := decide_eq_false hp
          have HS := Lib.hid (skip (by rw [hfs, hpd]; rfl))
          have hpm : pp < 0 := by omega
          have HO := Lib.hid (And.intro hof hoo)
          clear skip hfs hpb hr hof hoo hft
          go_wp2
          go_roundw
          case rel => exact ⟨k + 1, by omega, by omega, by go_num, A2, q, c2, cs, rfl, by omega, HO.out.1, HS.out.1, by rw [HS.out.2]; exact HO.out.2, hb, hwz⟩
          case measure => simp [intOf]; omega
      · have HS := Lib.hid (skip (by rw [hfs]; rfl))
        have HO := Lib.hid (And.intro hof hoo)
        clear skip hfs hpb hr hof hoo hft
        go_wp2
        go_roundw
        case rel => exact ⟨k + 1, by omega, by omega, by go_num, A2, q, c2, cs, rfl, by omega, HO.out.1, HS.out.1, by rw [HS.out.2]; exact HO.out.2, hb, hwz⟩
        case measure => simp [intOf]; omega
    · have hkm : k = m := by omega
      subst hkm
      have HD := Lib.hid (show descTo es n k = descL es n by unfold descL; rw [HT.out.2])
      rw [HD.out] at hoo
      obtain ⟨ds, hds⟩ : ∃ ds, dI (descL es n) = ds := ⟨_, rfl⟩
      rw [hds] at hoo ⊢
      have hlq : ds.length = q := ints_len hoo.rd
      have hle := hoo.le
      have HO := Lib.hid hoo
      have HQ := Lib.hid hlq
      have HDS := Lib.hid hds
      clear hr hof hft hds hlq hoo
      go_wp2_with fail
      refine (Clip_any q c2 A2 wr ?_ hle (by omega)).mono ?_
      · intro h0
        obtain ⟨b, o, h, _⟩ := HO.out.rd.2 h0
        exact ⟨b, o, h⟩
      rintro e w2 ⟨rfl, rfl⟩
      go_wp2
      go_ret
      refine ⟨A2, q, by rw [HDS.out, HQ.out]; rfl, ?_, hb⟩
      rw [HDS.out, HQ.out]
      have h := HO.out.take (Nat.le_refl _) (Nat.le_refl _) hle
      rw [List.take_of_length_le (by rw [HO.out.1]; exact Nat.le_refl _)] at h
      exact h.mono (by omega) (Nat.le_refl _)
set_option maxHeartbeats 4000000 in
theorem removed_any (B T m c B2 T2 q c2 : Nat) (A A2 : Option Addr) (es : List En) (L : List Nat) (w : World) (hr : Rd w B T 6 A m (ents es)) (hm : m ≤ 1048576) (hr2 : Rd w B2 T2 1 A2 q (ints (dI L))) (hq : q ≤ 1048576) (hL : ∀ x ∈ L, x < m) :
    Calls Try.prog 38 #[.slice A m c, .slice A2 q c2] w (NewEnts w (removed es L)) := by
  have hlen := ents_len hr
  have hlq := ints_len hr2
  rw [dI_len] at hlq
  have HL := Lib.hid (And.intro hlen (And.intro hlq hL))
  replace hr2 := hr2.here Nat.one_pos
  clear hlen hlq hL
  go_enter Try.func38, Try.ntmps38
  go_wp2_with fail
  refine (cloneE_any _ _ _ _ _ es _ hr hm).mono ?_
  rintro e w1 ⟨A1, c1, rfl, o1, hb1⟩
  rw [HL.out.1] at o1 ⊢
  have hle := o1.le
  clear hr
  go_wp2
  go_loopw [12] (fun i wr => ∃ j : Nat, j ≤ q ∧ i = .int .i64 j ∧ Own wr w.heap.size w1.heap.size 39 6 A1 m c1 (ents (removed es (L.take j))) ∧ Below w.heap.size w wr ∧ w1.heap.size ≤ wr.heap.size) (fun i _ => q - (intOf i).toNat)
  case atStart => exact ⟨0, by omega, rfl, by rw [List.take_zero, removed_nil]; exact o1, hb1, Nat.le_refl _⟩
  case round =>
    clear o1 hb1
    obtain ⟨j, hj, rfl, ho, hb, hz⟩ := hrel
    by_cases hlt : j < q
    · obtain ⟨b, o, x, rfl, hbl, hx, hc⟩ := ints_at (hr2.below hb) hlt
      unfold dI at hx
      rw [List.getElem?_map] at hx
      obtain ⟨y, hy, rfl⟩ := Option.map_eq_some_iff.1 hx
      have hym := HL.out.2.2 y (List.mem_of_getElem? hy)
      have hjj : (j : Int) < (q : Int) := by omega
      have hj0 : (0 : Int) ≤ (j : Int) := by omega
      have hym' : (y : Int) < (m : Int) := by omega
      have hy0 : (0 : Int) ≤ (y : Int) := by omega
      have hlen2 : (removed es (L.take j)).length = m := by rw [removed_len, HL.out.1]
      obtain ⟨⟨cp, pp, gg⟩, he⟩ : ∃ e, (removed es (L.take j))[y]? = some e := ⟨_, List.getElem?_eq_getElem (by omega)⟩
      obtain ⟨g, a, rfl, h1, h2, h3, h4, ⟨u4, h5⟩, ⟨u5, h6⟩, h7, h8⟩ := ho.ent he
      have hset := h8 true
      rw [removed_step hy he] at hset
      have HS := Lib.hid hset
      have hfz := h4 (a + y * 6 + 5)
      have hnb : g ≠ b := by
        obtain ⟨b', o', e1, e2, e3, e4⟩ := hr2.lt Nat.one_pos (by omega)
        injection e1 with e1
        injection e1 with e1 _
        omega
      clear ho hx hy he hlen2 h4 h5 h7 h8 hset hr2
      go_wp2
      go_roundw
      case rel => exact ⟨j + 1, by omega, by go_num, HS.out, by (repeat (first | (with_reducible assumption) | (with_reducible exact Below.refl _ _) | (with_reducible refine Below.setCell ?_ (by first | (simp; done) | (simp; omega) | omega) _) | (with_reducible refine Below.alloc ?_ (by first | (simp; done) | (simp; omega) | omega) _) | (with_reducible refine Below.drew ?_) | (with_reducible refine Below.drewN ?_ _))), by simp; omega⟩
      case measure => simp [intOf]; omega
    · have hjq : j = q := by omega
      subst hjq
      have HO := Lib.hid (show Own wr w.heap.size w1.heap.size 39 6 A1 m c1 (ents (removed es L)) by rwa [List.take_of_length_le (by rw [HL.out.2.1]; exact Nat.le_refl _)] at ho)
      clear hr2 ho
      go_wp2
      go_ret
      have hl2 : (removed es L).length = m := by rw [removed_len, HL.out.1]
      exact ⟨A1, c1, by rw [hl2]; rfl, by rw [hl2]; exact HO.out.mono (Nat.le_refl _) hz, hb⟩
end Go.Proofs.Ytpgmfjipkhldmaa
