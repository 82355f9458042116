/- Plain laws: unpacking what was packed, packing what was unpacked. -/
import Derived.Test.YthbfpgdfigilaaaUnpack2
namespace Go.Proofs.Ythbfpgdfigilaaa
set_option linter.unusedVariables false
open Go.RowKit
theorem unC_packC {c : Cp} (h : okC c = true) : unOk (packC c) = true ∧ unC (packC c) = c := by
  obtain ⟨k, o, r, b⟩ := c
  have h' : capOk k o r b = true := h
  obtain ⟨h1, h2, h3, h4, h5, h6, h7, h8⟩ := capOk_bounds h'
  have e : packC (k, o, r, b) = k + 8 * (o + 100 * (r + 16 * b)) := packF_yes h'
  have ek : uK (packC (k, o, r, b)) = k := by rw [e]; unfold uK; omega
  have eo : uO (packC (k, o, r, b)) = o := by rw [e]; unfold uO; omega
  have er : uR (packC (k, o, r, b)) = r := by rw [e]; unfold uR; omega
  have eb : uB (packC (k, o, r, b)) = b := by rw [e]; unfold uB; omega
  refine ⟨?_, ?_⟩
  · unfold unOk
    rw [ek, eo, er, eb, h', decide_eq_true (by rw [e]; omega)]
    rfl
  · unfold unC
    rw [ek, eo, er, eb]
theorem packC_unC {x : Int} (h : unOk x = true) : packC (unC x) = x := by
  unfold unOk at h
  simp only [Bool.and_eq_true, decide_eq_true_eq] at h
  exact un_packF h.1 h.2
theorem packC_hi {c : Cp} (h : okC c = true) : 0 ≤ packC c ∧ packC c ≤ 100000000 := by
  obtain ⟨k, o, r, b⟩ := c
  have h' : capOk k o r b = true := h
  obtain ⟨h1, h2, h3, h4, h5, h6, h7, h8⟩ := capOk_bounds h'
  have e : packC (k, o, r, b) = k + 8 * (o + 100 * (r + 16 * b)) := packF_yes h'
  rw [e]
  omega
theorem unpack_pack {l : Int} {xs : List Int} {cs : List Cp} (h : msgOk l xs cs = true) : unpB (packL l xs cs) = l ∧ unpX (packL l xs cs) = xs ∧ unpC (packL l xs cs) = cs ∧ unpOk (packL l xs cs) = true := by
  have hl := msgOk_len h
  have hp := packL_yes h
  have g0 : (packL l xs cs).getD 0 0 = l := by rw [hp]; rfl
  have g1 : (packL l xs cs).getD 1 0 = (xs.length : Int) + 16 * (cs.length : Int) := by rw [hp]; rfl
  have hP : uP (packL l xs cs) = (xs.length : Int) := by unfold uP; rw [g1]; omega
  have hQ : uQ (packL l xs cs) = (cs.length : Int) := by unfold uQ; rw [g1]; omega
  have hlen : (packL l xs cs).length = 2 + xs.length + cs.length := by rw [hp]; simp; omega
  have hW : uWords (packL l xs cs) = xs := by unfold uWords; rw [hP, hp]; simp
  have hT : uTail (packL l xs cs) = cs.map packC := by
    unfold uTail
    rw [hP, hp, Int.toNat_natCast, show 2 + xs.length = ([l, (xs.length : Int) + 16 * (cs.length : Int)] ++ xs).length by simp; omega, List.drop_left]
  have key : ∀ c ∈ cs, okC c = true := by
    unfold msgOk cOk at h
    simp only [Bool.and_eq_true, List.all_eq_true] at h
    exact h.2.2.2.1
  have hC : (cs.map packC).map unC = cs := by
    rw [List.map_map]
    conv => rhs; rw [← List.map_id cs]
    exact List.map_congr_left fun c hc => (unC_packC (key c hc)).2
  have hall : (cs.map packC).all unOk = true := by
    rw [List.all_eq_true]
    intro x hx
    obtain ⟨c, hc, rfl⟩ := List.mem_map.1 hx
    exact (unC_packC (key c hc)).1
  have h0 : unp0 (packL l xs cs) = true := by
    unfold unp0
    rw [hP, hQ, hlen, g1, decide_eq_true (by omega), decide_eq_true (by omega), decide_eq_true (by omega), decide_eq_true (by omega), decide_eq_true (by omega)]
    rfl
  have hok : unpOk (packL l xs cs) = true := by rw [unpOk_rest h0 (by rw [hT]; exact hall), g0, hW, hT, hC, h]
  obtain ⟨e1, e2, e3, e4⟩ := unp_yes hok
  exact ⟨by rw [e1, g0], by rw [e2, hW], by rw [e3, hT, hC], hok⟩
theorem pack_unpack {xs : List Int} (h : unpOk xs = true) : packL (unpB xs) (unpX xs) (unpC xs) = xs ∧ msgOk (unpB xs) (unpX xs) (unpC xs) = true := by
  obtain ⟨e1, e2, e3, e4⟩ := unp_yes h
  rw [e1, e2, e3]
  unfold unpOk at h
  simp only [Bool.and_eq_true] at h
  obtain ⟨h0, hall, hm⟩ := h
  refine ⟨?_, hm⟩
  rw [packL_yes hm]
  unfold unp0 at h0
  simp only [Bool.and_eq_true, decide_eq_true_eq] at h0
  obtain ⟨c1, c2, c3, c4, c5⟩ := h0
  have hp0 : 0 ≤ uP xs := by unfold uP; omega
  have hq0 : 0 ≤ uQ xs := by unfold uQ; omega
  have hsum : xs.getD 1 0 = uP xs + 16 * uQ xs := by unfold uP uQ; omega
  obtain ⟨p, hp⟩ := Int.eq_ofNat_of_zero_le hp0
  obtain ⟨q, hq⟩ := Int.eq_ofNat_of_zero_le hq0
  have lw : (uWords xs).length = p := by unfold uWords; rw [hp]; simp; omega
  have lt : ((uTail xs).map unC).length = q := by unfold uTail; rw [hp]; simp; omega
  have ht : ((uTail xs).map unC).map packC = uTail xs := by
    rw [List.map_map]
    conv => rhs; rw [← List.map_id (uTail xs)]
    exact List.map_congr_left fun x hx => packC_unC (List.all_eq_true.1 hall x hx)
  rw [ht, lw, lt]
  match xs, c1 with
  | x0 :: a :: rest, _ =>
    have ha : a = uP (x0 :: a :: rest) + 16 * uQ (x0 :: a :: rest) := hsum
    rw [hp, hq] at ha
    have e5 : uWords (x0 :: a :: rest) ++ uTail (x0 :: a :: rest) = rest := by
      unfold uWords uTail
      rw [hp]
      simp [Nat.add_comm 2]
    show x0 :: ((p : Int) + 16 * (q : Int)) :: (uWords (x0 :: a :: rest) ++ uTail (x0 :: a :: rest)) = _
    rw [e5, ← ha]
theorem pack_hi {l : Int} {xs : List Int} {cs : List Cp} (h : msgOk l xs cs = true) : 2 ≤ (packL l xs cs).length ∧ (packL l xs cs).length ≤ 13 ∧ ∀ x ∈ packL l xs cs, x ≤ 9223372036854775807 := by
  have hl := msgOk_len h
  have h' := h
  unfold msgOk cOk wOk at h'
  simp only [Bool.and_eq_true, List.all_eq_true, inB_true] at h'
  rw [packL_yes h]
  refine ⟨by simp <;> omega, by simp <;> omega, fun x hx => ?_⟩
  simp only [List.mem_append, List.mem_cons, List.not_mem_nil, or_false, List.mem_map] at hx
  rcases hx with ((rfl | rfl) | hx) | ⟨c, hc, rfl⟩
  · have := h'.1; omega
  · omega
  · have := h'.2.2.2.2.1 x hx; omega
  · have := packC_hi (h'.2.2.2.1 c hc); omega
end Go.Proofs.Ythbfpgdfigilaaa
