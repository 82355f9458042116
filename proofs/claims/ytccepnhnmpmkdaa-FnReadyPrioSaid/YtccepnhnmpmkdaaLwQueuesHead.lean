/- The texts that the laws on drawn queues need. -/
import Derived.Test.YtccepnhnmpmkdaaDrawQ3
import Derived.Test.YtccepnhnmpmkdaaQPlain2
import Derived.Test.YtccepnhnmpmkdaaAlive
namespace Go.Proofs.Ytccepnhnmpmkdaa
set_option linter.unusedVariables false
open Go.RowKit
section
variable {w : World} {B T n : Nat} {A : Option Addr} {yss : List (List Int)}
/-- Rows, taken apart. -/
theorem Rows.parts (h : Rows w B T A n yss) : ∃ cs : List Value, Rd w B T 1 A n cs ∧ (∀ u ∈ cs, u.oneCell' = true) ∧ ∀ (k : Nat) (ys : List Int), yss[k]? = some ys → ∃ A' c', cs[k]? = some (.slice A' ys.length c') ∧ ys.length ≤ c' ∧ Rd w B T 1 A' ys.length (ints ys) := by
  obtain ⟨h1, cs, h2, h3⟩ := h
  refine ⟨cs, h2, fun u hu => ?_, h3⟩
  obtain ⟨k, hk⟩ := List.getElem?_of_mem hu
  have hl : k < cs.length := (List.getElem?_eq_some_iff.1 hk).1
  have hn : cs.length = n := by have := h2.1; omega
  obtain ⟨A', c', e, -⟩ := h3 k _ (List.getElem?_eq_getElem (by omega))
  rw [hk] at e
  injection e with e
  rw [e]
  rfl
theorem blk_rd {b : Nat} {e : TypeId} {cs : Array Value} (h : Blk w b e cs) {n : Nat} (hs : cs.size = n) : Rd w b (b + 1) 1 (some ⟨b, 0, none⟩) n cs.toList :=
  ⟨by simpa using hs, fun _ => ⟨b, 0, rfl, Nat.le_refl _, Nat.lt_succ_self _, fun j u hu => h.cell (0 + j) (by simpa using hu)⟩⟩
/-- Row 0 in another place. -/
theorem Rows.set0 {cs : List Value} {A' : Option Addr} {c' : Nat} {zs : List Int} (hl : yss.length = n) (h2 : Rd w B T 1 A n (cs.set 0 (.slice A' zs.length c'))) (h3 : ∀ (k : Nat) (ys : List Int), yss[k]? = some ys → ∃ A' c', cs[k]? = some (.slice A' ys.length c') ∧ ys.length ≤ c' ∧ Rd w B T 1 A' ys.length (ints ys))
    (hc : zs.length ≤ c') (hz : Rd w B T 1 A' zs.length (ints zs)) : Rows w B T A n (yss.set 0 zs) := by
  have hn : cs.length = n := by have := h2.1; rw [List.length_set] at this; omega
  refine ⟨by rw [List.length_set]; exact hl, _, h2, fun k ys hk => ?_⟩
  cases k with
  | zero =>
    have hk0 : 0 < yss.length := by have := (List.getElem?_eq_some_iff.1 hk).1; rwa [List.length_set] at this
    rw [List.getElem?_set_self hk0] at hk
    injection hk with hk
    subst hk
    exact ⟨A', c', List.getElem?_set_self (by omega), hc, hz⟩
  | succ k =>
    rw [List.getElem?_set_ne (by omega)] at hk
    obtain ⟨A2, c2, x1, x2, x3⟩ := h3 _ ys hk
    exact ⟨A2, c2, by rw [List.getElem?_set_ne (by omega)]; exact x1, x2, x3⟩
end
end Go.Proofs.Ytccepnhnmpmkdaa
