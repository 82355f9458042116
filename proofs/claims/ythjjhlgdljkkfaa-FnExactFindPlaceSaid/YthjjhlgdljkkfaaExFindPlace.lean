/- The walk of the law FnExactFindPlace: it returns true and leaves all that was in memory as it was, for every list. -/
import Derived.Test.YthjjhlgdljkkfaaPlaces1
namespace Go.Proofs.Ythjjhlgdljkkfaa
set_option linter.unusedVariables false
open Go.RowKit
set_option maxHeartbeats 1000000 in
theorem law_ExactFindPlace (B T n c : Nat) (A : Option Addr) (xs : List Int) (v : Int) (w : World) (hr : Rd w B T 1 A n (ints xs)) :
    Calls Try.prog 4 #[.slice A n c, .int .i64 v] w fun e w' => e = .returned (.bool true) ∧ Below w.heap.size w w' := by
  have hl := ints_len hr
  subst hl
  by_cases hbig : 1048576 < xs.length
  · have hd : (1048576 : Int) < (xs.length : Int) := by omega
    go_enter Try.func4, Try.ntmps4
    go_wp2_with fail
    go_ret
    exact ⟨rfl, Below.refl _ _⟩
  · have hn : xs.length ≤ 1048576 := by omega
    have hd : ¬ (1048576 : Int) < (xs.length : Int) := by omega
    go_enter Try.func4, Try.ntmps4
    go_wp2_with fail
    refine (toIntS_any B T xs.length c A xs _ hr hn).mono ?_
    rintro e w1 ⟨A1, c1, rfl, o1, hb1⟩
    go_wp2_with fail
    refine (sFindPlace_any _ _ _ _ _ xs v _ o1.rd hn).mono ?_
    rintro e w2 ⟨rfl, hb2⟩
    go_wp2_with fail
    refine (toIntS_any B T xs.length c A xs _ ((hr.below hb1).below hb2) hn).mono ?_
    rintro e w3 ⟨A3, c3, rfl, o3, hb3⟩
    go_wp2_with fail
    refine (iFindPlace_any _ _ _ _ _ xs v _ o3.rd hn o3.le).mono ?_
    rintro e w4 ⟨rfl, hb4⟩
    go_wp2_with fail
    refine (toIntS_any B T xs.length c A xs _ ((((hr.below hb1).below hb2).below hb3).below hb4) hn).mono ?_
    rintro e w5 ⟨A5, c5, rfl, o5, hb5⟩
    go_wp2_with fail
    refine (eqIntS_any _ _ _ _ _ _ _ _ _ _ xs xs _ (((o3.below hb4).below hb5).rd) o5.rd hn).mono ?_
    rintro e w6 ⟨rfl, hb6⟩
    go_wp2
    go_ret
    exact ⟨rfl, by (repeat (first | exact Below.refl _ _ | assumption | refine Below.setCell ?_ (by first | (simp; done) | (simp; omega) | omega) _ | refine Below.alloc1 ?_ _ | refine Below.alloc ?_ (by first | (simp; done) | (simp; omega) | omega) _ | refine Below.drew ?_ | refine Below.drewN ?_ _ | refine Below.via ?_ (by assumption)))⟩
end Go.Proofs.Ythjjhlgdljkkfaa
