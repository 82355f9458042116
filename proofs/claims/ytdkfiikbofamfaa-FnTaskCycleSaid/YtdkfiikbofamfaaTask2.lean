/- Contracts of the seat's functions on threads, continued: become, TaskStart, TaskStop, TaskWait, TaskWake (impl and spec), toTask, eqTask. -/
import Derived.Test.YtdkfiikbofamfaaTask1
namespace Go.Proofs.Ytdkfiikbofamfaa
set_option linter.unusedVariables false
open Go.RowKit

/-- The fields of what 'become' gives: v: the thread is valid; may: it may. -/
def becS (v may : Bool) (s st : Int) : Int := if v then (if may then st else s) else 0
def becP (v : Bool) (p : Int) : Int := if v then p else 0
def becX (v may : Bool) (x ob : Int) : Int := if v then (if may then ob else x) else 0
def becO (v may : Bool) : Bool := v && may
abbrev becR (v may : Bool) (s p x st ob : Int) : Value := .tuple #[task (becS v may s st) (becP v p) (becX v may x ob), .bool (becO v may)]

set_option maxHeartbeats 400000 in
theorem become_any (s p x st ob : Int) (may : Bool) (w : World) :
    Calls Try.prog 37 #[task s p x, .int .i64 st, .int .i64 ob, .bool may] w fun e w' => e = .returned (becR (taskV s p x) may s p x st ob) ∧ Below w.heap.size w w' := by
  cases hv : taskV s p x <;> cases may
  all_goals
    go_enter Try.func37, Try.ntmps37
    go_wp2_with (go_at_call 16; refine (iTaskValid_any _ _ _ _).mono ?_; rintro e w' ⟨rfl, hb⟩; obtain ⟨hc, hf⟩ := bcell hb; have hz : w.heap.size + 1 < w'.heap.size := by { have := hb.size; simp at this; omega })
  · exact bodyPost_ret (v := becR false false s p x st ob) (by simp [results, Try.results37, go_sem, becS, becP, becX, becO, *]) rfl ⟨rfl, by (repeat (first | exact Below.refl _ _ | assumption | refine Below.setCell ?_ (by first | (simp; done) | (simp; omega) | omega) _ | refine Below.alloc1 ?_ _ | refine Below.alloc ?_ (by first | (simp; done) | (simp; omega) | omega) _ | refine Below.drew ?_ | refine Below.drewN ?_ _ | refine Below.via ?_ (by assumption)))⟩
  · exact bodyPost_ret (v := becR false true s p x st ob) (by simp [results, Try.results37, go_sem, becS, becP, becX, becO, *]) rfl ⟨rfl, by (repeat (first | exact Below.refl _ _ | assumption | refine Below.setCell ?_ (by first | (simp; done) | (simp; omega) | omega) _ | refine Below.alloc1 ?_ _ | refine Below.alloc ?_ (by first | (simp; done) | (simp; omega) | omega) _ | refine Below.drew ?_ | refine Below.drewN ?_ _ | refine Below.via ?_ (by assumption)))⟩
  · exact bodyPost_ret (v := becR true false s p x st ob) (by simp [results, Try.results37, go_sem, becS, becP, becX, becO, *]) rfl ⟨rfl, by (repeat (first | exact Below.refl _ _ | assumption | refine Below.setCell ?_ (by first | (simp; done) | (simp; omega) | omega) _ | refine Below.alloc1 ?_ _ | refine Below.alloc ?_ (by first | (simp; done) | (simp; omega) | omega) _ | refine Below.drew ?_ | refine Below.drewN ?_ _ | refine Below.via ?_ (by assumption)))⟩
  · exact bodyPost_ret (v := becR true true s p x st ob) (by simp [results, Try.results37, go_sem, becS, becP, becX, becO, *]) rfl ⟨rfl, by (repeat (first | exact Below.refl _ _ | assumption | refine Below.setCell ?_ (by first | (simp; done) | (simp; omega) | omega) _ | refine Below.alloc1 ?_ _ | refine Below.alloc ?_ (by first | (simp; done) | (simp; omega) | omega) _ | refine Below.drew ?_ | refine Below.drewN ?_ _ | refine Below.via ?_ (by assumption)))⟩
end Go.Proofs.Ytdkfiikbofamfaa
