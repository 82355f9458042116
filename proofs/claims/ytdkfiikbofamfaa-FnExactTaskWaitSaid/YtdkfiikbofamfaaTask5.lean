/- toTask, eqTask; the walks of the laws FnExactTask..: each returns true and leaves all that was in memory as it was. -/
import Derived.Test.YtdkfiikbofamfaaTask4
namespace Go.Proofs.Ytdkfiikbofamfaa
set_option linter.unusedVariables false
open Go.RowKit
set_option maxHeartbeats 400000 in
theorem toTask_any (s p x : Int) (w : World) : Calls Try.prog 15 #[task s p x] w fun e w' => e = .returned (task s p x) ∧ Below w.heap.size w w' := by
  go_enter Try.func15, Try.ntmps15
  go_wp2
  refine bodyPost_ret (v := task s p x) (by simp [results, Try.results15, go_sem]) rfl ⟨rfl, by (repeat (first | exact Below.refl _ _ | assumption | refine Below.setCell ?_ (by first | (simp; done) | (simp; omega) | omega) _ | refine Below.alloc ?_ (by first | (simp; done) | (simp; omega) | omega) _ | refine Below.drew ?_ | refine Below.drewN ?_ _ | refine Below.via ?_ (by assumption)))⟩
set_option maxHeartbeats 400000 in
theorem eqTask_same (s p x : Int) (w : World) : Calls Try.prog 19 #[task s p x, task s p x] w fun e w' => e = .returned (.bool true) ∧ Below w.heap.size w w' := by
  go_enter Try.func19, Try.ntmps19
  go_wp2
  go_ret
  exact ⟨rfl, by (repeat (first | exact Below.refl _ _ | assumption | refine Below.setCell ?_ (by first | (simp; done) | (simp; omega) | omega) _ | refine Below.alloc ?_ (by first | (simp; done) | (simp; omega) | omega) _ | refine Below.drew ?_ | refine Below.drewN ?_ _ | refine Below.via ?_ (by assumption)))⟩
set_option maxHeartbeats 400000 in
theorem law_ExactTaskValid (s p x : Int) (w : World) : Calls Try.prog 3 #[task s p x] w fun e w' => e = .returned (.bool true) ∧ Below w.heap.size w w' := by
  go_enter Try.func3, Try.ntmps3
  go_wp2_with (first
    | (go_at_call 15; refine (toTask_any _ _ _ _).mono ?_; rintro e w' ⟨rfl, hb⟩; obtain ⟨hc, hf⟩ := bcell hb; have hz := hb.size; (try simp at hz); have k0 : w'.cell? ⟨w.heap.size, 0, none⟩ = some (.int .i64 s) := by { rw [hc _ _ (by first | (simp; done) | (simp; omega) | omega)]; first | assumption | (simp; done) | (simp [*]; done) | (simp [go_sem, *]; done) }; have f0 : w'.frozen? ⟨w.heap.size, 0, none⟩ = false := by { rw [hf _ _ (by first | (simp; done) | (simp; omega) | omega)]; first | assumption | (simp; done) | (simp [*]; done) | (simp [go_sem, *]; done) }; have k1 : w'.cell? ⟨w.heap.size, 1, none⟩ = some (.int .i64 p) := by { rw [hc _ _ (by first | (simp; done) | (simp; omega) | omega)]; first | assumption | (simp; done) | (simp [*]; done) | (simp [go_sem, *]; done) }; have f1 : w'.frozen? ⟨w.heap.size, 1, none⟩ = false := by { rw [hf _ _ (by first | (simp; done) | (simp; omega) | omega)]; first | assumption | (simp; done) | (simp [*]; done) | (simp [go_sem, *]; done) }; have k2 : w'.cell? ⟨w.heap.size, 2, none⟩ = some (.int .i64 x) := by { rw [hc _ _ (by first | (simp; done) | (simp; omega) | omega)]; first | assumption | (simp; done) | (simp [*]; done) | (simp [go_sem, *]; done) }; have f2 : w'.frozen? ⟨w.heap.size, 2, none⟩ = false := by { rw [hf _ _ (by first | (simp; done) | (simp; omega) | omega)]; first | assumption | (simp; done) | (simp [*]; done) | (simp [go_sem, *]; done) }; clear hc hf)
    | (go_at_call 14; refine (sTaskValid_any _ _ _ _).mono ?_; rintro e w' ⟨rfl, hb⟩; obtain ⟨hc, hf⟩ := bcell hb; have hz := hb.size; (try simp at hz); have k0 : w'.cell? ⟨w.heap.size, 0, none⟩ = some (.int .i64 s) := by { rw [hc _ _ (by first | (simp; done) | (simp; omega) | omega)]; first | assumption | (simp; done) | (simp [*]; done) | (simp [go_sem, *]; done) }; have f0 : w'.frozen? ⟨w.heap.size, 0, none⟩ = false := by { rw [hf _ _ (by first | (simp; done) | (simp; omega) | omega)]; first | assumption | (simp; done) | (simp [*]; done) | (simp [go_sem, *]; done) }; have k1 : w'.cell? ⟨w.heap.size, 1, none⟩ = some (.int .i64 p) := by { rw [hc _ _ (by first | (simp; done) | (simp; omega) | omega)]; first | assumption | (simp; done) | (simp [*]; done) | (simp [go_sem, *]; done) }; have f1 : w'.frozen? ⟨w.heap.size, 1, none⟩ = false := by { rw [hf _ _ (by first | (simp; done) | (simp; omega) | omega)]; first | assumption | (simp; done) | (simp [*]; done) | (simp [go_sem, *]; done) }; have k2 : w'.cell? ⟨w.heap.size, 2, none⟩ = some (.int .i64 x) := by { rw [hc _ _ (by first | (simp; done) | (simp; omega) | omega)]; first | assumption | (simp; done) | (simp [*]; done) | (simp [go_sem, *]; done) }; have f2 : w'.frozen? ⟨w.heap.size, 2, none⟩ = false := by { rw [hf _ _ (by first | (simp; done) | (simp; omega) | omega)]; first | assumption | (simp; done) | (simp [*]; done) | (simp [go_sem, *]; done) }; clear hc hf)
    | (go_at_call 16; refine (iTaskValid_any _ _ _ _).mono ?_; rintro e w' ⟨rfl, hb⟩; obtain ⟨hc, hf⟩ := bcell hb; have hz := hb.size; (try simp at hz); have k0 : w'.cell? ⟨w.heap.size, 0, none⟩ = some (.int .i64 s) := by { rw [hc _ _ (by first | (simp; done) | (simp; omega) | omega)]; first | assumption | (simp; done) | (simp [*]; done) | (simp [go_sem, *]; done) }; have f0 : w'.frozen? ⟨w.heap.size, 0, none⟩ = false := by { rw [hf _ _ (by first | (simp; done) | (simp; omega) | omega)]; first | assumption | (simp; done) | (simp [*]; done) | (simp [go_sem, *]; done) }; have k1 : w'.cell? ⟨w.heap.size, 1, none⟩ = some (.int .i64 p) := by { rw [hc _ _ (by first | (simp; done) | (simp; omega) | omega)]; first | assumption | (simp; done) | (simp [*]; done) | (simp [go_sem, *]; done) }; have f1 : w'.frozen? ⟨w.heap.size, 1, none⟩ = false := by { rw [hf _ _ (by first | (simp; done) | (simp; omega) | omega)]; first | assumption | (simp; done) | (simp [*]; done) | (simp [go_sem, *]; done) }; have k2 : w'.cell? ⟨w.heap.size, 2, none⟩ = some (.int .i64 x) := by { rw [hc _ _ (by first | (simp; done) | (simp; omega) | omega)]; first | assumption | (simp; done) | (simp [*]; done) | (simp [go_sem, *]; done) }; have f2 : w'.frozen? ⟨w.heap.size, 2, none⟩ = false := by { rw [hf _ _ (by first | (simp; done) | (simp; omega) | omega)]; first | assumption | (simp; done) | (simp [*]; done) | (simp [go_sem, *]; done) }; clear hc hf))
  all_goals go_ret
  exact ⟨rfl, by (repeat (first | exact Below.refl _ _ | assumption | refine Below.setCell ?_ (by first | (simp; done) | (simp; omega) | omega) _ | refine Below.alloc ?_ (by first | (simp; done) | (simp; omega) | omega) _ | refine Below.drew ?_ | refine Below.drewN ?_ _ | refine Below.via ?_ (by assumption)))⟩
set_option maxHeartbeats 1000000 in
theorem law_ExactTaskStart (s p x : Int) (w : World) : Calls Try.prog 5 #[task s p x] w fun e w' => e = .returned (.bool true) ∧ Below w.heap.size w w' := by
  go_enter Try.func5, Try.ntmps5
  go_wp2_with fail
  refine (toTask_any _ _ _ _).mono ?_
  rintro e w1 ⟨rfl, hb1⟩
  have hz1 := hb1.size
  (try simp at hz1)
  obtain ⟨hc, hf⟩ := bcell hb1
  have k1_0 : w1.cell? ⟨w.heap.size, 0, none⟩ = some (.int .i64 (s)) := by { rw [hc _ _ (by first | (simp; done) | (simp; omega) | omega)]; first | assumption | (simp; done) | (simp [*]; done) | (simp [go_sem, *]; done) }
  have f1_0 : w1.frozen? ⟨w.heap.size, 0, none⟩ = false := by { rw [hf _ _ (by first | (simp; done) | (simp; omega) | omega)]; first | assumption | (simp; done) | (simp [*]; done) | (simp [go_sem, *]; done) }
  have k1_1 : w1.cell? ⟨w.heap.size, 1, none⟩ = some (.int .i64 (p)) := by { rw [hc _ _ (by first | (simp; done) | (simp; omega) | omega)]; first | assumption | (simp; done) | (simp [*]; done) | (simp [go_sem, *]; done) }
  have f1_1 : w1.frozen? ⟨w.heap.size, 1, none⟩ = false := by { rw [hf _ _ (by first | (simp; done) | (simp; omega) | omega)]; first | assumption | (simp; done) | (simp [*]; done) | (simp [go_sem, *]; done) }
  have k1_2 : w1.cell? ⟨w.heap.size, 2, none⟩ = some (.int .i64 (x)) := by { rw [hc _ _ (by first | (simp; done) | (simp; omega) | omega)]; first | assumption | (simp; done) | (simp [*]; done) | (simp [go_sem, *]; done) }
  have f1_2 : w1.frozen? ⟨w.heap.size, 2, none⟩ = false := by { rw [hf _ _ (by first | (simp; done) | (simp; omega) | omega)]; first | assumption | (simp; done) | (simp [*]; done) | (simp [go_sem, *]; done) }
  clear hc hf
  have l1_0 : w.heap.size < w1.heap.size := by omega
  go_wp2_with fail
  refine (sTaskStart_any _ _ _ _).mono ?_
  rintro e w2 ⟨rfl, hb2⟩
  have hz2 := hb2.size
  (try simp at hz2)
  obtain ⟨hc, hf⟩ := bcell hb2
  have k2_0 : w2.cell? ⟨w.heap.size, 0, none⟩ = some (.int .i64 (s)) := by { rw [hc _ _ (by first | (simp; done) | (simp; omega) | omega)]; first | assumption | (simp; done) | (simp [*]; done) | (simp [go_sem, *]; done) }
  have f2_0 : w2.frozen? ⟨w.heap.size, 0, none⟩ = false := by { rw [hf _ _ (by first | (simp; done) | (simp; omega) | omega)]; first | assumption | (simp; done) | (simp [*]; done) | (simp [go_sem, *]; done) }
  have k2_1 : w2.cell? ⟨w.heap.size, 1, none⟩ = some (.int .i64 (p)) := by { rw [hc _ _ (by first | (simp; done) | (simp; omega) | omega)]; first | assumption | (simp; done) | (simp [*]; done) | (simp [go_sem, *]; done) }
  have f2_1 : w2.frozen? ⟨w.heap.size, 1, none⟩ = false := by { rw [hf _ _ (by first | (simp; done) | (simp; omega) | omega)]; first | assumption | (simp; done) | (simp [*]; done) | (simp [go_sem, *]; done) }
  have k2_2 : w2.cell? ⟨w.heap.size, 2, none⟩ = some (.int .i64 (x)) := by { rw [hc _ _ (by first | (simp; done) | (simp; omega) | omega)]; first | assumption | (simp; done) | (simp [*]; done) | (simp [go_sem, *]; done) }
  have f2_2 : w2.frozen? ⟨w.heap.size, 2, none⟩ = false := by { rw [hf _ _ (by first | (simp; done) | (simp; omega) | omega)]; first | assumption | (simp; done) | (simp [*]; done) | (simp [go_sem, *]; done) }
  clear hc hf
  have l2_0 : w.heap.size < w2.heap.size := by omega
  go_wp2_with fail
  refine (toTask_any _ _ _ _).mono ?_
  rintro e w3 ⟨rfl, hb3⟩
  have hz3 := hb3.size
  (try simp at hz3)
  obtain ⟨hc, hf⟩ := bcell hb3
  have k3_0 : w3.cell? ⟨w.heap.size, 0, none⟩ = some (.int .i64 (s)) := by { rw [hc _ _ (by first | (simp; done) | (simp; omega) | omega)]; first | assumption | (simp; done) | (simp [*]; done) | (simp [go_sem, *]; done) }
  have f3_0 : w3.frozen? ⟨w.heap.size, 0, none⟩ = false := by { rw [hf _ _ (by first | (simp; done) | (simp; omega) | omega)]; first | assumption | (simp; done) | (simp [*]; done) | (simp [go_sem, *]; done) }
  have k3_1 : w3.cell? ⟨w.heap.size, 1, none⟩ = some (.int .i64 (p)) := by { rw [hc _ _ (by first | (simp; done) | (simp; omega) | omega)]; first | assumption | (simp; done) | (simp [*]; done) | (simp [go_sem, *]; done) }
  have f3_1 : w3.frozen? ⟨w.heap.size, 1, none⟩ = false := by { rw [hf _ _ (by first | (simp; done) | (simp; omega) | omega)]; first | assumption | (simp; done) | (simp [*]; done) | (simp [go_sem, *]; done) }
  have k3_2 : w3.cell? ⟨w.heap.size, 2, none⟩ = some (.int .i64 (x)) := by { rw [hc _ _ (by first | (simp; done) | (simp; omega) | omega)]; first | assumption | (simp; done) | (simp [*]; done) | (simp [go_sem, *]; done) }
  have f3_2 : w3.frozen? ⟨w.heap.size, 2, none⟩ = false := by { rw [hf _ _ (by first | (simp; done) | (simp; omega) | omega)]; first | assumption | (simp; done) | (simp [*]; done) | (simp [go_sem, *]; done) }
  have k3_3 : w3.cell? ⟨w2.heap.size, 0, none⟩ = some (.int .i64 (becS (taskV s p x) (mayStart s) s 1)) := by { rw [hc _ _ (by first | (simp; done) | (simp; omega) | omega)]; first | assumption | (simp; done) | (simp [*]; done) | (simp [go_sem, *]; done) }
  have f3_3 : w3.frozen? ⟨w2.heap.size, 0, none⟩ = false := by { rw [hf _ _ (by first | (simp; done) | (simp; omega) | omega)]; first | assumption | (simp; done) | (simp [*]; done) | (simp [go_sem, *]; done) }
  have k3_4 : w3.cell? ⟨w2.heap.size, 1, none⟩ = some (.int .i64 (becP (taskV s p x) p)) := by { rw [hc _ _ (by first | (simp; done) | (simp; omega) | omega)]; first | assumption | (simp; done) | (simp [*]; done) | (simp [go_sem, *]; done) }
  have f3_4 : w3.frozen? ⟨w2.heap.size, 1, none⟩ = false := by { rw [hf _ _ (by first | (simp; done) | (simp; omega) | omega)]; first | assumption | (simp; done) | (simp [*]; done) | (simp [go_sem, *]; done) }
  have k3_5 : w3.cell? ⟨w2.heap.size, 2, none⟩ = some (.int .i64 (becX (taskV s p x) (mayStart s) x (-1))) := by { rw [hc _ _ (by first | (simp; done) | (simp; omega) | omega)]; first | assumption | (simp; done) | (simp [*]; done) | (simp [go_sem, *]; done) }
  have f3_5 : w3.frozen? ⟨w2.heap.size, 2, none⟩ = false := by { rw [hf _ _ (by first | (simp; done) | (simp; omega) | omega)]; first | assumption | (simp; done) | (simp [*]; done) | (simp [go_sem, *]; done) }
  clear hc hf
  have l3_0 : w.heap.size < w3.heap.size := by omega
  have l3_1 : w2.heap.size < w3.heap.size := by omega
  go_wp2_with fail
  refine (iTaskStart_any _ _ _ _).mono ?_
  rintro e w4 ⟨rfl, hb4⟩
  have hz4 := hb4.size
  (try simp at hz4)
  obtain ⟨hc, hf⟩ := bcell hb4
  have k4_0 : w4.cell? ⟨w.heap.size, 0, none⟩ = some (.int .i64 (s)) := by { rw [hc _ _ (by first | (simp; done) | (simp; omega) | omega)]; first | assumption | (simp; done) | (simp [*]; done) | (simp [go_sem, *]; done) }
  have f4_0 : w4.frozen? ⟨w.heap.size, 0, none⟩ = false := by { rw [hf _ _ (by first | (simp; done) | (simp; omega) | omega)]; first | assumption | (simp; done) | (simp [*]; done) | (simp [go_sem, *]; done) }
  have k4_1 : w4.cell? ⟨w.heap.size, 1, none⟩ = some (.int .i64 (p)) := by { rw [hc _ _ (by first | (simp; done) | (simp; omega) | omega)]; first | assumption | (simp; done) | (simp [*]; done) | (simp [go_sem, *]; done) }
  have f4_1 : w4.frozen? ⟨w.heap.size, 1, none⟩ = false := by { rw [hf _ _ (by first | (simp; done) | (simp; omega) | omega)]; first | assumption | (simp; done) | (simp [*]; done) | (simp [go_sem, *]; done) }
  have k4_2 : w4.cell? ⟨w.heap.size, 2, none⟩ = some (.int .i64 (x)) := by { rw [hc _ _ (by first | (simp; done) | (simp; omega) | omega)]; first | assumption | (simp; done) | (simp [*]; done) | (simp [go_sem, *]; done) }
  have f4_2 : w4.frozen? ⟨w.heap.size, 2, none⟩ = false := by { rw [hf _ _ (by first | (simp; done) | (simp; omega) | omega)]; first | assumption | (simp; done) | (simp [*]; done) | (simp [go_sem, *]; done) }
  have k4_3 : w4.cell? ⟨w2.heap.size, 0, none⟩ = some (.int .i64 (becS (taskV s p x) (mayStart s) s 1)) := by { rw [hc _ _ (by first | (simp; done) | (simp; omega) | omega)]; first | assumption | (simp; done) | (simp [*]; done) | (simp [go_sem, *]; done) }
  have f4_3 : w4.frozen? ⟨w2.heap.size, 0, none⟩ = false := by { rw [hf _ _ (by first | (simp; done) | (simp; omega) | omega)]; first | assumption | (simp; done) | (simp [*]; done) | (simp [go_sem, *]; done) }
  have k4_4 : w4.cell? ⟨w2.heap.size, 1, none⟩ = some (.int .i64 (becP (taskV s p x) p)) := by { rw [hc _ _ (by first | (simp; done) | (simp; omega) | omega)]; first | assumption | (simp; done) | (simp [*]; done) | (simp [go_sem, *]; done) }
  have f4_4 : w4.frozen? ⟨w2.heap.size, 1, none⟩ = false := by { rw [hf _ _ (by first | (simp; done) | (simp; omega) | omega)]; first | assumption | (simp; done) | (simp [*]; done) | (simp [go_sem, *]; done) }
  have k4_5 : w4.cell? ⟨w2.heap.size, 2, none⟩ = some (.int .i64 (becX (taskV s p x) (mayStart s) x (-1))) := by { rw [hc _ _ (by first | (simp; done) | (simp; omega) | omega)]; first | assumption | (simp; done) | (simp [*]; done) | (simp [go_sem, *]; done) }
  have f4_5 : w4.frozen? ⟨w2.heap.size, 2, none⟩ = false := by { rw [hf _ _ (by first | (simp; done) | (simp; omega) | omega)]; first | assumption | (simp; done) | (simp [*]; done) | (simp [go_sem, *]; done) }
  clear hc hf
  have l4_0 : w.heap.size < w4.heap.size := by omega
  have l4_1 : w2.heap.size < w4.heap.size := by omega
  go_wp2_with fail
  refine (eqTask_same _ _ _ _).mono ?_
  rintro e w5 ⟨rfl, hb5⟩
  have hz5 := hb5.size
  (try simp at hz5)
  go_wp2
  go_ret
  exact ⟨rfl, by (repeat (first | exact Below.refl _ _ | assumption | refine Below.setCell ?_ (by first | (simp; done) | (simp; omega) | omega) _ | refine Below.alloc ?_ (by first | (simp; done) | (simp; omega) | omega) _ | refine Below.drew ?_ | refine Below.drewN ?_ _ | refine Below.via ?_ (by assumption)))⟩
set_option maxHeartbeats 1000000 in
theorem law_ExactTaskStop (s p x : Int) (w : World) : Calls Try.prog 4 #[task s p x] w fun e w' => e = .returned (.bool true) ∧ Below w.heap.size w w' := by
  go_enter Try.func4, Try.ntmps4
  go_wp2_with fail
  refine (toTask_any _ _ _ _).mono ?_
  rintro e w1 ⟨rfl, hb1⟩
  have hz1 := hb1.size
  (try simp at hz1)
  obtain ⟨hc, hf⟩ := bcell hb1
  have k1_0 : w1.cell? ⟨w.heap.size, 0, none⟩ = some (.int .i64 (s)) := by { rw [hc _ _ (by first | (simp; done) | (simp; omega) | omega)]; first | assumption | (simp; done) | (simp [*]; done) | (simp [go_sem, *]; done) }
  have f1_0 : w1.frozen? ⟨w.heap.size, 0, none⟩ = false := by { rw [hf _ _ (by first | (simp; done) | (simp; omega) | omega)]; first | assumption | (simp; done) | (simp [*]; done) | (simp [go_sem, *]; done) }
  have k1_1 : w1.cell? ⟨w.heap.size, 1, none⟩ = some (.int .i64 (p)) := by { rw [hc _ _ (by first | (simp; done) | (simp; omega) | omega)]; first | assumption | (simp; done) | (simp [*]; done) | (simp [go_sem, *]; done) }
  have f1_1 : w1.frozen? ⟨w.heap.size, 1, none⟩ = false := by { rw [hf _ _ (by first | (simp; done) | (simp; omega) | omega)]; first | assumption | (simp; done) | (simp [*]; done) | (simp [go_sem, *]; done) }
  have k1_2 : w1.cell? ⟨w.heap.size, 2, none⟩ = some (.int .i64 (x)) := by { rw [hc _ _ (by first | (simp; done) | (simp; omega) | omega)]; first | assumption | (simp; done) | (simp [*]; done) | (simp [go_sem, *]; done) }
  have f1_2 : w1.frozen? ⟨w.heap.size, 2, none⟩ = false := by { rw [hf _ _ (by first | (simp; done) | (simp; omega) | omega)]; first | assumption | (simp; done) | (simp [*]; done) | (simp [go_sem, *]; done) }
  clear hc hf
  have l1_0 : w.heap.size < w1.heap.size := by omega
  go_wp2_with fail
  refine (sTaskStop_any _ _ _ _).mono ?_
  rintro e w2 ⟨rfl, hb2⟩
  have hz2 := hb2.size
  (try simp at hz2)
  obtain ⟨hc, hf⟩ := bcell hb2
  have k2_0 : w2.cell? ⟨w.heap.size, 0, none⟩ = some (.int .i64 (s)) := by { rw [hc _ _ (by first | (simp; done) | (simp; omega) | omega)]; first | assumption | (simp; done) | (simp [*]; done) | (simp [go_sem, *]; done) }
  have f2_0 : w2.frozen? ⟨w.heap.size, 0, none⟩ = false := by { rw [hf _ _ (by first | (simp; done) | (simp; omega) | omega)]; first | assumption | (simp; done) | (simp [*]; done) | (simp [go_sem, *]; done) }
  have k2_1 : w2.cell? ⟨w.heap.size, 1, none⟩ = some (.int .i64 (p)) := by { rw [hc _ _ (by first | (simp; done) | (simp; omega) | omega)]; first | assumption | (simp; done) | (simp [*]; done) | (simp [go_sem, *]; done) }
  have f2_1 : w2.frozen? ⟨w.heap.size, 1, none⟩ = false := by { rw [hf _ _ (by first | (simp; done) | (simp; omega) | omega)]; first | assumption | (simp; done) | (simp [*]; done) | (simp [go_sem, *]; done) }
  have k2_2 : w2.cell? ⟨w.heap.size, 2, none⟩ = some (.int .i64 (x)) := by { rw [hc _ _ (by first | (simp; done) | (simp; omega) | omega)]; first | assumption | (simp; done) | (simp [*]; done) | (simp [go_sem, *]; done) }
  have f2_2 : w2.frozen? ⟨w.heap.size, 2, none⟩ = false := by { rw [hf _ _ (by first | (simp; done) | (simp; omega) | omega)]; first | assumption | (simp; done) | (simp [*]; done) | (simp [go_sem, *]; done) }
  clear hc hf
  have l2_0 : w.heap.size < w2.heap.size := by omega
  go_wp2_with fail
  refine (toTask_any _ _ _ _).mono ?_
  rintro e w3 ⟨rfl, hb3⟩
  have hz3 := hb3.size
  (try simp at hz3)
  obtain ⟨hc, hf⟩ := bcell hb3
  have k3_0 : w3.cell? ⟨w.heap.size, 0, none⟩ = some (.int .i64 (s)) := by { rw [hc _ _ (by first | (simp; done) | (simp; omega) | omega)]; first | assumption | (simp; done) | (simp [*]; done) | (simp [go_sem, *]; done) }
  have f3_0 : w3.frozen? ⟨w.heap.size, 0, none⟩ = false := by { rw [hf _ _ (by first | (simp; done) | (simp; omega) | omega)]; first | assumption | (simp; done) | (simp [*]; done) | (simp [go_sem, *]; done) }
  have k3_1 : w3.cell? ⟨w.heap.size, 1, none⟩ = some (.int .i64 (p)) := by { rw [hc _ _ (by first | (simp; done) | (simp; omega) | omega)]; first | assumption | (simp; done) | (simp [*]; done) | (simp [go_sem, *]; done) }
  have f3_1 : w3.frozen? ⟨w.heap.size, 1, none⟩ = false := by { rw [hf _ _ (by first | (simp; done) | (simp; omega) | omega)]; first | assumption | (simp; done) | (simp [*]; done) | (simp [go_sem, *]; done) }
  have k3_2 : w3.cell? ⟨w.heap.size, 2, none⟩ = some (.int .i64 (x)) := by { rw [hc _ _ (by first | (simp; done) | (simp; omega) | omega)]; first | assumption | (simp; done) | (simp [*]; done) | (simp [go_sem, *]; done) }
  have f3_2 : w3.frozen? ⟨w.heap.size, 2, none⟩ = false := by { rw [hf _ _ (by first | (simp; done) | (simp; omega) | omega)]; first | assumption | (simp; done) | (simp [*]; done) | (simp [go_sem, *]; done) }
  have k3_3 : w3.cell? ⟨w2.heap.size, 0, none⟩ = some (.int .i64 (becS (taskV s p x) true s 0)) := by { rw [hc _ _ (by first | (simp; done) | (simp; omega) | omega)]; first | assumption | (simp; done) | (simp [*]; done) | (simp [go_sem, *]; done) }
  have f3_3 : w3.frozen? ⟨w2.heap.size, 0, none⟩ = false := by { rw [hf _ _ (by first | (simp; done) | (simp; omega) | omega)]; first | assumption | (simp; done) | (simp [*]; done) | (simp [go_sem, *]; done) }
  have k3_4 : w3.cell? ⟨w2.heap.size, 1, none⟩ = some (.int .i64 (becP (taskV s p x) p)) := by { rw [hc _ _ (by first | (simp; done) | (simp; omega) | omega)]; first | assumption | (simp; done) | (simp [*]; done) | (simp [go_sem, *]; done) }
  have f3_4 : w3.frozen? ⟨w2.heap.size, 1, none⟩ = false := by { rw [hf _ _ (by first | (simp; done) | (simp; omega) | omega)]; first | assumption | (simp; done) | (simp [*]; done) | (simp [go_sem, *]; done) }
  have k3_5 : w3.cell? ⟨w2.heap.size, 2, none⟩ = some (.int .i64 (becX (taskV s p x) true x (-1))) := by { rw [hc _ _ (by first | (simp; done) | (simp; omega) | omega)]; first | assumption | (simp; done) | (simp [*]; done) | (simp [go_sem, *]; done) }
  have f3_5 : w3.frozen? ⟨w2.heap.size, 2, none⟩ = false := by { rw [hf _ _ (by first | (simp; done) | (simp; omega) | omega)]; first | assumption | (simp; done) | (simp [*]; done) | (simp [go_sem, *]; done) }
  clear hc hf
  have l3_0 : w.heap.size < w3.heap.size := by omega
  have l3_1 : w2.heap.size < w3.heap.size := by omega
  go_wp2_with fail
  refine (iTaskStop_any _ _ _ _).mono ?_
  rintro e w4 ⟨rfl, hb4⟩
  have hz4 := hb4.size
  (try simp at hz4)
  obtain ⟨hc, hf⟩ := bcell hb4
  have k4_0 : w4.cell? ⟨w.heap.size, 0, none⟩ = some (.int .i64 (s)) := by { rw [hc _ _ (by first | (simp; done) | (simp; omega) | omega)]; first | assumption | (simp; done) | (simp [*]; done) | (simp [go_sem, *]; done) }
  have f4_0 : w4.frozen? ⟨w.heap.size, 0, none⟩ = false := by { rw [hf _ _ (by first | (simp; done) | (simp; omega) | omega)]; first | assumption | (simp; done) | (simp [*]; done) | (simp [go_sem, *]; done) }
  have k4_1 : w4.cell? ⟨w.heap.size, 1, none⟩ = some (.int .i64 (p)) := by { rw [hc _ _ (by first | (simp; done) | (simp; omega) | omega)]; first | assumption | (simp; done) | (simp [*]; done) | (simp [go_sem, *]; done) }
  have f4_1 : w4.frozen? ⟨w.heap.size, 1, none⟩ = false := by { rw [hf _ _ (by first | (simp; done) | (simp; omega) | omega)]; first | assumption | (simp; done) | (simp [*]; done) | (simp [go_sem, *]; done) }
  have k4_2 : w4.cell? ⟨w.heap.size, 2, none⟩ = some (.int .i64 (x)) := by { rw [hc _ _ (by first | (simp; done) | (simp; omega) | omega)]; first | assumption | (simp; done) | (simp [*]; done) | (simp [go_sem, *]; done) }
  have f4_2 : w4.frozen? ⟨w.heap.size, 2, none⟩ = false := by { rw [hf _ _ (by first | (simp; done) | (simp; omega) | omega)]; first | assumption | (simp; done) | (simp [*]; done) | (simp [go_sem, *]; done) }
  have k4_3 : w4.cell? ⟨w2.heap.size, 0, none⟩ = some (.int .i64 (becS (taskV s p x) true s 0)) := by { rw [hc _ _ (by first | (simp; done) | (simp; omega) | omega)]; first | assumption | (simp; done) | (simp [*]; done) | (simp [go_sem, *]; done) }
  have f4_3 : w4.frozen? ⟨w2.heap.size, 0, none⟩ = false := by { rw [hf _ _ (by first | (simp; done) | (simp; omega) | omega)]; first | assumption | (simp; done) | (simp [*]; done) | (simp [go_sem, *]; done) }
  have k4_4 : w4.cell? ⟨w2.heap.size, 1, none⟩ = some (.int .i64 (becP (taskV s p x) p)) := by { rw [hc _ _ (by first | (simp; done) | (simp; omega) | omega)]; first | assumption | (simp; done) | (simp [*]; done) | (simp [go_sem, *]; done) }
  have f4_4 : w4.frozen? ⟨w2.heap.size, 1, none⟩ = false := by { rw [hf _ _ (by first | (simp; done) | (simp; omega) | omega)]; first | assumption | (simp; done) | (simp [*]; done) | (simp [go_sem, *]; done) }
  have k4_5 : w4.cell? ⟨w2.heap.size, 2, none⟩ = some (.int .i64 (becX (taskV s p x) true x (-1))) := by { rw [hc _ _ (by first | (simp; done) | (simp; omega) | omega)]; first | assumption | (simp; done) | (simp [*]; done) | (simp [go_sem, *]; done) }
  have f4_5 : w4.frozen? ⟨w2.heap.size, 2, none⟩ = false := by { rw [hf _ _ (by first | (simp; done) | (simp; omega) | omega)]; first | assumption | (simp; done) | (simp [*]; done) | (simp [go_sem, *]; done) }
  clear hc hf
  have l4_0 : w.heap.size < w4.heap.size := by omega
  have l4_1 : w2.heap.size < w4.heap.size := by omega
  go_wp2_with fail
  refine (eqTask_same _ _ _ _).mono ?_
  rintro e w5 ⟨rfl, hb5⟩
  have hz5 := hb5.size
  (try simp at hz5)
  go_wp2
  go_ret
  exact ⟨rfl, by (repeat (first | exact Below.refl _ _ | assumption | refine Below.setCell ?_ (by first | (simp; done) | (simp; omega) | omega) _ | refine Below.alloc ?_ (by first | (simp; done) | (simp; omega) | omega) _ | refine Below.drew ?_ | refine Below.drewN ?_ _ | refine Below.via ?_ (by assumption)))⟩
set_option maxHeartbeats 1000000 in
theorem law_ExactTaskWake (s p x ob : Int) (w : World) : Calls Try.prog 6 #[task s p x, .int .i64 ob] w fun e w' => e = .returned (.bool true) ∧ Below w.heap.size w w' := by
  go_enter Try.func6, Try.ntmps6
  go_wp2_with fail
  refine (toTask_any _ _ _ _).mono ?_
  rintro e w1 ⟨rfl, hb1⟩
  have hz1 := hb1.size
  (try simp at hz1)
  obtain ⟨hc, hf⟩ := bcell hb1
  have k1_0 : w1.cell? ⟨w.heap.size, 0, none⟩ = some (.int .i64 (s)) := by { rw [hc _ _ (by first | (simp; done) | (simp; omega) | omega)]; first | assumption | (simp; done) | (simp [*]; done) | (simp [go_sem, *]; done) }
  have f1_0 : w1.frozen? ⟨w.heap.size, 0, none⟩ = false := by { rw [hf _ _ (by first | (simp; done) | (simp; omega) | omega)]; first | assumption | (simp; done) | (simp [*]; done) | (simp [go_sem, *]; done) }
  have k1_1 : w1.cell? ⟨w.heap.size, 1, none⟩ = some (.int .i64 (p)) := by { rw [hc _ _ (by first | (simp; done) | (simp; omega) | omega)]; first | assumption | (simp; done) | (simp [*]; done) | (simp [go_sem, *]; done) }
  have f1_1 : w1.frozen? ⟨w.heap.size, 1, none⟩ = false := by { rw [hf _ _ (by first | (simp; done) | (simp; omega) | omega)]; first | assumption | (simp; done) | (simp [*]; done) | (simp [go_sem, *]; done) }
  have k1_2 : w1.cell? ⟨w.heap.size, 2, none⟩ = some (.int .i64 (x)) := by { rw [hc _ _ (by first | (simp; done) | (simp; omega) | omega)]; first | assumption | (simp; done) | (simp [*]; done) | (simp [go_sem, *]; done) }
  have f1_2 : w1.frozen? ⟨w.heap.size, 2, none⟩ = false := by { rw [hf _ _ (by first | (simp; done) | (simp; omega) | omega)]; first | assumption | (simp; done) | (simp [*]; done) | (simp [go_sem, *]; done) }
  clear hc hf
  have l1_0 : w.heap.size < w1.heap.size := by omega
  go_wp2_with fail
  refine (sTaskWake_any _ _ _ _ _).mono ?_
  rintro e w2 ⟨rfl, hb2⟩
  have hz2 := hb2.size
  (try simp at hz2)
  obtain ⟨hc, hf⟩ := bcell hb2
  have k2_0 : w2.cell? ⟨w.heap.size, 0, none⟩ = some (.int .i64 (s)) := by { rw [hc _ _ (by first | (simp; done) | (simp; omega) | omega)]; first | assumption | (simp; done) | (simp [*]; done) | (simp [go_sem, *]; done) }
  have f2_0 : w2.frozen? ⟨w.heap.size, 0, none⟩ = false := by { rw [hf _ _ (by first | (simp; done) | (simp; omega) | omega)]; first | assumption | (simp; done) | (simp [*]; done) | (simp [go_sem, *]; done) }
  have k2_1 : w2.cell? ⟨w.heap.size, 1, none⟩ = some (.int .i64 (p)) := by { rw [hc _ _ (by first | (simp; done) | (simp; omega) | omega)]; first | assumption | (simp; done) | (simp [*]; done) | (simp [go_sem, *]; done) }
  have f2_1 : w2.frozen? ⟨w.heap.size, 1, none⟩ = false := by { rw [hf _ _ (by first | (simp; done) | (simp; omega) | omega)]; first | assumption | (simp; done) | (simp [*]; done) | (simp [go_sem, *]; done) }
  have k2_2 : w2.cell? ⟨w.heap.size, 2, none⟩ = some (.int .i64 (x)) := by { rw [hc _ _ (by first | (simp; done) | (simp; omega) | omega)]; first | assumption | (simp; done) | (simp [*]; done) | (simp [go_sem, *]; done) }
  have f2_2 : w2.frozen? ⟨w.heap.size, 2, none⟩ = false := by { rw [hf _ _ (by first | (simp; done) | (simp; omega) | omega)]; first | assumption | (simp; done) | (simp [*]; done) | (simp [go_sem, *]; done) }
  clear hc hf
  have l2_0 : w.heap.size < w2.heap.size := by omega
  go_wp2_with fail
  refine (toTask_any _ _ _ _).mono ?_
  rintro e w3 ⟨rfl, hb3⟩
  have hz3 := hb3.size
  (try simp at hz3)
  obtain ⟨hc, hf⟩ := bcell hb3
  have k3_0 : w3.cell? ⟨w.heap.size, 0, none⟩ = some (.int .i64 (s)) := by { rw [hc _ _ (by first | (simp; done) | (simp; omega) | omega)]; first | assumption | (simp; done) | (simp [*]; done) | (simp [go_sem, *]; done) }
  have f3_0 : w3.frozen? ⟨w.heap.size, 0, none⟩ = false := by { rw [hf _ _ (by first | (simp; done) | (simp; omega) | omega)]; first | assumption | (simp; done) | (simp [*]; done) | (simp [go_sem, *]; done) }
  have k3_1 : w3.cell? ⟨w.heap.size, 1, none⟩ = some (.int .i64 (p)) := by { rw [hc _ _ (by first | (simp; done) | (simp; omega) | omega)]; first | assumption | (simp; done) | (simp [*]; done) | (simp [go_sem, *]; done) }
  have f3_1 : w3.frozen? ⟨w.heap.size, 1, none⟩ = false := by { rw [hf _ _ (by first | (simp; done) | (simp; omega) | omega)]; first | assumption | (simp; done) | (simp [*]; done) | (simp [go_sem, *]; done) }
  have k3_2 : w3.cell? ⟨w.heap.size, 2, none⟩ = some (.int .i64 (x)) := by { rw [hc _ _ (by first | (simp; done) | (simp; omega) | omega)]; first | assumption | (simp; done) | (simp [*]; done) | (simp [go_sem, *]; done) }
  have f3_2 : w3.frozen? ⟨w.heap.size, 2, none⟩ = false := by { rw [hf _ _ (by first | (simp; done) | (simp; omega) | omega)]; first | assumption | (simp; done) | (simp [*]; done) | (simp [go_sem, *]; done) }
  have k3_3 : w3.cell? ⟨w2.heap.size, 0, none⟩ = some (.int .i64 (becS (taskV s p x) (mayWake s x ob) s 1)) := by { rw [hc _ _ (by first | (simp; done) | (simp; omega) | omega)]; first | assumption | (simp; done) | (simp [*]; done) | (simp [go_sem, *]; done) }
  have f3_3 : w3.frozen? ⟨w2.heap.size, 0, none⟩ = false := by { rw [hf _ _ (by first | (simp; done) | (simp; omega) | omega)]; first | assumption | (simp; done) | (simp [*]; done) | (simp [go_sem, *]; done) }
  have k3_4 : w3.cell? ⟨w2.heap.size, 1, none⟩ = some (.int .i64 (becP (taskV s p x) p)) := by { rw [hc _ _ (by first | (simp; done) | (simp; omega) | omega)]; first | assumption | (simp; done) | (simp [*]; done) | (simp [go_sem, *]; done) }
  have f3_4 : w3.frozen? ⟨w2.heap.size, 1, none⟩ = false := by { rw [hf _ _ (by first | (simp; done) | (simp; omega) | omega)]; first | assumption | (simp; done) | (simp [*]; done) | (simp [go_sem, *]; done) }
  have k3_5 : w3.cell? ⟨w2.heap.size, 2, none⟩ = some (.int .i64 (becX (taskV s p x) (mayWake s x ob) x (-1))) := by { rw [hc _ _ (by first | (simp; done) | (simp; omega) | omega)]; first | assumption | (simp; done) | (simp [*]; done) | (simp [go_sem, *]; done) }
  have f3_5 : w3.frozen? ⟨w2.heap.size, 2, none⟩ = false := by { rw [hf _ _ (by first | (simp; done) | (simp; omega) | omega)]; first | assumption | (simp; done) | (simp [*]; done) | (simp [go_sem, *]; done) }
  clear hc hf
  have l3_0 : w.heap.size < w3.heap.size := by omega
  have l3_1 : w2.heap.size < w3.heap.size := by omega
  go_wp2_with fail
  refine (iTaskWake_any _ _ _ _ _).mono ?_
  rintro e w4 ⟨rfl, hb4⟩
  have hz4 := hb4.size
  (try simp at hz4)
  obtain ⟨hc, hf⟩ := bcell hb4
  have k4_0 : w4.cell? ⟨w.heap.size, 0, none⟩ = some (.int .i64 (s)) := by { rw [hc _ _ (by first | (simp; done) | (simp; omega) | omega)]; first | assumption | (simp; done) | (simp [*]; done) | (simp [go_sem, *]; done) }
  have f4_0 : w4.frozen? ⟨w.heap.size, 0, none⟩ = false := by { rw [hf _ _ (by first | (simp; done) | (simp; omega) | omega)]; first | assumption | (simp; done) | (simp [*]; done) | (simp [go_sem, *]; done) }
  have k4_1 : w4.cell? ⟨w.heap.size, 1, none⟩ = some (.int .i64 (p)) := by { rw [hc _ _ (by first | (simp; done) | (simp; omega) | omega)]; first | assumption | (simp; done) | (simp [*]; done) | (simp [go_sem, *]; done) }
  have f4_1 : w4.frozen? ⟨w.heap.size, 1, none⟩ = false := by { rw [hf _ _ (by first | (simp; done) | (simp; omega) | omega)]; first | assumption | (simp; done) | (simp [*]; done) | (simp [go_sem, *]; done) }
  have k4_2 : w4.cell? ⟨w.heap.size, 2, none⟩ = some (.int .i64 (x)) := by { rw [hc _ _ (by first | (simp; done) | (simp; omega) | omega)]; first | assumption | (simp; done) | (simp [*]; done) | (simp [go_sem, *]; done) }
  have f4_2 : w4.frozen? ⟨w.heap.size, 2, none⟩ = false := by { rw [hf _ _ (by first | (simp; done) | (simp; omega) | omega)]; first | assumption | (simp; done) | (simp [*]; done) | (simp [go_sem, *]; done) }
  have k4_3 : w4.cell? ⟨w2.heap.size, 0, none⟩ = some (.int .i64 (becS (taskV s p x) (mayWake s x ob) s 1)) := by { rw [hc _ _ (by first | (simp; done) | (simp; omega) | omega)]; first | assumption | (simp; done) | (simp [*]; done) | (simp [go_sem, *]; done) }
  have f4_3 : w4.frozen? ⟨w2.heap.size, 0, none⟩ = false := by { rw [hf _ _ (by first | (simp; done) | (simp; omega) | omega)]; first | assumption | (simp; done) | (simp [*]; done) | (simp [go_sem, *]; done) }
  have k4_4 : w4.cell? ⟨w2.heap.size, 1, none⟩ = some (.int .i64 (becP (taskV s p x) p)) := by { rw [hc _ _ (by first | (simp; done) | (simp; omega) | omega)]; first | assumption | (simp; done) | (simp [*]; done) | (simp [go_sem, *]; done) }
  have f4_4 : w4.frozen? ⟨w2.heap.size, 1, none⟩ = false := by { rw [hf _ _ (by first | (simp; done) | (simp; omega) | omega)]; first | assumption | (simp; done) | (simp [*]; done) | (simp [go_sem, *]; done) }
  have k4_5 : w4.cell? ⟨w2.heap.size, 2, none⟩ = some (.int .i64 (becX (taskV s p x) (mayWake s x ob) x (-1))) := by { rw [hc _ _ (by first | (simp; done) | (simp; omega) | omega)]; first | assumption | (simp; done) | (simp [*]; done) | (simp [go_sem, *]; done) }
  have f4_5 : w4.frozen? ⟨w2.heap.size, 2, none⟩ = false := by { rw [hf _ _ (by first | (simp; done) | (simp; omega) | omega)]; first | assumption | (simp; done) | (simp [*]; done) | (simp [go_sem, *]; done) }
  clear hc hf
  have l4_0 : w.heap.size < w4.heap.size := by omega
  have l4_1 : w2.heap.size < w4.heap.size := by omega
  go_wp2_with fail
  refine (eqTask_same _ _ _ _).mono ?_
  rintro e w5 ⟨rfl, hb5⟩
  have hz5 := hb5.size
  (try simp at hz5)
  go_wp2
  go_ret
  exact ⟨rfl, by (repeat (first | exact Below.refl _ _ | assumption | refine Below.setCell ?_ (by first | (simp; done) | (simp; omega) | omega) _ | refine Below.alloc ?_ (by first | (simp; done) | (simp; omega) | omega) _ | refine Below.drew ?_ | refine Below.drewN ?_ _ | refine Below.via ?_ (by assumption)))⟩
set_option maxHeartbeats 1000000 in
theorem law_ExactTaskWait (s p x st ob : Int) (w : World) : Calls Try.prog 7 #[task s p x, .int .i64 st, .int .i64 ob] w fun e w' => e = .returned (.bool true) ∧ Below w.heap.size w w' := by
  go_enter Try.func7, Try.ntmps7
  go_wp2_with fail
  refine (toTask_any _ _ _ _).mono ?_
  rintro e w1 ⟨rfl, hb1⟩
  have hz1 := hb1.size
  (try simp at hz1)
  obtain ⟨hc, hf⟩ := bcell hb1
  have k1_0 : w1.cell? ⟨w.heap.size, 0, none⟩ = some (.int .i64 (s)) := by { rw [hc _ _ (by first | (simp; done) | (simp; omega) | omega)]; first | assumption | (simp; done) | (simp [*]; done) | (simp [go_sem, *]; done) }
  have f1_0 : w1.frozen? ⟨w.heap.size, 0, none⟩ = false := by { rw [hf _ _ (by first | (simp; done) | (simp; omega) | omega)]; first | assumption | (simp; done) | (simp [*]; done) | (simp [go_sem, *]; done) }
  have k1_1 : w1.cell? ⟨w.heap.size, 1, none⟩ = some (.int .i64 (p)) := by { rw [hc _ _ (by first | (simp; done) | (simp; omega) | omega)]; first | assumption | (simp; done) | (simp [*]; done) | (simp [go_sem, *]; done) }
  have f1_1 : w1.frozen? ⟨w.heap.size, 1, none⟩ = false := by { rw [hf _ _ (by first | (simp; done) | (simp; omega) | omega)]; first | assumption | (simp; done) | (simp [*]; done) | (simp [go_sem, *]; done) }
  have k1_2 : w1.cell? ⟨w.heap.size, 2, none⟩ = some (.int .i64 (x)) := by { rw [hc _ _ (by first | (simp; done) | (simp; omega) | omega)]; first | assumption | (simp; done) | (simp [*]; done) | (simp [go_sem, *]; done) }
  have f1_2 : w1.frozen? ⟨w.heap.size, 2, none⟩ = false := by { rw [hf _ _ (by first | (simp; done) | (simp; omega) | omega)]; first | assumption | (simp; done) | (simp [*]; done) | (simp [go_sem, *]; done) }
  clear hc hf
  have l1_0 : w.heap.size < w1.heap.size := by omega
  go_wp2_with fail
  refine (sTaskWait_any _ _ _ _ _ _).mono ?_
  rintro e w2 ⟨rfl, hb2⟩
  have hz2 := hb2.size
  (try simp at hz2)
  obtain ⟨hc, hf⟩ := bcell hb2
  have k2_0 : w2.cell? ⟨w.heap.size, 0, none⟩ = some (.int .i64 (s)) := by { rw [hc _ _ (by first | (simp; done) | (simp; omega) | omega)]; first | assumption | (simp; done) | (simp [*]; done) | (simp [go_sem, *]; done) }
  have f2_0 : w2.frozen? ⟨w.heap.size, 0, none⟩ = false := by { rw [hf _ _ (by first | (simp; done) | (simp; omega) | omega)]; first | assumption | (simp; done) | (simp [*]; done) | (simp [go_sem, *]; done) }
  have k2_1 : w2.cell? ⟨w.heap.size, 1, none⟩ = some (.int .i64 (p)) := by { rw [hc _ _ (by first | (simp; done) | (simp; omega) | omega)]; first | assumption | (simp; done) | (simp [*]; done) | (simp [go_sem, *]; done) }
  have f2_1 : w2.frozen? ⟨w.heap.size, 1, none⟩ = false := by { rw [hf _ _ (by first | (simp; done) | (simp; omega) | omega)]; first | assumption | (simp; done) | (simp [*]; done) | (simp [go_sem, *]; done) }
  have k2_2 : w2.cell? ⟨w.heap.size, 2, none⟩ = some (.int .i64 (x)) := by { rw [hc _ _ (by first | (simp; done) | (simp; omega) | omega)]; first | assumption | (simp; done) | (simp [*]; done) | (simp [go_sem, *]; done) }
  have f2_2 : w2.frozen? ⟨w.heap.size, 2, none⟩ = false := by { rw [hf _ _ (by first | (simp; done) | (simp; omega) | omega)]; first | assumption | (simp; done) | (simp [*]; done) | (simp [go_sem, *]; done) }
  clear hc hf
  have l2_0 : w.heap.size < w2.heap.size := by omega
  go_wp2_with fail
  refine (toTask_any _ _ _ _).mono ?_
  rintro e w3 ⟨rfl, hb3⟩
  have hz3 := hb3.size
  (try simp at hz3)
  obtain ⟨hc, hf⟩ := bcell hb3
  have k3_0 : w3.cell? ⟨w.heap.size, 0, none⟩ = some (.int .i64 (s)) := by { rw [hc _ _ (by first | (simp; done) | (simp; omega) | omega)]; first | assumption | (simp; done) | (simp [*]; done) | (simp [go_sem, *]; done) }
  have f3_0 : w3.frozen? ⟨w.heap.size, 0, none⟩ = false := by { rw [hf _ _ (by first | (simp; done) | (simp; omega) | omega)]; first | assumption | (simp; done) | (simp [*]; done) | (simp [go_sem, *]; done) }
  have k3_1 : w3.cell? ⟨w.heap.size, 1, none⟩ = some (.int .i64 (p)) := by { rw [hc _ _ (by first | (simp; done) | (simp; omega) | omega)]; first | assumption | (simp; done) | (simp [*]; done) | (simp [go_sem, *]; done) }
  have f3_1 : w3.frozen? ⟨w.heap.size, 1, none⟩ = false := by { rw [hf _ _ (by first | (simp; done) | (simp; omega) | omega)]; first | assumption | (simp; done) | (simp [*]; done) | (simp [go_sem, *]; done) }
  have k3_2 : w3.cell? ⟨w.heap.size, 2, none⟩ = some (.int .i64 (x)) := by { rw [hc _ _ (by first | (simp; done) | (simp; omega) | omega)]; first | assumption | (simp; done) | (simp [*]; done) | (simp [go_sem, *]; done) }
  have f3_2 : w3.frozen? ⟨w.heap.size, 2, none⟩ = false := by { rw [hf _ _ (by first | (simp; done) | (simp; omega) | omega)]; first | assumption | (simp; done) | (simp [*]; done) | (simp [go_sem, *]; done) }
  have k3_3 : w3.cell? ⟨w2.heap.size, 0, none⟩ = some (.int .i64 (becS (taskV s p x && (inB st 2 4 && inB ob 0 99)) (s == 1) s st)) := by { rw [hc _ _ (by first | (simp; done) | (simp; omega) | omega)]; first | assumption | (simp; done) | (simp [*]; done) | (simp [go_sem, *]; done) }
  have f3_3 : w3.frozen? ⟨w2.heap.size, 0, none⟩ = false := by { rw [hf _ _ (by first | (simp; done) | (simp; omega) | omega)]; first | assumption | (simp; done) | (simp [*]; done) | (simp [go_sem, *]; done) }
  have k3_4 : w3.cell? ⟨w2.heap.size, 1, none⟩ = some (.int .i64 (becP (taskV s p x && (inB st 2 4 && inB ob 0 99)) p)) := by { rw [hc _ _ (by first | (simp; done) | (simp; omega) | omega)]; first | assumption | (simp; done) | (simp [*]; done) | (simp [go_sem, *]; done) }
  have f3_4 : w3.frozen? ⟨w2.heap.size, 1, none⟩ = false := by { rw [hf _ _ (by first | (simp; done) | (simp; omega) | omega)]; first | assumption | (simp; done) | (simp [*]; done) | (simp [go_sem, *]; done) }
  have k3_5 : w3.cell? ⟨w2.heap.size, 2, none⟩ = some (.int .i64 (becX (taskV s p x && (inB st 2 4 && inB ob 0 99)) (s == 1) x ob)) := by { rw [hc _ _ (by first | (simp; done) | (simp; omega) | omega)]; first | assumption | (simp; done) | (simp [*]; done) | (simp [go_sem, *]; done) }
  have f3_5 : w3.frozen? ⟨w2.heap.size, 2, none⟩ = false := by { rw [hf _ _ (by first | (simp; done) | (simp; omega) | omega)]; first | assumption | (simp; done) | (simp [*]; done) | (simp [go_sem, *]; done) }
  clear hc hf
  have l3_0 : w.heap.size < w3.heap.size := by omega
  have l3_1 : w2.heap.size < w3.heap.size := by omega
  go_wp2_with fail
  refine (iTaskWait_any _ _ _ _ _ _).mono ?_
  rintro e w4 ⟨rfl, hb4⟩
  have hz4 := hb4.size
  (try simp at hz4)
  obtain ⟨hc, hf⟩ := bcell hb4
  have k4_0 : w4.cell? ⟨w.heap.size, 0, none⟩ = some (.int .i64 (s)) := by { rw [hc _ _ (by first | (simp; done) | (simp; omega) | omega)]; first | assumption | (simp; done) | (simp [*]; done) | (simp [go_sem, *]; done) }
  have f4_0 : w4.frozen? ⟨w.heap.size, 0, none⟩ = false := by { rw [hf _ _ (by first | (simp; done) | (simp; omega) | omega)]; first | assumption | (simp; done) | (simp [*]; done) | (simp [go_sem, *]; done) }
  have k4_1 : w4.cell? ⟨w.heap.size, 1, none⟩ = some (.int .i64 (p)) := by { rw [hc _ _ (by first | (simp; done) | (simp; omega) | omega)]; first | assumption | (simp; done) | (simp [*]; done) | (simp [go_sem, *]; done) }
  have f4_1 : w4.frozen? ⟨w.heap.size, 1, none⟩ = false := by { rw [hf _ _ (by first | (simp; done) | (simp; omega) | omega)]; first | assumption | (simp; done) | (simp [*]; done) | (simp [go_sem, *]; done) }
  have k4_2 : w4.cell? ⟨w.heap.size, 2, none⟩ = some (.int .i64 (x)) := by { rw [hc _ _ (by first | (simp; done) | (simp; omega) | omega)]; first | assumption | (simp; done) | (simp [*]; done) | (simp [go_sem, *]; done) }
  have f4_2 : w4.frozen? ⟨w.heap.size, 2, none⟩ = false := by { rw [hf _ _ (by first | (simp; done) | (simp; omega) | omega)]; first | assumption | (simp; done) | (simp [*]; done) | (simp [go_sem, *]; done) }
  have k4_3 : w4.cell? ⟨w2.heap.size, 0, none⟩ = some (.int .i64 (becS (taskV s p x && (inB st 2 4 && inB ob 0 99)) (s == 1) s st)) := by { rw [hc _ _ (by first | (simp; done) | (simp; omega) | omega)]; first | assumption | (simp; done) | (simp [*]; done) | (simp [go_sem, *]; done) }
  have f4_3 : w4.frozen? ⟨w2.heap.size, 0, none⟩ = false := by { rw [hf _ _ (by first | (simp; done) | (simp; omega) | omega)]; first | assumption | (simp; done) | (simp [*]; done) | (simp [go_sem, *]; done) }
  have k4_4 : w4.cell? ⟨w2.heap.size, 1, none⟩ = some (.int .i64 (becP (taskV s p x && (inB st 2 4 && inB ob 0 99)) p)) := by { rw [hc _ _ (by first | (simp; done) | (simp; omega) | omega)]; first | assumption | (simp; done) | (simp [*]; done) | (simp [go_sem, *]; done) }
  have f4_4 : w4.frozen? ⟨w2.heap.size, 1, none⟩ = false := by { rw [hf _ _ (by first | (simp; done) | (simp; omega) | omega)]; first | assumption | (simp; done) | (simp [*]; done) | (simp [go_sem, *]; done) }
  have k4_5 : w4.cell? ⟨w2.heap.size, 2, none⟩ = some (.int .i64 (becX (taskV s p x && (inB st 2 4 && inB ob 0 99)) (s == 1) x ob)) := by { rw [hc _ _ (by first | (simp; done) | (simp; omega) | omega)]; first | assumption | (simp; done) | (simp [*]; done) | (simp [go_sem, *]; done) }
  have f4_5 : w4.frozen? ⟨w2.heap.size, 2, none⟩ = false := by { rw [hf _ _ (by first | (simp; done) | (simp; omega) | omega)]; first | assumption | (simp; done) | (simp [*]; done) | (simp [go_sem, *]; done) }
  clear hc hf
  have l4_0 : w.heap.size < w4.heap.size := by omega
  have l4_1 : w2.heap.size < w4.heap.size := by omega
  go_wp2_with fail
  refine (eqTask_same _ _ _ _).mono ?_
  rintro e w5 ⟨rfl, hb5⟩
  have hz5 := hb5.size
  (try simp at hz5)
  go_wp2
  go_ret
  exact ⟨rfl, by (repeat (first | exact Below.refl _ _ | assumption | refine Below.setCell ?_ (by first | (simp; done) | (simp; omega) | omega) _ | refine Below.alloc ?_ (by first | (simp; done) | (simp; omega) | omega) _ | refine Below.drew ?_ | refine Below.drewN ?_ _ | refine Below.via ?_ (by assumption)))⟩
end Go.Proofs.Ytdkfiikbofamfaa
