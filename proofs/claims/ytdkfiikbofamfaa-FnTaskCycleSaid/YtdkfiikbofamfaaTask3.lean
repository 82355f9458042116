/- Contracts of the seat's functions on threads: TaskStart, TaskStop, TaskWait, TaskWake (impl and spec), toTask, eqTask. -/
import Derived.Test.YtdkfiikbofamfaaTask2
import Derived.StillTailTactics
import Derived.Deep.RegionHeld3
namespace Go.Proofs.Ytdkfiikbofamfaa
set_option linter.unusedVariables false
open Go.RowKit

/-- What a valid thread is. -/
theorem taskV_waits {s p x : Int} (h : taskV s p x = true) : (inB s 2 4 = true → inB x 0 99 = true) ∧ (inB s 2 4 = false → x = -1) := by
  unfold taskV at h
  cases hs : inB s 2 4 <;> simp [hs] at h ⊢
  · exact h.2
  · exact h.2

def mayStart (s : Int) : Bool := s == 0 || s == 5
def mayWake (s x ob : Int) : Bool := inB s 2 4 && x == ob

set_option maxHeartbeats 400000 in
theorem iTaskStart_any (s p x : Int) (w : World) :
    Calls Try.prog 21 #[task s p x] w fun e w' => e = .returned (becR (taskV s p x) (mayStart s) s p x 1 (-1)) ∧ Below w.heap.size w w' := by
  have hm : mayStart s = true ∨ mayStart s = false := by cases mayStart s <;> simp
  by_cases h0 : s = 0
  · subst h0
    go_enter Try.func21, Try.ntmps21
    go_wp2_with (go_at_call 37; refine (become_any _ _ _ _ _ _ _).mono ?_; rintro e w' ⟨rfl, hb⟩; obtain ⟨hc, hf⟩ := bcell hb; have hz : w.heap.size + 1 < w'.heap.size := by { have := hb.size; simp at this; omega })
    exact bodyPost_ret (v := becR (taskV 0 p x) true 0 p x 1 (-1)) (by simp [results, Try.results21, go_sem, *]) rfl ⟨rfl, by (repeat (first | exact Below.refl _ _ | assumption | refine Below.setCell ?_ (by first | (simp; done) | (simp; omega) | omega) _ | refine Below.alloc1 ?_ _ | refine Below.alloc ?_ (by first | (simp; done) | (simp; omega) | omega) _ | refine Below.drew ?_ | refine Below.drewN ?_ _ | refine Below.via ?_ (by assumption)))⟩
  · by_cases h5 : s = 5
    · subst h5
      go_enter Try.func21, Try.ntmps21
      go_wp2_with (go_at_call 37; refine (become_any _ _ _ _ _ _ _).mono ?_; rintro e w' ⟨rfl, hb⟩; obtain ⟨hc, hf⟩ := bcell hb; have hz : w.heap.size + 1 < w'.heap.size := by { have := hb.size; simp at this; omega })
      exact bodyPost_ret (v := becR (taskV 5 p x) true 5 p x 1 (-1)) (by simp [results, Try.results21, go_sem, *]) rfl ⟨rfl, by (repeat (first | exact Below.refl _ _ | assumption | refine Below.setCell ?_ (by first | (simp; done) | (simp; omega) | omega) _ | refine Below.alloc1 ?_ _ | refine Below.alloc ?_ (by first | (simp; done) | (simp; omega) | omega) _ | refine Below.drew ?_ | refine Below.drewN ?_ _ | refine Below.via ?_ (by assumption)))⟩
    · have hm' : mayStart s = false := by simp [mayStart, h0, h5]
      have hd0 : (s == 0) = false := by simp [h0]
      have hd5 : (s == 5) = false := by simp [h5]
      clear hm
      have HM := Lib.hid hm'; clear hm'
      go_enter Try.func21, Try.ntmps21
      go_wp2_with (go_at_call 37; refine (become_any _ _ _ _ _ _ _).mono ?_; rintro e w' ⟨rfl, hb⟩; obtain ⟨hc, hf⟩ := bcell hb; have hz : w.heap.size + 1 < w'.heap.size := by { have := hb.size; simp at this; omega })
      exact bodyPost_ret (v := becR (taskV s p x) false s p x 1 (-1)) (by simp [results, Try.results21, go_sem, *]) rfl ⟨by rw [HM.out], by (repeat (first | exact Below.refl _ _ | assumption | refine Below.setCell ?_ (by first | (simp; done) | (simp; omega) | omega) _ | refine Below.alloc1 ?_ _ | refine Below.alloc ?_ (by first | (simp; done) | (simp; omega) | omega) _ | refine Below.drew ?_ | refine Below.drewN ?_ _ | refine Below.via ?_ (by assumption)))⟩
set_option maxHeartbeats 400000 in
theorem iTaskStop_any (s p x : Int) (w : World) :
    Calls Try.prog 18 #[task s p x] w fun e w' => e = .returned (task (becS (taskV s p x) true s 0) (becP (taskV s p x) p) (becX (taskV s p x) true x (-1))) ∧ Below w.heap.size w w' := by
  go_enter Try.func18, Try.ntmps18
  go_wp2_with (go_at_call 37; refine (become_any _ _ _ _ _ _ _).mono ?_; rintro e w' ⟨rfl, hb⟩; obtain ⟨hc, hf⟩ := bcell hb; have hz : w.heap.size + 1 < w'.heap.size := by { have := hb.size; simp at this; omega })
  exact bodyPost_ret (v := task (becS (taskV s p x) true s 0) (becP (taskV s p x) p) (becX (taskV s p x) true x (-1))) (by simp [results, Try.results18, go_sem, *]) rfl ⟨rfl, by (repeat (first | exact Below.refl _ _ | assumption | refine Below.setCell ?_ (by first | (simp; done) | (simp; omega) | omega) _ | refine Below.alloc1 ?_ _ | refine Below.alloc ?_ (by first | (simp; done) | (simp; omega) | omega) _ | refine Below.drew ?_ | refine Below.drewN ?_ _ | refine Below.via ?_ (by assumption)))⟩
set_option maxHeartbeats 400000 in
theorem iTaskWait_any (s p x st ob : Int) (w : World) :
    Calls Try.prog 25 #[task s p x, .int .i64 st, .int .i64 ob] w fun e w' => e = .returned (becR (taskV s p x && (inB st 2 4 && inB ob 0 99)) (s == 1) s p x st ob) ∧ Below w.heap.size w w' := by
  cases hs : inB st 2 4 <;> cases ho : inB ob 0 99
  all_goals
    go_enter Try.func25, Try.ntmps25
    go_wp2_with (first | (go_at_call 35; refine (waits_any _ _).mono ?_; rintro e w' ⟨rfl, rfl⟩) | (go_at_call 36; refine (isObject_any _ _).mono ?_; rintro e w' ⟨rfl, rfl⟩) | (go_at_call 37; refine (become_any _ _ _ _ _ _ _).mono ?_; rintro e w' ⟨rfl, hb⟩; obtain ⟨hc, hf⟩ := bcell hb; have hz : w.heap.size + 1 < w'.heap.size := by { have := hb.size; simp at this; omega }))
    refine bodyPost_ret (v := becR (taskV s p x && (inB st 2 4 && inB ob 0 99)) (s == 1) s p x st ob) (by simp [results, Try.results25, go_sem, becS, becP, becX, becO, *]) rfl ⟨by simp only [hs, ho], by (repeat (first | exact Below.refl _ _ | assumption | refine Below.setCell ?_ (by first | (simp; done) | (simp; omega) | omega) _ | refine Below.alloc1 ?_ _ | refine Below.alloc ?_ (by first | (simp; done) | (simp; omega) | omega) _ | refine Below.drew ?_ | refine Below.drewN ?_ _ | refine Below.via ?_ (by assumption)))⟩
set_option maxHeartbeats 400000 in
theorem sTaskStart_any (s p x : Int) (w : World) :
    Calls Try.prog 20 #[task s p x] w fun e w' => e = .returned (becR (taskV s p x) (mayStart s) s p x 1 (-1)) ∧ Below w.heap.size w w' := by
  cases hv : taskV s p x
  · go_enter Try.func20, Try.ntmps20
    go_wp2_with (go_at_call 14; refine (sTaskValid_any _ _ _ _).mono ?_; rintro e w' ⟨rfl, hb⟩; obtain ⟨hc, hf⟩ := bcell hb; have hz : w.heap.size + 1 < w'.heap.size := by { have := hb.size; simp at this; omega }; have k0 : w'.cell? ⟨w.heap.size, 0, none⟩ = some (.int .i64 s) := by { rw [hc _ _ (by first | (simp; done) | (simp; omega) | omega)]; simp }; have k1 : w'.cell? ⟨w.heap.size, 1, none⟩ = some (.int .i64 p) := by { rw [hc _ _ (by first | (simp; done) | (simp; omega) | omega)]; simp }; have k2 : w'.cell? ⟨w.heap.size, 2, none⟩ = some (.int .i64 x) := by { rw [hc _ _ (by first | (simp; done) | (simp; omega) | omega)]; simp })
    exact bodyPost_ret (v := becR false (mayStart s) s p x 1 (-1)) (by simp [results, Try.results20, go_sem, becS, becP, becX, becO, *]) rfl ⟨rfl, by (repeat (first | exact Below.refl _ _ | assumption | refine Below.setCell ?_ (by first | (simp; done) | (simp; omega) | omega) _ | refine Below.alloc1 ?_ _ | refine Below.alloc ?_ (by first | (simp; done) | (simp; omega) | omega) _ | refine Below.drew ?_ | refine Below.drewN ?_ _ | refine Below.via ?_ (by assumption)))⟩
  · obtain ⟨hv1, hv2⟩ := taskV_waits hv
    by_cases h0 : s = 0 ∨ s = 5
    · have hx : x = -1 := hv2 (by rw [inB_false]; omega)
      have HX := Lib.hid hx
      have hm : mayStart s = true := by simp [mayStart]; omega
      have HM := Lib.hid hm
      clear hx hm hv1 hv2
      rcases h0 with rfl | rfl
      · go_enter Try.func20, Try.ntmps20
        go_wp2_with (go_at_call 14; refine (sTaskValid_any _ _ _ _).mono ?_; rintro e w' ⟨rfl, hb⟩; obtain ⟨hc, hf⟩ := bcell hb; have hz : w.heap.size + 1 < w'.heap.size := by { have := hb.size; simp at this; omega }; have k0 : w'.cell? ⟨w.heap.size, 0, none⟩ = some (.int .i64 0) := by { rw [hc _ _ (by first | (simp; done) | (simp; omega) | omega)]; simp }; have k1 : w'.cell? ⟨w.heap.size, 1, none⟩ = some (.int .i64 p) := by { rw [hc _ _ (by first | (simp; done) | (simp; omega) | omega)]; simp }; have k2 : w'.cell? ⟨w.heap.size, 2, none⟩ = some (.int .i64 x) := by { rw [hc _ _ (by first | (simp; done) | (simp; omega) | omega)]; simp })
        refine bodyPost_ret (v := .tuple #[task 1 p x, .bool true]) (by simp [results, Try.results20, go_sem, *]) rfl ⟨by rw [HM.out, HX.out]; rfl, by (repeat (first | exact Below.refl _ _ | assumption | refine Below.setCell ?_ (by first | (simp; done) | (simp; omega) | omega) _ | refine Below.alloc1 ?_ _ | refine Below.alloc ?_ (by first | (simp; done) | (simp; omega) | omega) _ | refine Below.drew ?_ | refine Below.drewN ?_ _ | refine Below.via ?_ (by assumption)))⟩
      · go_enter Try.func20, Try.ntmps20
        go_wp2_with (go_at_call 14; refine (sTaskValid_any _ _ _ _).mono ?_; rintro e w' ⟨rfl, hb⟩; obtain ⟨hc, hf⟩ := bcell hb; have hz : w.heap.size + 1 < w'.heap.size := by { have := hb.size; simp at this; omega }; have k0 : w'.cell? ⟨w.heap.size, 0, none⟩ = some (.int .i64 5) := by { rw [hc _ _ (by first | (simp; done) | (simp; omega) | omega)]; simp }; have k1 : w'.cell? ⟨w.heap.size, 1, none⟩ = some (.int .i64 p) := by { rw [hc _ _ (by first | (simp; done) | (simp; omega) | omega)]; simp }; have k2 : w'.cell? ⟨w.heap.size, 2, none⟩ = some (.int .i64 x) := by { rw [hc _ _ (by first | (simp; done) | (simp; omega) | omega)]; simp })
        refine bodyPost_ret (v := .tuple #[task 1 p x, .bool true]) (by simp [results, Try.results20, go_sem, *]) rfl ⟨by rw [HM.out, HX.out]; rfl, by (repeat (first | exact Below.refl _ _ | assumption | refine Below.setCell ?_ (by first | (simp; done) | (simp; omega) | omega) _ | refine Below.alloc1 ?_ _ | refine Below.alloc ?_ (by first | (simp; done) | (simp; omega) | omega) _ | refine Below.drew ?_ | refine Below.drewN ?_ _ | refine Below.via ?_ (by assumption)))⟩
    · have hm : mayStart s = false := by simp [mayStart]; omega
      have HM := Lib.hid hm
      have d0 : (s != 0) = true := by simp; omega
      have d5 : (s != 5) = true := by simp; omega
      clear hm hv1 hv2 h0
      go_enter Try.func20, Try.ntmps20
      go_wp2_with (go_at_call 14; refine (sTaskValid_any _ _ _ _).mono ?_; rintro e w' ⟨rfl, hb⟩; obtain ⟨hc, hf⟩ := bcell hb; have hz : w.heap.size + 1 < w'.heap.size := by { have := hb.size; simp at this; omega }; have k0 : w'.cell? ⟨w.heap.size, 0, none⟩ = some (.int .i64 s) := by { rw [hc _ _ (by first | (simp; done) | (simp; omega) | omega)]; simp }; have k1 : w'.cell? ⟨w.heap.size, 1, none⟩ = some (.int .i64 p) := by { rw [hc _ _ (by first | (simp; done) | (simp; omega) | omega)]; simp }; have k2 : w'.cell? ⟨w.heap.size, 2, none⟩ = some (.int .i64 x) := by { rw [hc _ _ (by first | (simp; done) | (simp; omega) | omega)]; simp })
      refine bodyPost_ret (v := .tuple #[task s p x, .bool false]) (by simp [results, Try.results20, go_sem, *]) rfl ⟨by rw [HM.out]; rfl, by (repeat (first | exact Below.refl _ _ | assumption | refine Below.setCell ?_ (by first | (simp; done) | (simp; omega) | omega) _ | refine Below.alloc1 ?_ _ | refine Below.alloc ?_ (by first | (simp; done) | (simp; omega) | omega) _ | refine Below.drew ?_ | refine Below.drewN ?_ _ | refine Below.via ?_ (by assumption)))⟩
set_option maxHeartbeats 400000 in
theorem sTaskStop_any (s p x : Int) (w : World) :
    Calls Try.prog 17 #[task s p x] w fun e w' => e = .returned (task (becS (taskV s p x) true s 0) (becP (taskV s p x) p) (becX (taskV s p x) true x (-1))) ∧ Below w.heap.size w w' := by
  cases hv : taskV s p x
  all_goals
    go_enter Try.func17, Try.ntmps17
    go_wp2_with (go_at_call 14; refine (sTaskValid_any _ _ _ _).mono ?_; rintro e w' ⟨rfl, hb⟩; obtain ⟨hc, hf⟩ := bcell hb; have hz : w.heap.size + 1 < w'.heap.size := by { have := hb.size; simp at this; omega }; have k0 : w'.cell? ⟨w.heap.size, 0, none⟩ = some (.int .i64 s) := by { rw [hc _ _ (by first | (simp; done) | (simp; omega) | omega)]; simp }; have k1 : w'.cell? ⟨w.heap.size, 1, none⟩ = some (.int .i64 p) := by { rw [hc _ _ (by first | (simp; done) | (simp; omega) | omega)]; simp }; have k2 : w'.cell? ⟨w.heap.size, 2, none⟩ = some (.int .i64 x) := by { rw [hc _ _ (by first | (simp; done) | (simp; omega) | omega)]; simp })
  · exact bodyPost_ret (v := task (becS false true s 0) (becP false p) (becX false true x (-1))) (by simp [results, Try.results17, go_sem, becS, becP, becX, *]) rfl ⟨rfl, by (repeat (first | exact Below.refl _ _ | assumption | refine Below.setCell ?_ (by first | (simp; done) | (simp; omega) | omega) _ | refine Below.alloc1 ?_ _ | refine Below.alloc ?_ (by first | (simp; done) | (simp; omega) | omega) _ | refine Below.drew ?_ | refine Below.drewN ?_ _ | refine Below.via ?_ (by assumption)))⟩
  · exact bodyPost_ret (v := task (becS true true s 0) (becP true p) (becX true true x (-1))) (by simp [results, Try.results17, go_sem, becS, becP, becX, *]) rfl ⟨rfl, by (repeat (first | exact Below.refl _ _ | assumption | refine Below.setCell ?_ (by first | (simp; done) | (simp; omega) | omega) _ | refine Below.alloc1 ?_ _ | refine Below.alloc ?_ (by first | (simp; done) | (simp; omega) | omega) _ | refine Below.drew ?_ | refine Below.drewN ?_ _ | refine Below.via ?_ (by assumption)))⟩
set_option maxHeartbeats 400000 in
theorem sTaskWake_any (s p x ob : Int) (w : World) :
    Calls Try.prog 22 #[task s p x, .int .i64 ob] w fun e w' => e = .returned (becR (taskV s p x) (mayWake s x ob) s p x 1 (-1)) ∧ Below w.heap.size w w' := by
  cases hv : taskV s p x
  · go_enter Try.func22, Try.ntmps22
    go_wp2_with (go_at_call 14; refine (sTaskValid_any _ _ _ _).mono ?_; rintro e w' ⟨rfl, hb⟩; obtain ⟨hc, hf⟩ := bcell hb; have hz : w.heap.size + 1 < w'.heap.size := by { have := hb.size; simp at this; omega }; have k0 : w'.cell? ⟨w.heap.size, 0, none⟩ = some (.int .i64 s) := by { rw [hc _ _ (by first | (simp; done) | (simp; omega) | omega)]; simp }; have k1 : w'.cell? ⟨w.heap.size, 1, none⟩ = some (.int .i64 p) := by { rw [hc _ _ (by first | (simp; done) | (simp; omega) | omega)]; simp }; have k2 : w'.cell? ⟨w.heap.size, 2, none⟩ = some (.int .i64 x) := by { rw [hc _ _ (by first | (simp; done) | (simp; omega) | omega)]; simp })
    exact bodyPost_ret (v := becR false (mayWake s x ob) s p x 1 (-1)) (by simp [results, Try.results22, go_sem, becS, becP, becX, becO, *]) rfl ⟨rfl, by (repeat (first | exact Below.refl _ _ | assumption | refine Below.setCell ?_ (by first | (simp; done) | (simp; omega) | omega) _ | refine Below.alloc1 ?_ _ | refine Below.alloc ?_ (by first | (simp; done) | (simp; omega) | omega) _ | refine Below.drew ?_ | refine Below.drewN ?_ _ | refine Below.via ?_ (by assumption)))⟩
  · obtain ⟨hv1, hv2⟩ := taskV_waits hv
    by_cases hx0 : x < 0
    · have hm : mayWake s x ob = false := by
        unfold mayWake
        cases hs : inB s 2 4
        · rfl
        · have := hv1 hs; rw [inB_true] at this; omega
      have HM := Lib.hid hm
      clear hm hv1 hv2
      go_enter Try.func22, Try.ntmps22
      go_wp2_with (go_at_call 14; refine (sTaskValid_any _ _ _ _).mono ?_; rintro e w' ⟨rfl, hb⟩; obtain ⟨hc, hf⟩ := bcell hb; have hz : w.heap.size + 1 < w'.heap.size := by { have := hb.size; simp at this; omega }; have k0 : w'.cell? ⟨w.heap.size, 0, none⟩ = some (.int .i64 s) := by { rw [hc _ _ (by first | (simp; done) | (simp; omega) | omega)]; simp }; have k1 : w'.cell? ⟨w.heap.size, 1, none⟩ = some (.int .i64 p) := by { rw [hc _ _ (by first | (simp; done) | (simp; omega) | omega)]; simp }; have k2 : w'.cell? ⟨w.heap.size, 2, none⟩ = some (.int .i64 x) := by { rw [hc _ _ (by first | (simp; done) | (simp; omega) | omega)]; simp })
      refine bodyPost_ret (v := .tuple #[task s p x, .bool false]) (by simp [results, Try.results22, go_sem, *]) rfl ⟨by rw [HM.out]; rfl, by (repeat (first | exact Below.refl _ _ | assumption | refine Below.setCell ?_ (by first | (simp; done) | (simp; omega) | omega) _ | refine Below.alloc1 ?_ _ | refine Below.alloc ?_ (by first | (simp; done) | (simp; omega) | omega) _ | refine Below.drew ?_ | refine Below.drewN ?_ _ | refine Below.via ?_ (by assumption)))⟩
    · have hs : inB s 2 4 = true := by
        cases hs : inB s 2 4
        · have := hv2 hs; omega
        · rfl
      by_cases hxo : x = ob
      · have hm : mayWake s x ob = true := by simp [mayWake, hs, hxo]
        have HM := Lib.hid hm
        clear hm hv1 hv2 hs
        subst hxo
        go_enter Try.func22, Try.ntmps22
        go_wp2_with (go_at_call 14; refine (sTaskValid_any _ _ _ _).mono ?_; rintro e w' ⟨rfl, hb⟩; obtain ⟨hc, hf⟩ := bcell hb; have hz : w.heap.size + 1 < w'.heap.size := by { have := hb.size; simp at this; omega }; have k0 : w'.cell? ⟨w.heap.size, 0, none⟩ = some (.int .i64 s) := by { rw [hc _ _ (by first | (simp; done) | (simp; omega) | omega)]; simp }; have k1 : w'.cell? ⟨w.heap.size, 1, none⟩ = some (.int .i64 p) := by { rw [hc _ _ (by first | (simp; done) | (simp; omega) | omega)]; simp }; have k2 : w'.cell? ⟨w.heap.size, 2, none⟩ = some (.int .i64 x) := by { rw [hc _ _ (by first | (simp; done) | (simp; omega) | omega)]; simp })
        refine bodyPost_ret (v := .tuple #[task 1 p (-1), .bool true]) (by simp [results, Try.results22, go_sem, *]) rfl ⟨by rw [HM.out]; rfl, by (repeat (first | exact Below.refl _ _ | assumption | refine Below.setCell ?_ (by first | (simp; done) | (simp; omega) | omega) _ | refine Below.alloc1 ?_ _ | refine Below.alloc ?_ (by first | (simp; done) | (simp; omega) | omega) _ | refine Below.drew ?_ | refine Below.drewN ?_ _ | refine Below.via ?_ (by assumption)))⟩
      · have hm : mayWake s x ob = false := by simp [mayWake, hs, hxo]
        have HM := Lib.hid hm
        have hd : (x != ob) = true := by simp [hxo]
        have hd0 : decide (x < 0) = false := by simp; omega
        clear hm hv1 hv2 hs
        go_enter Try.func22, Try.ntmps22
        go_wp2_with (go_at_call 14; refine (sTaskValid_any _ _ _ _).mono ?_; rintro e w' ⟨rfl, hb⟩; obtain ⟨hc, hf⟩ := bcell hb; have hz : w.heap.size + 1 < w'.heap.size := by { have := hb.size; simp at this; omega }; have k0 : w'.cell? ⟨w.heap.size, 0, none⟩ = some (.int .i64 s) := by { rw [hc _ _ (by first | (simp; done) | (simp; omega) | omega)]; simp }; have k1 : w'.cell? ⟨w.heap.size, 1, none⟩ = some (.int .i64 p) := by { rw [hc _ _ (by first | (simp; done) | (simp; omega) | omega)]; simp }; have k2 : w'.cell? ⟨w.heap.size, 2, none⟩ = some (.int .i64 x) := by { rw [hc _ _ (by first | (simp; done) | (simp; omega) | omega)]; simp })
        refine bodyPost_ret (v := .tuple #[task s p x, .bool false]) (by simp [results, Try.results22, go_sem, *]) rfl ⟨by rw [HM.out]; rfl, by (repeat (first | exact Below.refl _ _ | assumption | refine Below.setCell ?_ (by first | (simp; done) | (simp; omega) | omega) _ | refine Below.alloc1 ?_ _ | refine Below.alloc ?_ (by first | (simp; done) | (simp; omega) | omega) _ | refine Below.drew ?_ | refine Below.drewN ?_ _ | refine Below.via ?_ (by assumption)))⟩
set_option maxHeartbeats 400000 in
theorem sTaskWait_any (s p x st ob : Int) (w : World) :
    Calls Try.prog 24 #[task s p x, .int .i64 st, .int .i64 ob] w fun e w' => e = .returned (becR (taskV s p x && (inB st 2 4 && inB ob 0 99)) (s == 1) s p x st ob) ∧ Below w.heap.size w w' := by
  have hmain : ∀ v a b : Bool, taskV s p x = v → inB st 2 4 = a → inB ob 0 99 = b → (v && (a && b)) = false → Calls Try.prog 24 #[task s p x, .int .i64 st, .int .i64 ob] w fun e w' => e = .returned (becR false (s == 1) s p x st ob) ∧ Below w.heap.size w w' := by
    intro v a b hv ha hb0 hf0
    cases v <;> cases a <;> cases b <;> simp at hf0
    all_goals
      go_enter Try.func24, Try.ntmps24
      go_wp2_with (first | (go_at_call 32; refine (l1In_any _ _ _ _).mono ?_; rintro e w' ⟨rfl, rfl⟩) | (go_at_call 14; refine (sTaskValid_any _ _ _ _).mono ?_; rintro e w' ⟨rfl, hb⟩; obtain ⟨hc, hf⟩ := bcell hb; have hz : w.heap.size + 1 < w'.heap.size := by { have := hb.size; simp at this; omega }; have k0 : w'.cell? ⟨w.heap.size, 0, none⟩ = some (.int .i64 s) := by { rw [hc _ _ (by first | (simp; done) | (simp; omega) | omega)]; simp }; have k1 : w'.cell? ⟨w.heap.size, 1, none⟩ = some (.int .i64 p) := by { rw [hc _ _ (by first | (simp; done) | (simp; omega) | omega)]; simp }; have k2 : w'.cell? ⟨w.heap.size, 2, none⟩ = some (.int .i64 x) := by { rw [hc _ _ (by first | (simp; done) | (simp; omega) | omega)]; simp }))
      exact bodyPost_ret (v := becR false (s == 1) s p x st ob) (by simp [results, Try.results24, go_sem, becS, becP, becX, becO, *]) rfl ⟨rfl, by (repeat (first | exact Below.refl _ _ | assumption | refine Below.setCell ?_ (by first | (simp; done) | (simp; omega) | omega) _ | refine Below.alloc1 ?_ _ | refine Below.alloc ?_ (by first | (simp; done) | (simp; omega) | omega) _ | refine Below.drew ?_ | refine Below.drewN ?_ _ | refine Below.via ?_ (by assumption)))⟩
  cases hc : (taskV s p x && (inB st 2 4 && inB ob 0 99))
  · exact hmain _ _ _ rfl rfl rfl hc
  · simp only [Bool.and_eq_true] at hc
    obtain ⟨hv, ha, hb0⟩ := hc
    clear hmain
    by_cases h1 : s = 1
    · subst h1
      go_enter Try.func24, Try.ntmps24
      go_wp2_with (first | (go_at_call 32; refine (l1In_any _ _ _ _).mono ?_; rintro e w' ⟨rfl, rfl⟩) | (go_at_call 14; refine (sTaskValid_any _ _ _ _).mono ?_; rintro e w' ⟨rfl, hb⟩; obtain ⟨hc, hf⟩ := bcell hb; have hz : w.heap.size + 1 < w'.heap.size := by { have := hb.size; simp at this; omega }; have k0 : w'.cell? ⟨w.heap.size, 0, none⟩ = some (.int .i64 1) := by { rw [hc _ _ (by first | (simp; done) | (simp; omega) | omega)]; simp }; have k1 : w'.cell? ⟨w.heap.size, 1, none⟩ = some (.int .i64 p) := by { rw [hc _ _ (by first | (simp; done) | (simp; omega) | omega)]; simp }; have k2 : w'.cell? ⟨w.heap.size, 2, none⟩ = some (.int .i64 x) := by { rw [hc _ _ (by first | (simp; done) | (simp; omega) | omega)]; simp }))
      refine bodyPost_ret (v := .tuple #[task st p ob, .bool true]) (by simp [results, Try.results24, go_sem, *]) rfl ⟨rfl, by (repeat (first | exact Below.refl _ _ | assumption | refine Below.setCell ?_ (by first | (simp; done) | (simp; omega) | omega) _ | refine Below.alloc1 ?_ _ | refine Below.alloc ?_ (by first | (simp; done) | (simp; omega) | omega) _ | refine Below.drew ?_ | refine Below.drewN ?_ _ | refine Below.via ?_ (by assumption)))⟩
    · have hd : (s == 1) = false := by simp [h1]
      have HD := Lib.hid hd
      clear hd
      go_enter Try.func24, Try.ntmps24
      go_wp2_with (first | (go_at_call 32; refine (l1In_any _ _ _ _).mono ?_; rintro e w' ⟨rfl, rfl⟩) | (go_at_call 14; refine (sTaskValid_any _ _ _ _).mono ?_; rintro e w' ⟨rfl, hb⟩; obtain ⟨hc, hf⟩ := bcell hb; have hz : w.heap.size + 1 < w'.heap.size := by { have := hb.size; simp at this; omega }; have k0 : w'.cell? ⟨w.heap.size, 0, none⟩ = some (.int .i64 s) := by { rw [hc _ _ (by first | (simp; done) | (simp; omega) | omega)]; simp }; have k1 : w'.cell? ⟨w.heap.size, 1, none⟩ = some (.int .i64 p) := by { rw [hc _ _ (by first | (simp; done) | (simp; omega) | omega)]; simp }; have k2 : w'.cell? ⟨w.heap.size, 2, none⟩ = some (.int .i64 x) := by { rw [hc _ _ (by first | (simp; done) | (simp; omega) | omega)]; simp }))
      refine bodyPost_ret (v := .tuple #[task s p x, .bool false]) (by simp [results, Try.results24, go_sem, *]) rfl ⟨by rw [HD.out]; rfl, by (repeat (first | exact Below.refl _ _ | assumption | refine Below.setCell ?_ (by first | (simp; done) | (simp; omega) | omega) _ | refine Below.alloc1 ?_ _ | refine Below.alloc ?_ (by first | (simp; done) | (simp; omega) | omega) _ | refine Below.drew ?_ | refine Below.drewN ?_ _ | refine Below.via ?_ (by assumption)))⟩
end Go.Proofs.Ytdkfiikbofamfaa
