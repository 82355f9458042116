/- alive(): the text of the rights 5 is "rg". -/
import Derived.Test.YtpgmfjipkhldmaaDraw1
import Derived.Test.YtpgmfjipkhldmaaNums
import Derived.Lib.Builder
import Derived.Lib.Walk
import Derived.Laws.Externs
import Derived.Lib.UnsafeStr
import Derived.Shelf.RegionOpenPlain
namespace Go.Proofs.Ytpgmfjipkhldmaa
set_option linter.unusedVariables false
open Go.RowKit
theorem Try.infoBuilder : (Try.prog.info? 70).map (·.size) = some 2 := by kernel_rfl
theorem Try.liesBuilder : liesAt Try.prog Try.prog.depth 70 (2 / Try.prog.cellsOf 70) 0 70 1 = true := by kernel_rfl
set_option maxHeartbeats 1000000 in
theorem copyCheck_new (g : Nat) (v : Value) (w : World) (hh : w.heap[g]? = some (.cells #[.pointer none, v] 70 (0, 0))) :
    Calls Try.prog 66 #[.pointer (some ⟨g, 0, none⟩)] w fun e w' => e = .returned (.tuple #[]) ∧ w' = w.setCell ⟨g, 0, none⟩ (.pointer (some ⟨g, 0, none⟩)) := by
  obtain ⟨j, hj, hjs⟩ := Option.map_eq_some_iff.1 Try.infoBuilder
  have h0 := cell_of_row w g 0 _ _ (0, 0) hh
  have hf := frozen_of_row w g 0 _ _ hh
  have hsh : w.shape? g = some (70, 2) := by simp [World.shape?, hh]
  simp at h0
  go_enter Try.func66, Try.ntmps66
  go_wp2
  rw [Lib.run_to_unsafe w ⟨g, 0, none⟩ Try.underlying68 Try.underlying83 hj (by rw [hjs]; decide) hsh (Nat.zero_lt_succ 1)]
  simp only [Result.andThen]
  rw [Oper.upon_value]
  go_wp2
  rw [run_callFunc_extern Try.func68 (by kernel_rfl) (by kernel_rfl) (by kernel_rfl) (e := Extern.AbiNoEscape.same) (by kernel_rfl)]
  rw [Lib.run_noEscape]
  simp only [Result.andThen]
  rw [Oper.upon_value]
  go_wp2
  rw [Lib.run_from_unsafe w ⟨g, 0, none⟩ Try.underlying83 Try.underlying68 hj hsh Try.liesBuilder]
  simp only [Result.andThen]
  rw [Oper.upon_value]
  go_wp2
  go_end0
  exact ⟨rfl, rfl⟩
set_option maxHeartbeats 1000000 in
theorem copyCheck_used (g : Nat) (v : Value) (w : World) (hh : w.heap[g]? = some (.cells #[.pointer (some ⟨g, 0, none⟩), v] 70 (0, 0))) :
    Calls Try.prog 66 #[.pointer (some ⟨g, 0, none⟩)] w fun e w' => e = .returned (.tuple #[]) ∧ w' = w := by
  obtain ⟨j, hj, hjs⟩ := Option.map_eq_some_iff.1 Try.infoBuilder
  have h0 := cell_of_row w g 0 _ _ (0, 0) hh
  simp at h0
  go_enter Try.func66, Try.ntmps66
  go_wp2
  rw [Lib.run_neq_ptr_same w _ Try.underlying68 hj]
  go_wp2
  go_end0
  exact ⟨rfl, rfl⟩
theorem Try.infoByte : (Try.prog.info? 5).map (fun i => (i.zero, i.size, i.bytes)) = some (some (.int .u8 0), 1, 1) := by kernel_rfl
set_option maxHeartbeats 1000000 in
theorem copyCheck_any (g : Nat) (bs : List Value) (w : World) (h : Lib.IsBuilder 70 5 g g bs w) :
    Calls Try.prog 66 #[.pointer (some ⟨g, 0, none⟩)] w fun e w' => e = .returned (.tuple #[]) ∧ Lib.BuilderAt 70 5 g g (.pointer (some ⟨g, 0, none⟩)) bs w' ∧ Below g w w' := by
  rcases h with h | h
  · obtain ⟨hB, v, hb, hr⟩ := id h
    refine (copyCheck_new g _ w hb).mono ?_
    rintro e w' ⟨rfl, rfl⟩
    exact ⟨rfl, h.used _, (Below.refl _ _).setCell (p := ⟨g, 0, none⟩) (Nat.le_refl _) _⟩
  · obtain ⟨hB, v, hb, hr⟩ := id h
    refine (copyCheck_used g _ w hb).mono ?_
    rintro e w' ⟨rfl, rfl⟩
    exact ⟨rfl, h, Below.refl _ _⟩
set_option maxHeartbeats 2000000 in
theorem WriteByte_any (g : Nat) (bs : List Value) (z : Int) (w : World) (h : Lib.IsBuilder 70 5 g g bs w) (hn : bs.length ≤ 1000000) (hg : g ≤ w.heap.size) :
    Calls Try.prog 52 #[.pointer (some ⟨g, 0, none⟩), .int .u8 z] w fun e w' => e = .returned .nilIface ∧ Lib.BuilderAt 70 5 g g (.pointer (some ⟨g, 0, none⟩)) (bs ++ [.int .u8 z]) w' ∧ Below g w w' := by
  obtain ⟨i0, hi0, hz0, hz1, hz2⟩ := info_parts Try.infoByte
  go_enter Try.func52, Try.ntmps52
  go_wp2_with fail
  refine (copyCheck_any g bs _ h).mono ?_
  rintro e w1 ⟨rfl, hB1, hb1⟩
  have hlt := hB1.lt
  obtain ⟨hB, v, hbk, hown, hne⟩ := hB1
  have c0 : w1.cell? ⟨g, 0, none⟩ = some (.pointer (some ⟨g, 0, none⟩)) := by rw [Lib.cell_of_heap hbk]; rfl
  have c1 : w1.cell? ⟨g, 1, none⟩ = some v := by rw [Lib.cell_of_heap hbk]; rfl
  go_wp2_with (at_builtin; refine wpList_append_own _ rfl _ _ 22 rfl g 5 i0 (.int .u8 0) 1 1 Try.underlying22 hi0 hz0 hz1 hz2 rfl (by decide) _ _ _ rfl (hown.alloc _) ⟨w1.heap.size, 0, none⟩ 1 1 [.int .u8 z] rfl rfl ?c1 ?c2 ?c3 ?c4 ?c5 ?_)
  case c1 =>
    intro j u hj
    match j, hj with
    | 0, hj => simp at hj; subst hj; simp [Addr.add]
  case c2 => intro u hu; simp at hu; subst hu; rfl
  case c3 => unfold maxLen; omega
  case c4 => omega
  case c5 => have := hb1.size; simp; omega
  intro v' w2 hown' hgrow _
  have hb2 : w2.heap[g]? = some (.cells #[.pointer (some ⟨g, 0, none⟩), v] 70 (0, 0)) := by
    rw [hgrow.block g (by simp; omega) (fun e => hne e.symm), Below.heap_alloc _ _ _ hlt]
    exact hbk
  have d0 : w2.cell? ⟨g, 0, none⟩ = some (.pointer (some ⟨g, 0, none⟩)) := by rw [Lib.cell_of_heap hb2]; rfl
  have d1 : w2.cell? ⟨g, 1, none⟩ = some v := by rw [Lib.cell_of_heap hb2]; rfl
  have f1 : w2.frozen? ⟨g, 1, none⟩ = false := Lib.frozen_of_heap hb2 1
  obtain ⟨g', cap, rfl⟩ : ∃ g' cap, v' = .slice (some ⟨g', 0, none⟩) (bs.length + 1) cap := by
    rcases hown'.2 with ⟨_, h0⟩ | ⟨g', cap, cur, hv, _⟩
    · omega
    · exact ⟨g', cap, hv⟩
  go_wp2
  go_ret
  refine ⟨rfl, ?_, ?_⟩
  · exact Lib.BuilderAt.put (T := 70) (e := 5) hB hb2 (bs' := bs ++ [.int .u8 z]) (by simpa using hown') (by decide)
  · exact ((hb1.alloc (by have := hb1.size; omega) _).grown hgrow (by have := hb1.size; simp; omega) (fun k hk => (hown.lt k hk).1)).setCell (p := ⟨g, 1, none⟩) hB _
theorem Try.cellsByte : Try.prog.cellsOf 5 = 1 := by kernel_rfl
set_option maxHeartbeats 1000000 in
theorem String_any (b : Nat) (l : List UInt8) (p : Value) (w : World) (h : Lib.BuilderAt 70 5 b b p (Lib.byteCells l) w) (h0 : l ≠ []) :
    Calls Try.prog 53 #[.pointer (some ⟨b, 0, none⟩)] w fun e w' => e = .returned (.string ⟨l.toArray⟩) ∧ Below b w w' := by
  obtain ⟨hB, v, hbk, hown, hne⟩ := h
  have hl0 : l.length ≠ 0 := by simpa using h0
  rw [Lib.byteCells_length] at hown
  obtain ⟨g, cap, cur, rfl, hbg, hg, hnc, hcm, hcs, htake⟩ : ∃ g cap cur, v = .slice (some ⟨g, 0, none⟩) l.length cap ∧ b ≤ g ∧ w.heap[g]? = some (.cells cur 5 (0, 0)) ∧ l.length ≤ cap ∧ cap ≤ maxLen ∧ cur.size = cap * 1 ∧ cur.toList.take (l.length * 1) = Lib.byteCells l := by
    rcases hown.2 with ⟨_, hz⟩ | ⟨g, cap, cur, hv, r⟩
    · exact absurd hz hl0
    · exact ⟨g, cap, cur, hv, r⟩
  have c1 : w.drew.cell? ⟨b, 1, none⟩ = some (.slice (some ⟨g, 0, none⟩) l.length cap) := by
    have : w.drew.heap[b]? = some (.cells #[p, .slice (some ⟨g, 0, none⟩) l.length cap] 70 (0, 0)) := hbk
    rw [Lib.cell_of_heap this]; rfl
  have hSD : (Builtin.unsafeSliceData_ #[22] 80 #[.slice (some ⟨g, 0, none⟩) l.length cap]).run Try.prog w.drew = .ok (.pointer (some ⟨g, 0, none⟩)) w.drew :=
    Lib.run_unsafeSliceData_row _ _ _ _ _ _ (by omega)
  have hUS : (Builtin.unsafeString_ #[80, 3] 9 #[.pointer (some ⟨g, 0, none⟩), .int .i64 l.length]).run Try.prog w.drew = .ok (.string ⟨l.toArray⟩) (w.drew.freeze ⟨g, 0, none⟩ l.length) := by
    refine Lib.run_unsafeString_row w.drew 80 3 9 5 Try.underlying80 Try.cellsByte g cur.size (by have hg' : w.drew.heap[g]? = some (.cells cur 5 (0, 0)) := hg; simp [World.shape?, hg']) l h0 (by omega) (by unfold maxLen at hcm; omega) ?_
    intro j x hx
    have := hown.cells (g := g) rfl j (.int .u8 x.toNat) (by simp [Lib.byteCells, hx])
    exact this
  have mixed : Try.prog.follows .mixedOrders = true := by kernel_rfl
  go_enter Try.func53, Try.ntmps53
  go_wp2
  go_region_o
  all_goals (go_wp2; go_ret; exact ⟨rfl, Lib.below_freeze (Below.drew (Below.refl b w)) (p := ⟨g, 0, none⟩) hbg _⟩)
set_option maxHeartbeats 400000 in
theorem RightsValid_five (w : World) : Calls Try.prog 30 #[.int .i64 5] w fun e w' => e = .returned (.bool true) ∧ w = w' := by
  go_enter Try.func30, Try.ntmps30
  go_wp2_with fail
  refine (in_any _ _ _ _).mono ?_
  rintro e w1 ⟨rfl, rfl⟩
  go_wp2
  go_ret
  exact ⟨rfl, rfl⟩
/-- What the builder holds when k letters have been looked at. -/
def rg (k : Nat) : List UInt8 := if k = 0 then [] else if k ≤ 2 then [114] else [114, 103]
set_option maxHeartbeats 2000000 in
theorem RightsText_five (w : World) : Calls Try.prog 37 #[.int .i64 5] w fun e w' => e = .returned (.string ⟨#[114, 103]⟩) ∧ Below w.heap.size w w' := by
  go_enter Try.func37, Try.ntmps37
  go_wp2_with fail
  refine (RightsValid_five _).mono ?_
  rintro e w1 ⟨rfl, rfl⟩
  go_wp2
  go_loopw [12] (fun i wr => ∃ k : Nat, k ≤ 4 ∧ i = .int .i64 k ∧ Lib.IsBuilder 70 5 w.heap.size w.heap.size (Lib.byteCells (rg k)) wr ∧ Below w.heap.size w wr) (fun i _ => 4 - (intOf i).toNat)
  case atStart =>
    exact ⟨0, by omega, rfl, .inl ⟨Nat.le_refl _, .slice none 0 0, heap_alloc_new w _, ⟨rfl, .inl ⟨rfl, rfl⟩⟩, by simp [Value.ownBlock]⟩, (Below.refl _ _).alloc (Nat.le_refl _) _⟩
  case round =>
    obtain ⟨k, hk, rfl, hB, hb⟩ := hrel
    have hkk : k = 0 ∨ k = 1 ∨ k = 2 ∨ k = 3 ∨ k = 4 := by omega
    rcases hkk with rfl | rfl | rfl | rfl | rfl
    · skip
      go_wp2_with fail
      refine (WriteByte_any _ _ _ _ hB (by simp [rg, Lib.byteCells]) hb.size).mono ?_
      rintro e w1 ⟨rfl, h1, hb1⟩
      go_wp2
      go_roundw
      case rel => exact ⟨1, by omega, rfl, .inr h1, hb.trans hb1⟩
      case measure => simp [intOf]
    · go_wp2
      go_roundw
      case rel => exact ⟨2, by omega, rfl, hB, hb⟩
      case measure => simp [intOf]
    · skip
      go_wp2_with fail
      refine (WriteByte_any _ _ _ _ hB (by simp [rg, Lib.byteCells]) hb.size).mono ?_
      rintro e w1 ⟨rfl, h1, hb1⟩
      go_wp2
      go_roundw
      case rel => exact ⟨3, by omega, rfl, .inr h1, hb.trans hb1⟩
      case measure => simp [intOf]
    · go_wp2
      go_roundw
      case rel => exact ⟨4, by omega, rfl, hB, hb⟩
      case measure => simp [intOf]
    · rcases hB with hB | hB
      · skip
        go_wp2_with fail
        refine (String_any _ [114, 103] _ _ hB (by simp)).mono ?_
        rintro e w1 ⟨rfl, hb1⟩
        go_wp2
        go_ret
        exact ⟨rfl, hb.trans hb1⟩
      · skip
        go_wp2_with fail
        refine (String_any _ [114, 103] _ _ hB (by simp)).mono ?_
        rintro e w1 ⟨rfl, hb1⟩
        go_wp2
        go_ret
        exact ⟨rfl, hb.trans hb1⟩
set_option maxHeartbeats 400000 in
theorem alive_any (w : World) : Calls Try.prog 11 #[] w fun e w' => e = .returned (.bool true) ∧ Below w.heap.size w w' := by
  go_enter Try.func11, Try.ntmps11
  go_wp2_with fail
  refine (RightsText_five _).mono ?_
  rintro e w1 ⟨rfl, hb1⟩
  go_wp2
  go_ret
  exact ⟨rfl, hb1⟩
end Go.Proofs.Ytpgmfjipkhldmaa
