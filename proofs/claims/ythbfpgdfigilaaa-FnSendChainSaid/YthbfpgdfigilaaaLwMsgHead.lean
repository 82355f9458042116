/- The texts that the laws on drawn messages need. -/
import Derived.Test.YthbfpgdfigilaaaDrawMsg2
import Derived.Test.YthbfpgdfigilaaaMsg5
import Derived.Test.YthbfpgdfigilaaaUnpack3
import Derived.Test.YthbfpgdfigilaaaUnpack4
import Derived.Test.YthbfpgdfigilaaaAlive
namespace Go.Proofs.Ythbfpgdfigilaaa
set_option linter.unusedVariables false
open Go.RowKit
theorem msgOk_nine (l : Int) (cs : List Cp) : msgOk l (List.replicate 9 0) cs = false := by unfold msgOk; simp
theorem msgOk_none (l : Int) (xs : List Int) : msgOk l xs [(0, 0, 0, 0)] = false := by unfold msgOk kOk; simp
/-- What arrives: each capability is one that was sent, without some rights. -/
def Sub (a : Int) (cs ds : List Cp) : Prop := ∀ (k : Nat) (c : Cp), ds[k]? = some c → ∃ d, cs[k]? = some d ∧ c = mask a d
theorem sub_send {l : Int} {xs : List Int} {cs : List Cp} {k o r b : Int} : Sub r cs (sendC l xs cs k o r b) := by
  intro i c h
  unfold sendC at h
  split at h
  · rw [List.getElem?_map] at h
    obtain ⟨d, h1, h2⟩ := Option.map_eq_some_iff.1 h
    exact ⟨d, h1, h2.symm⟩
  · cases h
theorem send_parts {l : Int} {xs : List Int} {cs : List Cp} {k o r b : Int} (h : sendOk l xs cs k o r b = true) : msgOk l xs cs = true ∧ 0 ≤ r ∧ r ≤ 15 ∧ msgOk l xs (sendC l xs cs k o r b) = true := by
  have h1 := sendOk_msg h
  have h2 : 0 ≤ r ∧ r ≤ 15 := by
    unfold sendOk at h
    simp only [Bool.and_eq_true] at h
    exact capOk_rights h.2.1
  refine ⟨h1, h2.1, h2.2, ?_⟩
  unfold sendC
  split
  · exact msgOk_mask h1 h2
  · exact msgOk_nil h1
theorem sendC_len0 {l : Int} {xs : List Int} {cs : List Cp} {k o r b : Int} (h4 : (andI r 4 == 0) = true) : (sendC l xs cs k o r b).length = 0 := by unfold sendC; rw [h4]; simp
theorem sendC_len1 {l : Int} {xs : List Int} {cs : List Cp} {k o r b : Int} (h : sendOk l xs cs k o r b = true) (h4 : (andI r 4 == 0) = false) : (sendC l xs cs k o r b).length = cs.length := by unfold sendC; rw [h, h4]; simp
theorem sendC_le {l : Int} {xs : List Int} {cs : List Cp} {k o r b : Int} : (sendC l xs cs k o r b).length ≤ cs.length := by unfold sendC; split <;> simp
section
variable {B T n c m d : Nat} {l : Int} {A D : Option Addr} {xs : List Int} {cs : List Cp} {k o r b : Int} {w : World}
theorem iSend_no (hr : Rd w B T 1 A n (ints xs)) (hn : n ≤ 1048576) (hr2 : Rd w B T 4 D m (caps cs)) (hm : m ≤ 1048576) (h : sendOk l xs cs k o r b = false) :
    Calls Try.prog 29 #[msg l A n c D m d, capv k o r b] w (NewMsgB w 0 [] [] false) := by
  have H := iSendOver_any B T n c m d l A D xs cs k o r b w hr hn hr2 hm
  obtain ⟨h1, h2, h3, h4⟩ := send_no h
  rwa [h1, h2, h3, h4] at H
theorem sSend_no (hr : Rd w B T 1 A n (ints xs)) (hn : n ≤ 1048576) (hr2 : Rd w B T 4 D m (caps cs)) (hm : m ≤ 1048576) (h : sendOk l xs cs k o r b = false) :
    Calls Try.prog 27 #[msg l A n c D m d, capv k o r b] w (NewMsgB w 0 [] [] false) := by
  have H := sSendOver_any B T n c m d l A D xs cs k o r b w hr hn hr2 hm
  obtain ⟨h1, h2, h3, h4⟩ := send_no h
  rwa [h1, h2, h3, h4] at H
theorem iSend_yes (hr : Rd w B T 1 A n (ints xs)) (hn : n ≤ 1048576) (hr2 : Rd w B T 4 D m (caps cs)) (hm : m ≤ 1048576) (h : sendOk l xs cs k o r b = true) {ds : List Cp} (hd : sendC l xs cs k o r b = ds) :
    Calls Try.prog 29 #[msg l A n c D m d, capv k o r b] w (NewMsgB w l xs ds true) := by
  have H := iSendOver_any B T n c m d l A D xs cs k o r b w hr hn hr2 hm
  have h2 : sendB l xs cs k o r b = l := by unfold sendB; rw [h]; rfl
  have h3 : sendX l xs cs k o r b = xs := by unfold sendX; rw [h]; rfl
  rwa [h, h2, h3, hd] at H
theorem sSend_yes (hr : Rd w B T 1 A n (ints xs)) (hn : n ≤ 1048576) (hr2 : Rd w B T 4 D m (caps cs)) (hm : m ≤ 1048576) (h : sendOk l xs cs k o r b = true) {ds : List Cp} (hd : sendC l xs cs k o r b = ds) :
    Calls Try.prog 27 #[msg l A n c D m d, capv k o r b] w (NewMsgB w l xs ds true) := by
  have H := sSendOver_any B T n c m d l A D xs cs k o r b w hr hn hr2 hm
  have h2 : sendB l xs cs k o r b = l := by unfold sendB; rw [h]; rfl
  have h3 : sendX l xs cs k o r b = xs := by unfold sendX; rw [h]; rfl
  rwa [h, h2, h3, hd] at H
theorem iSend_some (hr : Rd w B T 1 A n (ints xs)) (hn : n ≤ 1048576) (hr2 : Rd w B T 4 D m (caps cs)) (hm : m ≤ 1048576) :
    Calls Try.prog 29 #[msg l A n c D m d, capv k o r b] w fun e w' => ∃ (A' : Option Addr) (c' : Nat) (D' : Option Addr) (d' : Nat) (l' : Int) (n' m' : Nat) (ok : Bool), e = .returned (.tuple #[msg l' A' n' c' D' m' d', .bool ok]) ∧ Below w.heap.size w w' :=
  (iSendOver_any B T n c m d l A D xs cs k o r b w hr hn hr2 hm).mono fun e w' ⟨A', c', D', d', M, h1, _, _, _, _, h2⟩ => ⟨A', c', D', d', _, _, _, _, h1, h2⟩
theorem iUnpack_pack (hr : Rd w B T 1 A n (ints (packL l xs cs))) (hn : n ≤ 1048576) (hnc : n ≤ c) (h : msgOk l xs cs = true) :
    Calls Try.prog 25 #[.slice A n c] w (NewMsgB w l xs cs true) := by
  have H := iUnpackMessage_any B T n c A (packL l xs cs) w hr hn hnc (pack_hi h).2.2
  obtain ⟨h1, h2, h3, h4⟩ := unpack_pack h
  rwa [h1, h2, h3, h4] at H
theorem iUnpack_no {ys : List Int} (hr : Rd w B T 1 A n (ints ys)) (hn : n ≤ 1048576) (hnc : n ≤ c) (hbd : ∀ x ∈ ys, x ≤ 9223372036854775807) (h : unpOk ys = false) :
    Calls Try.prog 25 #[.slice A n c] w (NewMsgB w 0 [] [] false) := by
  have H := iUnpackMessage_any B T n c A ys w hr hn hnc hbd
  obtain ⟨h1, h2, h3, h4⟩ := unp_no h
  rwa [h1, h2, h3, h4] at H
theorem sUnpack_no {ys : List Int} (hr : Rd w B T 1 A n (ints ys)) (hn : n ≤ 1048576) (hnc : n ≤ c) (hbd : ∀ x ∈ ys, x ≤ 9223372036854775807) (h : unpOk ys = false) :
    Calls Try.prog 23 #[.slice A n c] w (NewMsgB w 0 [] [] false) := by
  have H := sUnpackMessage_any B T n c A ys w hr hn hnc hbd
  obtain ⟨h1, h2, h3, h4⟩ := unp_no h
  rwa [h1, h2, h3, h4] at H
theorem iUnpack_yes {ys : List Int} {l' : Int} {us : List Int} {ds : List Cp} (hr : Rd w B T 1 A n (ints ys)) (hn : n ≤ 1048576) (hnc : n ≤ c) (hbd : ∀ x ∈ ys, x ≤ 9223372036854775807) (h : unpOk ys = true) (h1 : unpB ys = l') (h2 : unpX ys = us) (h3 : unpC ys = ds) :
    Calls Try.prog 25 #[.slice A n c] w (NewMsgB w l' us ds true) := by
  have H := iUnpackMessage_any B T n c A ys w hr hn hnc hbd
  rwa [h1, h2, h3, h] at H
theorem sUnpack_yes {ys : List Int} {l' : Int} {us : List Int} {ds : List Cp} (hr : Rd w B T 1 A n (ints ys)) (hn : n ≤ 1048576) (hnc : n ≤ c) (hbd : ∀ x ∈ ys, x ≤ 9223372036854775807) (h : unpOk ys = true) (h1 : unpB ys = l') (h2 : unpX ys = us) (h3 : unpC ys = ds) :
    Calls Try.prog 23 #[.slice A n c] w (NewMsgB w l' us ds true) := by
  have H := sUnpackMessage_any B T n c A ys w hr hn hnc hbd
  rwa [h1, h2, h3, h] at H
theorem iPack_ys {ys : List Int} (hr : Rd w B T 1 A n (ints xs)) (hn : n ≤ 1048576) (hr2 : Rd w B T 4 D m (caps cs)) (hm : m ≤ 1048576) (hy : packL l xs cs = ys) :
    Calls Try.prog 18 #[msg l A n c D m d] w (NewInts w ys) := by
  have H := iPackMessage_any B T n c m d l A D xs cs w hr hn hr2 hm
  rwa [hy] at H
theorem sPack_ys {ys : List Int} (hr : Rd w B T 1 A n (ints xs)) (hn : n ≤ 1048576) (hr2 : Rd w B T 4 D m (caps cs)) (hm : m ≤ 1048576) (hy : packL l xs cs = ys) :
    Calls Try.prog 17 #[msg l A n c D m d] w (NewInts w ys) := by
  have H := sPackMessage_any B T n c m d l A D xs cs w hr hn hr2 hm
  rwa [hy] at H
theorem sameInts_same {B2 T2 c2 : Nat} {A2 : Option Addr} (hr : Rd w B T 1 A n (ints xs)) (hr2 : Rd w B2 T2 1 A2 n (ints xs)) (hn : n ≤ 1048576) :
    Calls Try.prog 33 #[.slice A n c, .slice A2 n c2] w fun e w' => e = .returned (.bool true) ∧ Below w.heap.size w w' := by
  have H := sameInts_any B T B2 T2 n c n c2 A A2 xs xs w hr hr2 hn
  rwa [decide_eq_true rfl] at H
end
theorem msgOk_bools {l : Int} {xs : List Int} {cs : List Cp} {n m : Nat} (h : msgOk l xs cs = true) (hn : xs.length = n) (hm : cs.length = m) : n ≤ 8 ∧ m ≤ 3 := by have := msgOk_len h; omega
end Go.Proofs.Ythbfpgdfigilaaa
