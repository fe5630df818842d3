/- item.name. -/
import Derived.Test.YtfapckmobeppnaaPx0
import Derived.Test.YtfapckmobeppnaaNumQ
import Derived.Lib.ConvBytes
import Derived.Laws.Strings
import Derived.Deep.LoopGhost
import Derived.Deep.RegionWith
import Derived.WalkKit
import Derived.WalkSpells
import Derived.Lib.SliceRun
namespace Go.Proofs.Ytfapckmobeppnaa.Px
open Go.RowKit Go.Proofs.YtfapckmobeppnaaW.PrintWords Go.Proofs.YtfapckmobeppnaaW.PrintLast Go.Proofs.YtfapckmobeppnaaW.PrintMore
set_option linter.unusedVariables false
set_option linter.unusedSimpArgs false

theorem Itm.i64w (x : Int) : IntKind.i64.wrap x = wrap64 x := by
 unfold wrap64 IntKind.wrap; simp [IntKind.bits, IntKind.signed]; split <;> omega
def Itm.ch (c : Int) : Bool := decide (33 ≤ c) && decide (c ≤ 126)
def Itm.nameB (s : ByteArray) : Bool := (bytesOf s).all Itm.ch && (!s.toList.isEmpty && decide ((s.size : Int) ≤ 60))
/-- A row of new bytes. -/
theorem Itm.bytes_F (W : World) (s : ByteArray) (hs : s.size ≤ 9223372036854775807) : Kd.F (Kd.int .u8) (Lib.bytesWorld W 5 s) (fun k => k = W.heap.size) (some ⟨W.heap.size, 0, none⟩) (bytesOf s).length (bytesOf s) := by
 intro W' hW
 have h := bytes_reads W 5 s hs
 rw [bytesOf_length]
 refine Kd.C_of_reads (enc := Value.int .u8) (d := (0 : Int)) (h1 := fun _ => rfl) ⟨h.1, h.2.1, fun hp => ?_⟩
 obtain ⟨ad, e, hc⟩ := h.2.2 hp
 refine ⟨ad, e, fun j hj => ?_⟩
 cases e
 have h1 := hc j hj
 have h2 : W'.heap[W.heap.size]? = (Lib.bytesWorld W 5 s).heap[W.heap.size]? := hW _ rfl (by rw [Lib.bytesWorld_size]; omega)
 rw [← h1, add_plain]
 unfold World.cell?
 rw [h2]
theorem Itm.empty_eq (s : ByteArray) : s.toList.isEmpty = decide (s.size = 0) := by
 rw [ByteArray.toList_eq]
 have h : s.data.toList.length = s.size := data_length s
 cases hh : s.data.toList with
 | nil => rw [hh] at h; simp only [List.length_nil] at h; simp [← h]
 | cons a r => rw [hh] at h; simp only [List.length_cons] at h; simp [← h]
theorem Itm.all_take (l : List Int) (j : Nat) (hj : j < l.length) : (l.take (j + 1)).all Itm.ch = ((l.take j).all Itm.ch && Itm.ch (rd l j)) := by
 rw [List.take_succ_eq_append_getElem hj, List.all_append]
 simp [rd, List.getD_eq_getElem?_getD, List.getElem?_eq_getElem hj]
theorem Itm.all_bad (l : List Int) (j : Nat) (hj : j < l.length) (h : Itm.ch (rd l j) = false) : l.all Itm.ch = false := by
 rw [List.all_eq_false]
 refine ⟨l[j], List.getElem_mem hj, ?_⟩
 have : rd l j = l[j] := by simp [rd, List.getD_eq_getElem?_getD, List.getElem?_eq_getElem hj]
 rw [← this, h]; simp
set_option maxHeartbeats 1000000 in
set_option maxRecDepth 100000 in
theorem Itm.name_calls (s : ByteArray) (w : World) (hs : s.size ≤ 140737488355328) : Calls Try.prog 24 #[.string s] w fun e w' => e = .returned (.bool (Itm.nameB s)) ∧ Below w.heap.size w w' := by
 have kb := fun W => print_bytes (P := Try.prog) 9 22 5 Try.underlying9 Try.underlying22 Try.underlying5 s W
 have hF := Aside0.mk (Itm.bytes_F w s (by omega))
 have hB := Aside0.mk (bytes_below (Below.refl w.heap.size w) (Nat.le_refl _) 5 s)
 have hlen := Aside0.mk (bytesOf_length s)
 have hmn : Itm.nameB s = ((bytesOf s).all Itm.ch && (!s.toList.isEmpty && decide ((s.size : Int) ≤ 60))) := rfl
 generalize Itm.nameB s = R at hmn ⊢
 replace hmn := Aside0.mk hmn
 go_enter Try.func24, Try.ntmps24
 go_wp2_with (fail)
 clear kb
 generalize Lib.bytesWorld w 5 s = W0 at hF hB ⊢
 go_loopg [8] s.size (fun gg s8 wr => ∃ j : Nat, s8 = .int .i64 j ∧ j ≤ s.size ∧ s.size - j ≤ gg ∧ Aside0 (((bytesOf s).take j).all Itm.ch = true) ∧ Aside0 (wr = W0))
 case atStart => exact ⟨0, rfl, by omega, by omega, ⟨rfl⟩, ⟨rfl⟩⟩
 case round =>
  obtain ⟨j, rfl, hjs, hgg, hall, ⟨hwr⟩⟩ := hrel
  replace hwr := hwr.symm
  subst hwr
  by_cases hj : j < s.size
  ·have hjz : decide ((j : Int) < (s.size : Int)) = true := decide_eq_true (by omega)
   have hj0 : (0 : Int) ≤ (j : Int) := by omega
   have hjL : (j : Int) < (s.size : Int) := by omega
   obtain ⟨ad, e0, hx⟩ := ReadsInt.at_ (Kd.reads_of_C (enc := Value.int .u8) (d := (0 : Int)) (h1 := fun _ => rfl) (Kd.F_now hF.out)) j hj0 (by rw [hlen.out]; exact hjL)
   cases e0
   simp only [Int.toNat_natCast] at hx
   rw [add_plain] at hx
   have hch := Aside0.mk (Itm.all_take (bytesOf s) j (by rw [hlen.out]; exact hj))
   have hbd := Aside0.mk (Itm.all_bad (bytesOf s) j (by rw [hlen.out]; exact hj))
   generalize rd (bytesOf s) (j : Int) = ch at *
   by_cases c1 : ch < 33
   ·have b1 : decide (ch < 33) = true := decide_eq_true c1
    have hR : R = false := by rw [hmn.out, hbd.out (by unfold Itm.ch; rw [decide_eq_false (by omega)]; rfl)]; rfl
    subst hR
    clear c1
    go_wp2_with (fail)
    go_ret
    exact ⟨rfl, hB.out⟩
   ·have b1 : decide (ch < 33) = false := decide_eq_false c1
    by_cases c2 : ch > 126
    ·have b2 : decide (ch > 126) = true := decide_eq_true c2
     have hR : R = false := by rw [hmn.out, hbd.out (by unfold Itm.ch; rw [decide_eq_false (p := ch ≤ 126) (by omega), Bool.and_false])]; rfl
     subst hR
     clear c1 c2
     go_wp2_with (fail)
     go_ret
     exact ⟨rfl, hB.out⟩
    ·have b2 : decide (ch > 126) = false := decide_eq_false c2
     have hgood := Aside0.mk (show ((bytesOf s).take (j + 1)).all Itm.ch = true by rw [hch.out, hall.out]; unfold Itm.ch; rw [decide_eq_true (by omega), decide_eq_true (by omega)]; rfl)
     clear c1 c2
     go_wp2_with (fail)
     go_roundg (s.size - (j + 1))
     case measure => omega
     case rel => exact ⟨j + 1, by go_num, by omega, by omega, hgood, ⟨rfl⟩⟩
  ·have hjz : decide ((j : Int) < (s.size : Int)) = false := decide_eq_false (by omega)
   have hjM : j = s.size := by omega
   subst hjM
   have ha : (bytesOf s).all Itm.ch = true := by have h_ := hall.out; rwa [List.take_of_length_le (by rw [hlen.out]; exact Nat.le_refl _)] at h_
   have hR := hmn.out
   rw [ha, Bool.true_and] at hR
   clear ha
   cases he : s.toList.isEmpty with
   | true =>
    rw [he] at hR
    have hR2 : R = false := hR
    subst hR2
    clear hR
    go_wp2_with (fail)
    go_ret
    exact ⟨rfl, hB.out⟩
   | false =>
    rw [he] at hR
    by_cases c6 : (s.size : Int) ≤ 60
    ·have b6 : decide ((s.size : Int) ≤ 60) = true := decide_eq_true c6
     rw [b6] at hR
     have hR2 : R = true := hR
     subst hR2
     clear hR
     clear c6
     go_wp2_with (fail)
     go_ret
     exact ⟨rfl, hB.out⟩
    ·have b6 : decide ((s.size : Int) ≤ 60) = false := decide_eq_false c6
     rw [b6] at hR
     have hR2 : R = false := hR
     subst hR2
     clear hR
     clear c6
     go_wp2_with (fail)
     go_ret
     exact ⟨rfl, hB.out⟩
end Go.Proofs.Ytfapckmobeppnaa.Px
