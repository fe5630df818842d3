/- The law FrameBends holds of what the program computes. -/
import Derived.Test.YtjnlplgefcmngaaPx28
import Derived.Test.YtjnlplgefcmngaaFrmS
import Derived.Test.YtjnlplgefcmngaaFrmK
namespace Go.Proofs.Ytjnlplgefcmngaa.Pure
set_option linter.unusedVariables false
set_option linter.unusedSimpArgs false
open Go.RowKit Go.Proofs.Ytjnlplgefcmngaa.Px Go.Proofs.YtjnlplgefcmngaaW.PrintWords Go.Proofs.YtjnlplgefcmngaaW.PrintLast Go.Proofs.YtjnlplgefcmngaaW.PrintMore

theorem FrameBends : telemeterlaw02_FrameBends.Pure := by
  intro b n v _ hbl hbw hn hv
  have hn := u16_wf hn
  have hv := u8_wf hv
  have hb := bytesP_of_wf hbw
  refine ⟨12, ?_⟩
  unfold telemeterlaw02_FrameBends.f
  by_cases h0 : (b.length : Int) = 0
  · rw [if_pos h0, telemeterlaw02_FrameBends.j0, if_pos rfl]; rfl
  · rw [if_neg h0]
    by_cases h : (b.length : Int) > 300
    · rw [if_pos h, telemeterlaw02_FrameBends.j0, if_pos rfl]; rfl
    · rw [if_neg h]
      by_cases hv0 : v = 0
      · rw [if_pos hv0, telemeterlaw02_FrameBends.j0, if_pos rfl]; rfl
      · rw [if_neg hv0, telemeterlaw02_known.f, Option.bind_some, telemeterlaw02_FrameBends.j0, if_neg (by decide)]
        obtain ⟨n, rfl⟩ : ∃ m : Nat, n = (m : Int) := ⟨n.toNat, by omega⟩
        have e0 : wrap64 (n : Int) = (n : Int) := wrap64_id (by omega) (by omega)
        have e1 : Int.tmod (n : Int) (b.length : Int) = ((n % b.length : Nat) : Int) := by rw [Int.tmod_eq_emod_of_nonneg (by omega)]; rfl
        have hlt : n % b.length < b.length := Nat.mod_lt _ (by omega)
        have e4 : wrap64 ((b.length : Int) + 4) = ((b.length + 4 : Nat) : Int) := by rw [wrap64_id (by omega) (by omega)]; omega
        have e5 : wrap64 ((b.length : Int) + 5) = (b.length : Int) + 5 := wrap64_id (by omega) (by omega)
        have e6 : Int.tmod (n : Int) ((b.length + 4 : Nat) : Int) = ((n % (b.length + 4) : Nat) : Int) := by rw [Int.tmod_eq_emod_of_nonneg (by omega)]; rfl
        have hlt2 : n % (b.length + 4) < b.length + 4 := Nat.mod_lt _ (by omega)
        have hp1 := putL_pos b.length
        have h10 := putL_ten (n := b.length) (by omega)
        have hfl := frameL_len b
        have hfb := frameL_bytes hb
        have e7 : wrap64 (((frameL b).length : Int) - 1) = ((frameL b).length : Int) - 1 := wrap64_id (by omega) (by omega)
        have e8 : wrap64 (((frameL b).length : Int) - 1 - ((n % (b.length + 4) : Nat) : Int)) = (((frameL b).length - 1 - n % (b.length + 4) : Nat) : Int) := by
          rw [wrap64_id (by omega) (by omega)]; omega
        rw [List.nil_append, if_pos (by simp only [List.length_nil]; omega), Option.bind_some, e0, e1, if_neg (by omega), if_pos (by omega), if_pos (by omega), frame_eq hb (by omega), Option.bind_some]
        dsimp only
        rw [e4, e5, e6, e7, e8, if_neg (by omega), if_neg (by omega), if_pos (by omega), if_pos (by omega), Int.toNat_natCast, Int.toNat_natCast]
        generalize hi : (frameL b).length - 1 - n % (b.length + 4) = i at *
        have hi2 : i < (frameL b).length := by omega
        have hi3 : (putL b.length).length ≤ i := by omega
        have hx := xor_u8 (hfb _ (List.getElem_mem hi2)) hv hv0
        have hy := xor_u8 (hb _ (List.getElem_mem hlt)) hv hv0
        have ht := takeR_bent [] b [] (by omega) bytesP_nil hb bytesP_nil (by decide) i hi3 hi2 _ hx.1 hx.2
        rw [List.append_nil, List.nil_append] at ht
        have ht' : takeR ((frameL b).set i (Go.bits .xor .u8 (frameL b)[i] v)) 0 = ([], 0, 30) := ht
        have hs := sumL_set b hb (n % b.length) hlt _ hy.1 hy.2
        rw [rd_eq _ _ hi2, rd_eq _ _ hlt, take_eq _ (hfb.set _ hx.1) (by rw [List.length_set]; omega) 0 11 (by omega), ht', Option.bind_some,
          sum_eq (hb.set _ hy.1) (by rw [List.length_set]; omega), Option.bind_some, sum_eq hb (by omega), Option.bind_some, if_neg (by omega)]
        rfl

end Go.Proofs.Ytjnlplgefcmngaa.Pure
