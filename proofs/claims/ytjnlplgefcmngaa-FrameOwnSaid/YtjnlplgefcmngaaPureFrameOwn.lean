/- The law FrameOwn holds of what the program computes. -/
import Derived.Test.YtjnlplgefcmngaaPx29
import Derived.Test.YtjnlplgefcmngaaFrmK
namespace Go.Proofs.Ytjnlplgefcmngaa.Pure
set_option linter.unusedVariables false
set_option linter.unusedSimpArgs false
open Go.RowKit Go.Proofs.Ytjnlplgefcmngaa.Px Go.Proofs.YtjnlplgefcmngaaW.PrintWords Go.Proofs.YtjnlplgefcmngaaW.PrintLast Go.Proofs.YtjnlplgefcmngaaW.PrintMore

theorem FrameOwn : telemeterlaw02_FrameOwn.Pure := by
  intro b _ hbl hbw
  have hb := bytesP_of_wf hbw
  refine ⟨12, ?_⟩
  unfold telemeterlaw02_FrameOwn.f
  by_cases h0 : (b.length : Int) = 0
  · rw [if_pos h0, telemeterlaw02_FrameOwn.j0, if_pos rfl]; rfl
  · rw [if_neg h0]
    by_cases h : (b.length : Int) > 300
    · rw [decide_eq_true h, telemeterlaw02_FrameOwn.j0, if_pos rfl]; rfl
    · rw [decide_eq_false h, telemeterlaw02_FrameOwn.j0, if_neg (by decide)]
      have h10 := putL_ten (n := b.length) (by omega)
      have ht := takeR_frame [] b [] (by omega) bytesP_nil hb bytesP_nil (by decide)
      rw [List.append_nil, List.nil_append] at ht
      have ht' : takeR (frameL b) 0 = (b, 0 + ((frameL b).length : Int), 0) := ht
      have hfb := frameL_bytes hb
      have hfl := frameL_len b
      rw [frame_eq hb (by omega), Option.bind_some, take_eq _ hfb (by omega) 0 11 (by omega), Option.bind_some, ht', if_pos rfl]
      dsimp only
      rw [show ((b.length : Int) != (b.length : Int)) = false from bne_self_eq_false _, telemeterlaw02_FrameOwn.j1, if_neg (by decide), if_pos (by omega), take_eq _ hfb (by omega) 0 10 (by omega), Option.bind_some, ht', telemeterlaw02_known.f, Option.bind_some, if_pos rfl]
      simp

end Go.Proofs.Ytjnlplgefcmngaa.Pure
