/- The law ItemBack holds of what the program computes: an item that may be is told back; one byte more, and it is none. No condition beyond the row's own. -/
import Derived.Test.YtfapckmobeppnaaPx52
import Derived.Test.YtfapckmobeppnaaItmV
namespace Go.Proofs.Ytfapckmobeppnaa.Px
open Go.RowKit Go.Proofs.YtfapckmobeppnaaW.PrintWords Go.Proofs.YtfapckmobeppnaaW.PrintLast Go.Proofs.YtfapckmobeppnaaW.PrintMore
set_option linter.unusedVariables false
set_option linter.unusedSimpArgs false

theorem ItS.same_l0 (a0 a1 a2 a3 : Int) (a4 : ByteArray) (a5 a6 : Int) (a7 : Bool) (l : List S36) (a9 : Int) (hl : l.length ≤ 100000) : ∀ (d k i : Nat), i + d = l.length → d < k →
  telemeterref03_SameSpan.l0 k (i : Int) a0 a1 a2 a3 a4 a5 a6 a7 l a9 a0 a1 a2 a3 a4 a5 a6 a7 l a9 = some true
 | 0, 0, i, hi, hk => absurd hk (by omega)
 | d + 1, 0, i, hi, hk => absurd hk (by omega)
 | 0, k + 1, i, hi, hk => by
  rw [telemeterref03_SameSpan.l0, if_neg (by omega), if_pos rfl, if_pos rfl, if_pos rfl, if_pos rfl, if_pos rfl, if_pos rfl, if_pos rfl, if_pos (by simp)]
  simp
 | d + 1, k + 1, i, hi, hk => by
  rw [telemeterref03_SameSpan.l0, if_pos (by omega), if_pos (by omega), if_pos (by omega), if_neg (by simp), wrap64_id (by omega) (by omega)]
  exact ItS.same_l0 a0 a1 a2 a3 a4 a5 a6 a7 l a9 hl d k (i + 1) (by omega) (by omega)
theorem ItS.same (x : Itm.It) (k : Nat) (hl : x.ats.length ≤ 100000) (hk : x.ats.length < k) : telemeterref03_Same.f k x.kd x.hi x.lo x.id x.par x.nm x.st x.en x.bad x.ats x.rv x.k x.wt x.t x.b x.kd x.hi x.lo x.id x.par x.nm x.st x.en x.bad x.ats x.rv x.k x.wt x.t x.b = some true := by
 unfold telemeterref03_Same.f telemeterref03_SameSpan.f
 rw [if_pos rfl, if_pos (by simp), if_pos rfl]
 have := ItS.same_l0 x.hi x.lo x.id x.par x.nm x.st x.en x.bad x.ats x.rv hl x.ats.length k 0 (by omega) hk
 rw [Int.natCast_zero] at this
 rw [this]
 rfl
end Go.Proofs.Ytfapckmobeppnaa.Px
namespace Go.Proofs.Ytfapckmobeppnaa.Pure
open Go.RowKit Go.Proofs.Ytfapckmobeppnaa.Px Go.Proofs.YtfapckmobeppnaaW.PrintWords Go.Proofs.YtfapckmobeppnaaW.PrintLast
set_option linter.unusedVariables false

theorem ItemBack : telemeterlaw03_ItemBack.Pure := by
 intro l0 a1 hl hl2 hby ha1
 have hb : ∀ x ∈ l0, 0 ≤ x ∧ x ≤ 255 := fun x hx => u8_wf (hby x hx)
 have hm := u8_wf ha1
 obtain ⟨x, L, hI, hE, hA⟩ := ItX.item l0 hb
 have hB := ItX.back x L hE
 have hM := ItX.more x L a1 hE hm
 obtain ⟨_, _, hlen, _⟩ := ItX.enc_reach x L hE
 refine ⟨9 + 1, ?_⟩
 unfold telemeterlaw03_ItemBack.f item_Decode.f
 rw [hI, Option.bind_some]
 unfold ItX.enc at hE
 simp only [Itm.It.tup]
 rw [hE, Option.bind_some]
 dsimp only
 rw [hB]
 simp only [Option.map_some, Option.bind_some]
 rw [ItS.same x 10 (by omega) (by omega), Option.bind_some, if_pos (by omega), hM]
 simp only [Option.map_some, Option.bind_some]
 rw [show telemeterlaw03_known.f = some true from rfl, Option.bind_some]
 rfl
end Go.Proofs.Ytfapckmobeppnaa.Pure
