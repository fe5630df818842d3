/- item.RightLog. -/
import Derived.Test.YtfapckmobeppnaaItmN
import Derived.Test.YtfapckmobeppnaaPx1
namespace Go.Proofs.Ytfapckmobeppnaa.Px
open Go.RowKit Go.Proofs.YtfapckmobeppnaaW.PrintWords Go.Proofs.YtfapckmobeppnaaW.PrintLast Go.Proofs.YtfapckmobeppnaaW.PrintMore
set_option linter.unusedVariables false
set_option linter.unusedSimpArgs false

def Itm.timeB (n : Int) : Bool := decide (n ≥ 0) && decide (n ≤ 1099511627776)
theorem Itm.time_calls (n : Int) (w : World) : Calls Try.prog 25 #[.int .i64 n] w fun e w' => e = .returned (.bool (Itm.timeB n)) ∧ Below w.heap.size w w' := by
 have hR : Itm.timeB n = (decide (n ≥ 0) && decide (n ≤ 1099511627776)) := rfl
 generalize Itm.timeB n = R at hR ⊢
 go_enter Try.func25, Try.ntmps25
 cases b1 : decide (n ≥ 0) with
 | false =>
  rw [b1] at hR
  have hR2 : R = false := hR
  subst hR2
  clear hR
  go_wp2_with (fail)
  go_ret
  exact ⟨rfl, Below.refl _ _⟩
 | true =>
  rw [b1, Bool.true_and] at hR
  cases b2 : decide (n ≤ 1099511627776) with
  | false =>
   rw [b2] at hR
   subst hR
   go_wp2_with (fail)
   go_ret
   exact ⟨rfl, Below.refl _ _⟩
  | true =>
   rw [b2] at hR
   subst hR
   go_wp2_with (fail)
   go_ret
   exact ⟨rfl, Below.refl _ _⟩
def Itm.rightLog (k : ByteArray) (wt t : Int) (b : ByteArray) : Bool := Itm.nameB k && (decide (wt > 0) && (decide (wt ≤ 4294967296) && (Itm.timeB t && decide ((b.size : Int) ≤ 200))))
set_option maxHeartbeats 1000000 in
set_option maxRecDepth 100000 in
theorem Itm.RightLog_calls (k : ByteArray) (wt t : Int) (b : ByteArray) (w : World) (hk : k.size ≤ 140737488355328) : Calls Try.prog 14 #[.agg #[.string k, .int .u64 wt, .int .i64 t, .string b]] w fun e w' => e = .returned (.bool (Itm.rightLog k wt t b)) ∧ Below w.heap.size w w' := by
 have hR : Itm.rightLog k wt t b = (Itm.nameB k && (decide (wt > 0) && (decide (wt ≤ 4294967296) && (Itm.timeB t && decide ((b.size : Int) ≤ 200))))) := rfl
 generalize Itm.rightLog k wt t b = R at hR ⊢
 have cN := fun w => Itm.name_calls k w hk
 have cT := Itm.time_calls t
 generalize Itm.nameB k = x1 at hR cN
 generalize Itm.timeB t = x4 at hR cT
 replace cN := Aside0.mk cN
 replace cT := Aside0.mk cT
 replace hR := Aside0.mk hR
 have hB0 := Aside0.mk (below_alloc (Below.refl w.heap.size w) (.cells #[.string k, .int .u64 wt, .int .i64 t, .string b] 29 (0, 0)))
 have hb0 := Aside0.mk (blk_new w (.cells #[.string k, .int .u64 wt, .int .i64 t, .string b] 29 (0, 0)))
 go_enter Try.func14, Try.ntmps14
 go_wp2_with (fail)
 generalize w.alloc (.cells #[.string k, .int .u64 wt, .int .i64 t, .string b] 29 (0, 0)) = W0 at *
 refine (cN.out _).mono ?_
 rintro e w1 ⟨rfl, hb1⟩
 replace hb0 := Aside0.mk (blk_below hb0.out hb1); replace hB0 := Aside0.mk (below_step hB0.out hb1)
 clear hb1 cN
 have z1 : w1.cell? ⟨w.heap.size, 1, none⟩ = some (.int .u64 wt) := blk_cell hb0.out 1
 have z2 : w1.cell? ⟨w.heap.size, 2, none⟩ = some (.int .i64 t) := blk_cell hb0.out 2
 cases x1 with
 | false =>
  have hR2 : R = false := hR.out
  subst hR2
  go_wp2_with (fail)
  go_ret
  exact ⟨rfl, hB0.out⟩
 | true =>
  cases b1 : decide (wt > 0) with
  | false =>
   have hR2 : R = false := by rw [hR.out, b1]; rfl
   subst hR2
   go_wp2_with (fail)
   go_ret
   exact ⟨rfl, hB0.out⟩
  | true =>
   cases b2 : decide (wt ≤ 4294967296) with
   | false =>
    have hR2 : R = false := by rw [hR.out, b1, b2]; rfl
    subst hR2
    go_wp2_with (fail)
    go_ret
    exact ⟨rfl, hB0.out⟩
   | true =>
    have hR3 := Aside0.mk (show R = (x4 && decide ((b.size : Int) ≤ 200)) by rw [hR.out, b1, b2]; rfl)
    clear hR
    go_wp2_with (fail)
    refine (cT.out _).mono ?_
    rintro e w2 ⟨rfl, hb2⟩
    replace hb0 := Aside0.mk (blk_below hb0.out hb2); replace hB0 := Aside0.mk (below_step hB0.out hb2)
    clear hb2 cT z1 z2
    have z3 : w2.cell? ⟨w.heap.size, 3, none⟩ = some (.string b) := blk_cell hb0.out 3
    cases x4 with
    | false =>
     have hR2 : R = false := hR3.out
     subst hR2
     go_wp2_with (fail)
     go_ret
     exact ⟨rfl, hB0.out⟩
    | true =>
     cases b3 : decide ((b.size : Int) ≤ 200) with
     | false =>
      have hR2 : R = false := by rw [hR3.out, b3]; rfl
      subst hR2
      go_wp2_with (fail)
      go_ret
      exact ⟨rfl, hB0.out⟩
     | true =>
      have hR2 : R = true := by rw [hR3.out, b3]; rfl
      subst hR2
      go_wp2_with (fail)
      go_ret
      exact ⟨rfl, hB0.out⟩
end Go.Proofs.Ytfapckmobeppnaa.Px
