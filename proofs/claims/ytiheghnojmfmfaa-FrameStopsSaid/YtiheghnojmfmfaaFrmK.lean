/- known of layer 2, by hand. -/
import Derived.Test.YtiheghnojmfmfaaFrmF
import Derived.WalkKit
import Derived.WalkSpells
import Derived.Lib.SliceRun
import Derived.Lib.SlBytesConst
namespace Go.Proofs.Ytiheghnojmfmfaa.Px
open Go.RowKit Go.Proofs.YtiheghnojmfmfaaW.PrintWords Go.Proofs.YtiheghnojmfmfaaW.PrintLast Go.Proofs.YtiheghnojmfmfaaW.PrintMore
set_option linter.unusedVariables false
set_option linter.unusedSimpArgs false

theorem own_slice {W : World} {base : Nat} {ok : Nat → Prop} {v : Value} {xs : List Int} (h : Kd.R (Kd.int .u8) 5 W base ok v xs) : ∃ a c, v = .slice a xs.length c ∧ xs.length ≤ c := by
  have ho := Kd.own_of_R h
  rcases ho.2 with ⟨rfl, h0⟩ | ⟨g, cap, _, rfl, _, _, hc, _⟩
  · exact ⟨none, 0, by rw [h0], by omega⟩
  · exact ⟨_, cap, rfl, hc⟩

theorem lit_C (w : World) (xs : List Int) (fr : Nat × Nat) (hl : xs.length ≤ 1000) : Kd.C (Kd.int .u8) (w.alloc (.cells (xs.map (Value.int .u8)).toArray 5 fr)) (some ⟨w.heap.size, 0, none⟩) xs.length xs := by
  refine Kd.C_of_reads (d := (0 : Int)) (h1 := fun _ => rfl) ⟨rfl, by omega, fun _ => ⟨_, rfl, fun j hj => ?_⟩⟩
  have ha : (⟨w.heap.size, 0, none⟩ : Addr).add j = ⟨w.heap.size, 0 + j, none⟩ := by unfold Addr.add; split <;> simp_all
  rw [ha, Nat.zero_add, World.cell?_alloc_mark]
  simp [List.getElem?_eq_getElem hj, List.getD_eq_getElem?_getD]

def telemeterlaw02_known.f : Option Bool := some true

set_option maxHeartbeats 1000000 in
set_option maxRecDepth 100000 in
theorem Frm.known_true (w : World) :
    Calls Try.prog 26 #[] w fun e w' => e = .returned (.bool true) ∧ Below w.heap.size w w' := by
  have A1 : frame_Frame.f [] = some ([0, 0, 0, 0, 0], 0) := by rw [frame_eq bytesP_nil (by decide), frame0]
  have A2 : frame_Take.f 6 [0, 0, 0, 0, 0, 7] 0 = some ([], 5, 0) := by
    have h7 := takeR_frame [] [] [7] (by decide) bytesP_nil bytesP_nil (bytesP_cons (by decide) bytesP_nil) (by decide)
    rw [frame0] at h7
    rw [take_eq _ (bytesP_of_all (by decide)) (by decide) 0 6 (by decide)]
    exact congrArg some h7
  have A3 : frame_Sum.f [49, 50, 51, 52, 53, 54, 55, 56, 57] = some 3421780262 := by
    rw [sum_eq (bytesP_of_all (by decide)) (by decide), sum9]; rfl
  go_enter Try.func26, Try.ntmps26
  go_wp2_with fail
  refine (frame_Frame.calls (fun _ => False) none 0 [] _ _ w (Kd.V_nil _ _ _ _ _) A1).mono ?_
  rintro e w1 ⟨v1, rfl, ho1, hb1⟩
  obtain ⟨a1, c1, rfl, _⟩ := own_slice ho1
  clear ho1
  go_wp2_with fail
  have B1 := lit_C w1 [0, 0, 0, 0, 0, 7] (0, 0) (by decide)
  refine (frame_Take.calls 6 _ 6 [0, 0, 0, 0, 0, 7] 0 [] 5 0 _ B1 (by decide) A2).mono ?_
  rintro e w2 ⟨v2, rfl, ho2, hb2⟩
  obtain ⟨a2, c2, rfl, _⟩ := own_slice ho2
  clear ho2
  have kc := fun (w : World) (C : Array Value) (n c : Nat) => Lib.run_convert_bytes_const (P := Try.prog) w 22 5 C n c Try.underlying22 Try.underlying5
  go_wp2_with fail
  have B2 := lit_C w2 [49, 50, 51, 52, 53, 54, 55, 56, 57] (9, 10) (by decide)
  have hb3 : Below w.heap.size w (w2.alloc (Obj.cells #[Value.int IntKind.u8 49, Value.int IntKind.u8 50, Value.int IntKind.u8 51, Value.int IntKind.u8 52, Value.int IntKind.u8 53, Value.int IntKind.u8 54, Value.int IntKind.u8 55, Value.int IntKind.u8 56, Value.int IntKind.u8 57] 5 (9, 10))) :=
    below_alloc (below_step (below_alloc hb1 _) hb2) _
  refine (Frm.Sum_same _ 9 [49, 50, 51, 52, 53, 54, 55, 56, 57] _ _ B2 (by decide) A3).mono ?_
  rintro e w3 ⟨rfl, rfl⟩
  have HB := Aside0.mk hb3
  clear hb3 B1 B2 hb1 hb2
  go_wp2
  go_ret
  exact ⟨rfl, HB.out⟩

theorem Frm.known_calls (r : Bool) (w : World) (h : telemeterlaw02_known.f = some r) :
    Calls Try.prog 26 #[] w fun e w' => e = .returned (.bool r) ∧ Below w.heap.size w w' := by
  cases h; exact Frm.known_true w

end Go.Proofs.Ytiheghnojmfmfaa.Px
