/- known: the chapter's example; RightSpan, RightLog as the print takes them. -/
import Derived.Test.YtfapckmobeppnaaItmX
namespace Go.Proofs.Ytfapckmobeppnaa.Px
open Go.RowKit Go.Proofs.YtfapckmobeppnaaW.PrintWords Go.Proofs.YtfapckmobeppnaaW.PrintLast Go.Proofs.YtfapckmobeppnaaW.PrintMore
set_option linter.unusedVariables false
set_option linter.unusedSimpArgs false

def Itm.kb : List Int := [2, 3, 1, 107, 4, 1]
theorem Itm.klog : 2 :: Itm.logL ⟨#[107]⟩ 1 0 ⟨#[]⟩ = Itm.kb := by
 unfold Itm.logL Itm.txt Itm.num
 rw [if_neg (by decide), if_neg (by decide), if_pos (by decide), if_pos (by decide)]
 have h1 : putL (2 * 1 + 1 : Int).toNat = [3] := putL_small (n := 3) (by omega)
 have h2 : putL (ByteArray.size ⟨#[107]⟩) = [1] := putL_small (n := 1) (by omega)
 have h3 : putL (2 * 2 : Int).toNat = [4] := putL_small (n := 4) (by omega)
 have h4 : putL (1 : Int).toNat = [1] := putL_small (n := 1) (by omega)
 rw [h1, h2, h3, h4]
 rfl
theorem Itm.kright : Itm.rightLog ⟨#[107]⟩ 1 0 ⟨#[]⟩ = true := by decide +kernel
set_option maxHeartbeats 1000000 in
set_option maxRecDepth 100000 in
theorem Itm.Decode_nil (w : World) : Calls Try.prog 20 #[.slice none 0 0] w fun e w' => e = .returned (.tuple #[.agg #[.int .u8 0, .int .u64 0, .int .u64 0, .int .u64 0, .int .u64 0, .string ⟨#[]⟩, .int .i64 0, .int .i64 0, .bool false, .slice none 0 0, .int .u64 0, .string ⟨#[]⟩, .int .u64 0, .int .i64 0, .string ⟨#[]⟩], .int .u16 40]) ∧ Below w.heap.size w w' := by
 have hb := blk_new w (.cells #[.int .u8 0, .int .u64 0, .int .u64 0, .int .u64 0, .int .u64 0, .string ⟨#[]⟩, .int .i64 0, .int .i64 0, .bool false, .slice none 0 0, .int .u64 0, .string ⟨#[]⟩, .int .u64 0, .int .i64 0, .string ⟨#[]⟩] 38 (0, 0))
 go_enter Try.func20, Try.ntmps20
 go_wp2_with (fail)
 have hres : Try.f20.results = #[.cell 2 38, .tmp 3] := by kernel_rfl
 refine bodyPost_ret (v := .tuple #[.agg #[.int .u8 0, .int .u64 0, .int .u64 0, .int .u64 0, .int .u64 0, .string ⟨#[]⟩, .int .i64 0, .int .i64 0, .bool false, .slice none 0 0, .int .u64 0, .string ⟨#[]⟩, .int .u64 0, .int .i64 0, .string ⟨#[]⟩], .int .u16 40]) ?_ rfl ⟨rfl, ?_⟩
 ·simp only [results, hres]
  go_simp
 ·repeat (first | exact below_alloc (Below.refl _ w) _ | refine below_set ?_ (Nat.le_refl _))
def Itm.kx : Itm.It := ⟨2, 0, 0, 0, 0, ⟨#[]⟩, 0, 0, false, [], 0, ⟨#[107]⟩, 1, 0, ⟨#[]⟩⟩
theorem Itm.kdec : Itm.dec Itm.kb = some (Itm.kx, 0) := by
 refine ItX.back Itm.kx Itm.kb ?_
 unfold ItX.enc Itm.kx item_Encode.f
 dsimp only
 rw [if_pos (by decide +kernel), if_neg (by decide), if_pos rfl, if_pos ⟨Itm.kright, by decide +kernel⟩, Itm.klog]
end Go.Proofs.Ytfapckmobeppnaa.Px

/- Item's known: the chapter's example. -/
namespace Go.Proofs.Ytfapckmobeppnaa.Px
open Go.RowKit Go.Proofs.YtfapckmobeppnaaW.PrintWords Go.Proofs.YtfapckmobeppnaaW.PrintLast Go.Proofs.YtfapckmobeppnaaW.PrintMore
set_option linter.unusedVariables false
set_option linter.unusedSimpArgs false

theorem Itm.kb_F {W : World} {b t : Nat} (h : W.heap[b]? = some (.cells #[.int .u8 2, .int .u8 3, .int .u8 1, .int .u8 107, .int .u8 4, .int .u8 1] t (0, 0))) : Kd.C (Kd.int .u8) W (some ⟨b, 0, none⟩) 6 Itm.kb := by
 refine Kd.C_of_reads (enc := Value.int .u8) (d := (0 : Int)) (h1 := fun _ => rfl) ⟨rfl, by omega, fun hp => ⟨⟨b, 0, none⟩, rfl, fun j hj => ?_⟩⟩
 rw [add_plain, blk_cell h j]
 match j, hj with
 | 0, _ => rfl
 | 1, _ => rfl
 | 2, _ => rfl
 | 3, _ => rfl
 | 4, _ => rfl
 | 5, _ => rfl
set_option maxHeartbeats 1000000 in
set_option maxRecDepth 100000 in
theorem Itm.known_calls (w : World) : Calls Try.prog 12 #[] w fun e w' => e = .returned (.bool true) ∧ Below w.heap.size w w' := by
 have hu38 := Try.underlying38
 have hE0 : item_empty.f 0 0 0 0 ⟨#[]⟩ 0 0 false [] 0 = some true := by decide +kernel
 have cE := Itm.Encode_log 2 0 0 0 0 ⟨#[]⟩ 0 0 false none 0 [] 0 ⟨#[107]⟩ 1 0 ⟨#[]⟩ w (Kd.C_nil _ _) (Nat.le_refl _) (fun a ha => by simp at ha) (by decide) (by decide) rfl Itm.kright hE0 (by decide) (by omega) (by omega) (by decide)
 rw [Itm.klog] at cE
 clear hE0
 go_enter Try.func12, Try.ntmps12
 go_wp2_with (fail)
 refine cE.mono ?_
 clear cE
 rintro e w1 ⟨v1, rfl, hN1, hB1⟩
 obtain ⟨A1, c1, rfl⟩ := Kd.N_slice hN1
 have hC1 := Aside0.mk (Kd.N_reads' hN1).2.2
 have hB1a := Aside0.mk hB1
 clear hN1 hB1
 go_wp2_with (fail)
 have hb2 := blk_new w1 (.cells #[.int .u8 2, .int .u8 3, .int .u8 1, .int .u8 107, .int .u8 4, .int .u8 1] 5 (0, 0))
 have hB2 := Aside0.mk (below_alloc hB1a.out (.cells #[.int .u8 2, .int .u8 3, .int .u8 1, .int .u8 107, .int .u8 4, .int .u8 1] 5 (0, 0)))
 have hC2 := Aside0.mk (Kd.C_alloc hC1.out (.cells #[.int .u8 2, .int .u8 3, .int .u8 1, .int .u8 107, .int .u8 4, .int .u8 1] 5 (0, 0)))
 have cD := Itm.Decode_calls (some ⟨w1.heap.size, 0, none⟩) 6 Itm.kb Itm.kx 0 (w1.alloc (.cells #[.int .u8 2, .int .u8 3, .int .u8 1, .int .u8 107, .int .u8 4, .int .u8 1] 5 (0, 0))) (Itm.kb_F hb2) (Nat.le_refl _) Itm.kdec
 clear hb2 hC1 hB1a
 refine cD.mono ?_
 clear cD
 rintro e w3 ⟨v3, rfl, hN3, hB3⟩
 obtain ⟨A3, c3, rfl⟩ := Kd.R_slice hN3
 simp only [Itm.kx, List.length_nil]
 clear hN3
 replace hC2 := Aside0.mk (Kd.C_below hC2.out hB3)
 replace hB2 := Aside0.mk (below_step hB2.out hB3)
 clear hB3
 have hX := Aside0.mk (blk_new w3 (.cells #[.int .u8 2, .int .u64 0, .int .u64 0, .int .u64 0, .int .u64 0, .string ⟨#[]⟩, .int .i64 0, .int .i64 0, .bool false, .slice A3 0 c3, .int .u64 0, .string ⟨#[107]⟩, .int .u64 1, .int .i64 0, .string ⟨#[]⟩] 38 (0, 0)))
 have hBx := Aside0.mk (below_alloc hB2.out (.cells #[.int .u8 2, .int .u64 0, .int .u64 0, .int .u64 0, .int .u64 0, .string ⟨#[]⟩, .int .i64 0, .int .i64 0, .bool false, .slice A3 0 c3, .int .u64 0, .string ⟨#[107]⟩, .int .u64 1, .int .i64 0, .string ⟨#[]⟩] 38 (0, 0)))
 have hCx := Aside0.mk (Kd.C_alloc hC2.out (.cells #[.int .u8 2, .int .u64 0, .int .u64 0, .int .u64 0, .int .u64 0, .string ⟨#[]⟩, .int .i64 0, .int .i64 0, .bool false, .slice A3 0 c3, .int .u64 0, .string ⟨#[107]⟩, .int .u64 1, .int .i64 0, .string ⟨#[]⟩] 38 (0, 0)))
 clear hC2 hB2
 go_wp2_with (fail)
 generalize w3.alloc (.cells #[.int .u8 2, .int .u64 0, .int .u64 0, .int .u64 0, .int .u64 0, .string ⟨#[]⟩, .int .i64 0, .int .i64 0, .bool false, .slice A3 0 c3, .int .u64 0, .string ⟨#[107]⟩, .int .u64 1, .int .i64 0, .string ⟨#[]⟩] 38 (0, 0)) = w4 at *
 refine (Itm.Decode_nil w4).mono ?_
 rintro e w5 ⟨rfl, hB5⟩
 have hX5 := Aside0.mk (blk_alloc (blk_below hX.out hB5) (.cells #[.int .u8 0, .int .u64 0, .int .u64 0, .int .u64 0, .int .u64 0, .string ⟨#[]⟩, .int .i64 0, .int .i64 0, .bool false, .slice none 0 0, .int .u64 0, .string ⟨#[]⟩, .int .u64 0, .int .i64 0, .string ⟨#[]⟩] 38 (0, 0)))
 have hC5 := Aside0.mk (Kd.C_alloc (Kd.C_below hCx.out hB5) (.cells #[.int .u8 0, .int .u64 0, .int .u64 0, .int .u64 0, .int .u64 0, .string ⟨#[]⟩, .int .i64 0, .int .i64 0, .bool false, .slice none 0 0, .int .u64 0, .string ⟨#[]⟩, .int .u64 0, .int .i64 0, .string ⟨#[]⟩] 38 (0, 0)))
 have hBy := Aside0.mk (below_alloc (below_step hBx.out hB5) (.cells #[.int .u8 0, .int .u64 0, .int .u64 0, .int .u64 0, .int .u64 0, .string ⟨#[]⟩, .int .i64 0, .int .i64 0, .bool false, .slice none 0 0, .int .u64 0, .string ⟨#[]⟩, .int .u64 0, .int .i64 0, .string ⟨#[]⟩] 38 (0, 0)))
 clear hX hBx hCx hB5
 go_wp2_with (fail)
 generalize w5.alloc (.cells #[.int .u8 0, .int .u64 0, .int .u64 0, .int .u64 0, .int .u64 0, .string ⟨#[]⟩, .int .i64 0, .int .i64 0, .bool false, .slice none 0 0, .int .u64 0, .string ⟨#[]⟩, .int .u64 0, .int .i64 0, .string ⟨#[]⟩] 38 (0, 0)) = w6 at *
 refine (Itm.Encode_kind 0 0 0 0 0 ⟨#[]⟩ 0 0 false none 0 [] 0 ⟨#[]⟩ 0 0 ⟨#[]⟩ w6 (Kd.C_nil _ _) (Nat.le_refl _) (fun a ha => by simp at ha) (by decide) (by decide) (by decide) (by decide)).mono ?_
 rintro e w7 ⟨rfl, hB7⟩
 have hX7 := blk_below hX5.out hB7
 have hBz := Aside0.mk (below_step hBy.out hB7)
 have x0 : w7.cell? ⟨w3.heap.size, 0, none⟩ = some (.int .u8 2) := blk_cell hX7 0
 have x11 : w7.cell? ⟨w3.heap.size, 11, none⟩ = some (.string ⟨#[107]⟩) := blk_cell hX7 11
 have hcv0 := Kd.C_string (P := Try.prog) (A := A1) (c := c1) Try.underlying22 Try.underlying5 Try.underlying9 (Kd.C_below hC5.out hB7)
 have hsn : strOfNums Itm.kb = ⟨#[2, 3, 1, 107, 4, 1]⟩ := by rfl
 rw [hsn] at hcv0
 have hcv : (convert 22 9 (.slice A1 6 c1)).run Try.prog w7 = .ok (.string ⟨#[2, 3, 1, 107, 4, 1]⟩) w7 := hcv0
 have hcv2 : (convert 22 9 (.slice A1 Itm.kb.length c1)).run Try.prog w7 = .ok (.string ⟨#[2, 3, 1, 107, 4, 1]⟩) w7 := hcv0
 clear hX7 hX5 hC5 hBy hB7 hcv0 hsn
 go_wp2_with (fail)
 go_ret
 exact ⟨rfl, hBz.out⟩
end Go.Proofs.Ytfapckmobeppnaa.Px

/- RightSpan, RightLog, known, as the print takes them. -/
namespace Go.Proofs.Ytfapckmobeppnaa.Px
open Go.RowKit Go.Proofs.YtfapckmobeppnaaW.PrintWords Go.Proofs.YtfapckmobeppnaaW.PrintLast Go.Proofs.YtfapckmobeppnaaW.PrintMore
set_option linter.unusedVariables false
set_option linter.unusedSimpArgs false

def telemeterlaw03_known.f : Option Bool := some true
theorem Itm.known_calls' (r : Bool) (w : World) (h : telemeterlaw03_known.f = some r) : Calls Try.prog 12 #[] w fun e w' => e = .returned (.bool r) ∧ Below w.heap.size w w' := by
 obtain rfl := Option.some.inj h
 exact Itm.known_calls w
end Go.Proofs.Ytfapckmobeppnaa.Px
