/- item.Decode of the chapter's example, and of nothing. -/
import Derived.Test.YtfapckmobeppnaaItmF
import Derived.Test.YtfapckmobeppnaaPx23
namespace Go.Proofs.Ytfapckmobeppnaa.Px
open Go.RowKit Go.Proofs.YtfapckmobeppnaaW.PrintWords Go.Proofs.YtfapckmobeppnaaW.PrintLast Go.Proofs.YtfapckmobeppnaaW.PrintMore
set_option linter.unusedVariables false
set_option linter.unusedSimpArgs false

def Itm.kb : List Int := [2, 3, 1, 107, 4, 1]
theorem Itm.kb_bytes : bytesP Itm.kb := by intro x hx; simp [Itm.kb] at hx; omega
theorem Itm.kget (hd rest : List Int) (n : Nat) (hn : n < 128) (he : Itm.kb = hd ++ ([(n : Int)] ++ rest)) : num_Get.f Itm.kb (hd.length : Int) = some ((n : Int), (hd.length : Int) + 1, 0) := by
  have h1 : bytesP hd := fun x hx => Itm.kb_bytes x (by rw [he]; simp [hx])
  have h2 : bytesP rest := fun x hx => Itm.kb_bytes x (by rw [he]; simp [hx])
  have hl : (hd ++ (putL n ++ rest)).length ≤ 140737488355328 := by rw [putL_small hn, ← he]; decide
  have h := get_put (n := n) (by omega) hd rest h1 h2 hl
  rw [putL_small hn, ← he] at h
  exact h
theorem Itm.k1 : num_Get.f Itm.kb 1 = some (3, 2, 0) := Itm.kget [2] [1, 107, 4, 1] 3 (by omega) rfl
theorem Itm.k2 : num_Get.f Itm.kb 2 = some (1, 3, 0) := Itm.kget [2, 3] [107, 4, 1] 1 (by omega) rfl
theorem Itm.k4 : num_Get.f Itm.kb 4 = some (4, 5, 0) := Itm.kget [2, 3, 1, 107] [1] 4 (by omega) rfl
theorem Itm.k5 : num_Get.f Itm.kb 5 = some (1, 6, 0) := Itm.kget [2, 3, 1, 107, 4] [] 1 (by omega) rfl
theorem Itm.kt : num_GetText.f Itm.kb 2 4096 = some (⟨#[107]⟩, 4, 0) := by
  unfold num_GetText.f
  rw [Itm.k2, Option.bind_some]
  rfl
theorem Itm.klog : 2 :: Itm.logL ⟨#[107]⟩ 1 0 ⟨#[]⟩ = Itm.kb := by
  unfold Itm.logL Itm.txt Itm.num
  rw [if_neg (by decide), if_neg (by decide), if_pos (by decide), if_pos (by decide)]
  have h1 : putL (2 * 1 + 1 : Int).toNat = [3] := putL_small (n := 3) (by omega)
  have h2 : putL (ByteArray.size ⟨#[107]⟩) = [1] := putL_small (n := 1) (by omega)
  have h3 : putL (2 * 2 : Int).toNat = [4] := putL_small (n := 4) (by omega)
  have h4 : putL (1 : Int).toNat = [1] := putL_small (n := 1) (by omega)
  rw [h1, h2, h3, h4]
  rfl
theorem Itm.kright : Itm.rightLog ⟨#[107]⟩ 1 0 ⟨#[]⟩ = true := by decide +kernel
theorem Itm.kequal : bytes_Equal.f Itm.kb Itm.kb = some true := by unfold bytes_Equal.f; simp
def Itm.kst (A : Option Addr) (c : Nat) : Nat → Array Value
  | 0 => #[.int .u8 2, .int .u64 0, .int .u64 0, .int .u64 0, .int .u64 0, .string ⟨#[]⟩, .int .i64 0, .int .i64 0, .bool false, .slice none 0 0, .int .u64 0, .string ⟨#[107]⟩, .int .u64 1, .int .i64 0, .string ⟨#[]⟩, .slice A 6 c, .int .i64 6]
  | 1 => #[.int .u8 2, .int .u64 0, .int .u64 0, .int .u64 0, .int .u64 0, .string ⟨#[]⟩, .int .i64 0, .int .i64 0, .bool false, .slice none 0 0, .int .u64 0, .string ⟨#[107]⟩, .int .u64 0, .int .i64 0, .string ⟨#[]⟩, .slice A 6 c, .int .i64 4]
  | _ => #[.int .u8 2, .int .u64 0, .int .u64 0, .int .u64 0, .int .u64 0, .string ⟨#[]⟩, .int .i64 0, .int .i64 0, .bool false, .slice none 0 0, .int .u64 0, .string ⟨#[]⟩, .int .u64 0, .int .i64 0, .string ⟨#[]⟩, .slice A 6 c, .int .i64 1]
set_option maxHeartbeats 1000000 in
set_option maxRecDepth 100000 in
theorem Itm.Decode_nil (w : World) : Calls Try.prog 20 #[.slice none 0 0] w fun e w' => e = .returned (.tuple #[.agg #[.int .u8 0, .int .u64 0, .int .u64 0, .int .u64 0, .int .u64 0, .string ⟨#[]⟩, .int .i64 0, .int .i64 0, .bool false, .slice none 0 0, .int .u64 0, .string ⟨#[]⟩, .int .u64 0, .int .i64 0, .string ⟨#[]⟩], .int .u16 40]) ∧ Below w.heap.size w w' := by
  have hb := blk_new w (.cells #[.int .u8 0, .int .u64 0, .int .u64 0, .int .u64 0, .int .u64 0, .string ⟨#[]⟩, .int .i64 0, .int .i64 0, .bool false, .slice none 0 0, .int .u64 0, .string ⟨#[]⟩, .int .u64 0, .int .i64 0, .string ⟨#[]⟩] 38 (0, 0))
  go_enter Try.func20, Try.ntmps20
  go_wp2_with (fail)
  have hres : Try.f20.results = #[.cell 2 38, .tmp 3] := by kernel_rfl
  refine bodyPost_ret (v := .tuple #[.agg #[.int .u8 0, .int .u64 0, .int .u64 0, .int .u64 0, .int .u64 0, .string ⟨#[]⟩, .int .i64 0, .int .i64 0, .bool false, .slice none 0 0, .int .u64 0, .string ⟨#[]⟩, .int .u64 0, .int .i64 0, .string ⟨#[]⟩], .int .u16 40]) ?_ rfl ⟨rfl, ?_⟩
  · simp only [results, hres]
    go_simp
  · repeat (first | exact below_alloc (Below.refl _ w) _ | refine below_set ?_ (Nat.le_refl _))
set_option maxHeartbeats 1000000 in
set_option maxRecDepth 100000 in
theorem Itm.Decode_k (A : Option Addr) (c : Nat) (w : World) (hr : Kd.C (Kd.int .u8) w A 6 Itm.kb) (hc : 6 ≤ c) : Calls Try.prog 20 #[.slice A 6 c] w fun e w' => e = .returned (.tuple #[.agg #[.int .u8 2, .int .u64 0, .int .u64 0, .int .u64 0, .int .u64 0, .string ⟨#[]⟩, .int .i64 0, .int .i64 0, .bool false, .slice none 0 0, .int .u64 0, .string ⟨#[107]⟩, .int .u64 1, .int .i64 0, .string ⟨#[]⟩], .int .u16 0]) ∧ Below w.heap.size w w' := by
  obtain ⟨ad, e0, hx⟩ := ReadsInt.at_ (Kd.reads_of_C (enc := Value.int .u8) (d := (0 : Int)) (h1 := fun _ => rfl) hr) 0 (by omega) (by omega)
  cases e0
  have hx0 : w.cell? ad = some (.int .u8 2) := by simpa [Addr.add, rd, Itm.kb] using hx
  replace hr := Aside0.mk hr
  clear hx
  have hI := blk_alloc (blk_new w (.cells #[.int .u8 0, .int .u64 0, .int .u64 0, .int .u64 0, .int .u64 0, .string ⟨#[]⟩, .int .i64 0, .int .i64 0, .bool false, .slice none 0 0, .int .u64 0, .string ⟨#[]⟩, .int .u64 0, .int .i64 0, .string ⟨#[]⟩] 38 (0, 0))) (.cells #[.int .u8 0, .int .u64 0, .int .u64 0, .int .u64 0, .int .u64 0, .string ⟨#[]⟩, .int .i64 0, .int .i64 0, .bool false, .slice none 0 0, .int .u64 0, .string ⟨#[]⟩, .int .u64 0, .int .i64 0, .string ⟨#[]⟩, .slice (some ad) 6 c, .int .i64 1] 79 (0, 0))
  have s1 : (w.alloc (.cells #[.int .u8 0, .int .u64 0, .int .u64 0, .int .u64 0, .int .u64 0, .string ⟨#[]⟩, .int .i64 0, .int .i64 0, .bool false, .slice none 0 0, .int .u64 0, .string ⟨#[]⟩, .int .u64 0, .int .i64 0, .string ⟨#[]⟩] 38 (0, 0))).heap.size = w.heap.size + 1 := World.size_alloc _ _
  have hR := blk_new (w.alloc (.cells #[.int .u8 0, .int .u64 0, .int .u64 0, .int .u64 0, .int .u64 0, .string ⟨#[]⟩, .int .i64 0, .int .i64 0, .bool false, .slice none 0 0, .int .u64 0, .string ⟨#[]⟩, .int .u64 0, .int .i64 0, .string ⟨#[]⟩] 38 (0, 0))) (.cells #[.int .u8 0, .int .u64 0, .int .u64 0, .int .u64 0, .int .u64 0, .string ⟨#[]⟩, .int .i64 0, .int .i64 0, .bool false, .slice none 0 0, .int .u64 0, .string ⟨#[]⟩, .int .u64 0, .int .i64 0, .string ⟨#[]⟩, .slice (some ad) 6 c, .int .i64 1] 79 (0, 0))
  rw [s1] at hR
  have hB := below_alloc (below_alloc (Below.refl w.heap.size w) (.cells #[.int .u8 0, .int .u64 0, .int .u64 0, .int .u64 0, .int .u64 0, .string ⟨#[]⟩, .int .i64 0, .int .i64 0, .bool false, .slice none 0 0, .int .u64 0, .string ⟨#[]⟩, .int .u64 0, .int .i64 0, .string ⟨#[]⟩] 38 (0, 0))) (.cells #[.int .u8 0, .int .u64 0, .int .u64 0, .int .u64 0, .int .u64 0, .string ⟨#[]⟩, .int .i64 0, .int .i64 0, .bool false, .slice none 0 0, .int .u64 0, .string ⟨#[]⟩, .int .u64 0, .int .i64 0, .string ⟨#[]⟩, .slice (some ad) 6 c, .int .i64 1] 79 (0, 0))
  clear s1
  go_enter Try.func20, Try.ntmps20
  go_upto_region 4 with (fail)
  generalize ((w.alloc (.cells #[.int .u8 0, .int .u64 0, .int .u64 0, .int .u64 0, .int .u64 0, .string ⟨#[]⟩, .int .i64 0, .int .i64 0, .bool false, .slice none 0 0, .int .u64 0, .string ⟨#[]⟩, .int .u64 0, .int .i64 0, .string ⟨#[]⟩] 38 (0, 0))).alloc (.cells #[.int .u8 0, .int .u64 0, .int .u64 0, .int .u64 0, .int .u64 0, .string ⟨#[]⟩, .int .i64 0, .int .i64 0, .bool false, .slice none 0 0, .int .u64 0, .string ⟨#[]⟩, .int .u64 0, .int .i64 0, .string ⟨#[]⟩, .slice (some ad) 6 c, .int .i64 1] 79 (0, 0))) = W2 at *
  have hx2 : W2.cell? ad = some (.int .u8 2) := (hB.cell (World.block_lt_of_cell? _ _ hx0)).trans hx0
  have r0 : W2.cell? ⟨w.heap.size + 1, 0, none⟩ = some (.int .u8 0) := blk_cell hR 0
  have rf := blk_frozen hR 0
  have hne : w.heap.size ≠ w.heap.size + 1 := by omega
  have hI3 := Aside0.mk (blk_far hI (p := ⟨w.heap.size + 1, 0, none⟩) hne (.int .u8 2))
  have hR3 : Aside0 ((W2.setCell ⟨w.heap.size + 1, 0, none⟩ (.int .u8 2)).heap[w.heap.size + 1]? = some (.cells (Itm.kst (some ad) c 2) 79 (0, 0))) := ⟨blk_put hR 0 (.int .u8 2) rfl⟩
  have hB3 := Aside0.mk (below_set (j := 0) (v := .int .u8 2) hB (show w.heap.size ≤ w.heap.size + 1 by omega))
  clear hI hR hB hx0
  go_upto_region 5 with (fail)
  generalize (W2.setCell ⟨w.heap.size + 1, 0, none⟩ (.int .u8 2)) = W3 at *
  clear hx2 r0 rf
  have r0 : W3.cell? ⟨w.heap.size + 1, 0, none⟩ = some (.int .u8 2) := blk_cell hR3.out 0
  go_wp2_with (fail)
  go_loopg [7] 2 (fun gg _ wr => gg ≤ 2 ∧ Aside0 (wr.heap[w.heap.size + 1]? = some (.cells (Itm.kst (some ad) c gg) 79 (0, 0))) ∧ Aside0 (wr.heap[w.heap.size]? = some (.cells #[.int .u8 0, .int .u64 0, .int .u64 0, .int .u64 0, .int .u64 0, .string ⟨#[]⟩, .int .i64 0, .int .i64 0, .bool false, .slice none 0 0, .int .u64 0, .string ⟨#[]⟩, .int .u64 0, .int .i64 0, .string ⟨#[]⟩] 38 (0, 0))) ∧ Aside0 (Below w.heap.size w wr))
  case atStart => exact ⟨by omega, hR3, hI3, hB3⟩
  case round =>
    clear hI3 hR3 hB3 r0
    obtain ⟨hg2, hR, hI, hB⟩ := hrel
    have h3 : gk = 0 ∨ gk = 1 ∨ gk = 2 := by omega
    rcases h3 with rfl | rfl | rfl
    · skip
      have qa0 : wr.cell? ⟨w.heap.size + 1, 0, none⟩ = some (.int .u8 2) := blk_cell hR.out 0
      have qa1 : wr.cell? ⟨w.heap.size + 1, 1, none⟩ = some (.int .u64 0) := blk_cell hR.out 1
      have qa2 : wr.cell? ⟨w.heap.size + 1, 2, none⟩ = some (.int .u64 0) := blk_cell hR.out 2
      have qa3 : wr.cell? ⟨w.heap.size + 1, 3, none⟩ = some (.int .u64 0) := blk_cell hR.out 3
      have qa4 : wr.cell? ⟨w.heap.size + 1, 4, none⟩ = some (.int .u64 0) := blk_cell hR.out 4
      have qa5 : wr.cell? ⟨w.heap.size + 1, 5, none⟩ = some (.string ⟨#[]⟩) := blk_cell hR.out 5
      have qa6 : wr.cell? ⟨w.heap.size + 1, 6, none⟩ = some (.int .i64 0) := blk_cell hR.out 6
      have qa7 : wr.cell? ⟨w.heap.size + 1, 7, none⟩ = some (.int .i64 0) := blk_cell hR.out 7
      have qa8 : wr.cell? ⟨w.heap.size + 1, 8, none⟩ = some (.bool false) := blk_cell hR.out 8
      have qa9 : wr.cell? ⟨w.heap.size + 1, 9, none⟩ = some (.slice none 0 0) := blk_cell hR.out 9
      have qa10 : wr.cell? ⟨w.heap.size + 1, 10, none⟩ = some (.int .u64 0) := blk_cell hR.out 10
      have qa11 : wr.cell? ⟨w.heap.size + 1, 11, none⟩ = some (.string ⟨#[107]⟩) := blk_cell hR.out 11
      have qa12 : wr.cell? ⟨w.heap.size + 1, 12, none⟩ = some (.int .u64 1) := blk_cell hR.out 12
      have qa13 : wr.cell? ⟨w.heap.size + 1, 13, none⟩ = some (.int .i64 0) := blk_cell hR.out 13
      have qa14 : wr.cell? ⟨w.heap.size + 1, 14, none⟩ = some (.string ⟨#[]⟩) := blk_cell hR.out 14
      have qa15 : wr.cell? ⟨w.heap.size + 1, 15, none⟩ = some (.slice (some ad) 6 c) := blk_cell hR.out 15
      have qa16 : wr.cell? ⟨w.heap.size + 1, 16, none⟩ = some (.int .i64 6) := blk_cell hR.out 16
      go_wp2_with (fail)
      refine (Itm.Encode_log 2 0 0 0 0 ⟨#[]⟩ 0 0 false none 0 [] 0 ⟨#[107]⟩ 1 0 ⟨#[]⟩ wr (Kd.C_nil _ _) (Nat.le_refl _) (fun a ha => by simp at ha) (by decide) (by decide) rfl Itm.kright (by decide +kernel) (by decide) (by omega) (by omega) (by decide)).mono ?_
      rintro e w7 ⟨v7, rfl, hN7, hB7⟩
      rw [Itm.klog] at hN7
      obtain ⟨A7, c7, rfl⟩ := Kd.N_slice hN7
      obtain ⟨_, hc7, hC7⟩ := Kd.N_reads' hN7
      have hR7 := Aside0.mk (blk_below hR.out hB7)
      have hI7 := Aside0.mk (blk_below hI.out hB7)
      have hBt := Aside0.mk (below_step hB.out hB7)
      have cE := bytes_Equal.calls A7 c7 Itm.kb (some ad) c Itm.kb true w7 hC7 hc7 (Kd.C_below hr.out hBt.out) hc Itm.kequal
      clear hN7 hC7 hB7 hR hI hB qa0 qa1 qa2 qa3 qa4 qa5 qa6 qa7 qa8 qa9 qa10 qa11 qa12 qa13 qa14 qa15 qa16
      go_wp2_with (fail)
      refine cE.mono ?_
      clear cE
      rintro e w8 ⟨rfl, ⟨m8, hm8⟩⟩
      have hR8 : w8.heap[w.heap.size + 1]? = some (.cells (Itm.kst (some ad) c 0) 79 (0, 0)) := by rw [hm8]; exact blk_drewN hR7.out m8
      have hI8 : w8.heap[w.heap.size]? = some (.cells #[.int .u8 0, .int .u64 0, .int .u64 0, .int .u64 0, .int .u64 0, .string ⟨#[]⟩, .int .i64 0, .int .i64 0, .bool false, .slice none 0 0, .int .u64 0, .string ⟨#[]⟩, .int .u64 0, .int .i64 0, .string ⟨#[]⟩] 38 (0, 0)) := by rw [hm8]; exact blk_drewN hI7.out m8
      have hB8 : Below w.heap.size w w8 := by rw [hm8]; exact pw_below_drewN hBt.out m8
      clear hm8 hR7 hI7 hBt
      have qb0 : w8.cell? ⟨w.heap.size + 1, 0, none⟩ = some (.int .u8 2) := blk_cell hR8 0
      have qb1 : w8.cell? ⟨w.heap.size + 1, 1, none⟩ = some (.int .u64 0) := blk_cell hR8 1
      have qb2 : w8.cell? ⟨w.heap.size + 1, 2, none⟩ = some (.int .u64 0) := blk_cell hR8 2
      have qb3 : w8.cell? ⟨w.heap.size + 1, 3, none⟩ = some (.int .u64 0) := blk_cell hR8 3
      have qb4 : w8.cell? ⟨w.heap.size + 1, 4, none⟩ = some (.int .u64 0) := blk_cell hR8 4
      have qb5 : w8.cell? ⟨w.heap.size + 1, 5, none⟩ = some (.string ⟨#[]⟩) := blk_cell hR8 5
      have qb6 : w8.cell? ⟨w.heap.size + 1, 6, none⟩ = some (.int .i64 0) := blk_cell hR8 6
      have qb7 : w8.cell? ⟨w.heap.size + 1, 7, none⟩ = some (.int .i64 0) := blk_cell hR8 7
      have qb8 : w8.cell? ⟨w.heap.size + 1, 8, none⟩ = some (.bool false) := blk_cell hR8 8
      have qb9 : w8.cell? ⟨w.heap.size + 1, 9, none⟩ = some (.slice none 0 0) := blk_cell hR8 9
      have qb10 : w8.cell? ⟨w.heap.size + 1, 10, none⟩ = some (.int .u64 0) := blk_cell hR8 10
      have qb11 : w8.cell? ⟨w.heap.size + 1, 11, none⟩ = some (.string ⟨#[107]⟩) := blk_cell hR8 11
      have qb12 : w8.cell? ⟨w.heap.size + 1, 12, none⟩ = some (.int .u64 1) := blk_cell hR8 12
      have qb13 : w8.cell? ⟨w.heap.size + 1, 13, none⟩ = some (.int .i64 0) := blk_cell hR8 13
      have qb14 : w8.cell? ⟨w.heap.size + 1, 14, none⟩ = some (.string ⟨#[]⟩) := blk_cell hR8 14
      have qb15 : w8.cell? ⟨w.heap.size + 1, 15, none⟩ = some (.slice (some ad) 6 c) := blk_cell hR8 15
      have qb16 : w8.cell? ⟨w.heap.size + 1, 16, none⟩ = some (.int .i64 6) := blk_cell hR8 16
      have d0 : w8.cell? ⟨w.heap.size, 0, none⟩ = some (.int .u8 0) := blk_cell hI8 0
      have d1 : w8.cell? ⟨w.heap.size, 1, none⟩ = some (.int .u64 0) := blk_cell hI8 1
      have d2 : w8.cell? ⟨w.heap.size, 2, none⟩ = some (.int .u64 0) := blk_cell hI8 2
      have d3 : w8.cell? ⟨w.heap.size, 3, none⟩ = some (.int .u64 0) := blk_cell hI8 3
      have d4 : w8.cell? ⟨w.heap.size, 4, none⟩ = some (.int .u64 0) := blk_cell hI8 4
      have d5 : w8.cell? ⟨w.heap.size, 5, none⟩ = some (.string ⟨#[]⟩) := blk_cell hI8 5
      have d6 : w8.cell? ⟨w.heap.size, 6, none⟩ = some (.int .i64 0) := blk_cell hI8 6
      have d7 : w8.cell? ⟨w.heap.size, 7, none⟩ = some (.int .i64 0) := blk_cell hI8 7
      have d8 : w8.cell? ⟨w.heap.size, 8, none⟩ = some (.bool false) := blk_cell hI8 8
      have d9 : w8.cell? ⟨w.heap.size, 9, none⟩ = some (.slice none 0 0) := blk_cell hI8 9
      have d10 : w8.cell? ⟨w.heap.size, 10, none⟩ = some (.int .u64 0) := blk_cell hI8 10
      have d11 : w8.cell? ⟨w.heap.size, 11, none⟩ = some (.string ⟨#[]⟩) := blk_cell hI8 11
      have d12 : w8.cell? ⟨w.heap.size, 12, none⟩ = some (.int .u64 0) := blk_cell hI8 12
      have d13 : w8.cell? ⟨w.heap.size, 13, none⟩ = some (.int .i64 0) := blk_cell hI8 13
      have d14 : w8.cell? ⟨w.heap.size, 14, none⟩ = some (.string ⟨#[]⟩) := blk_cell hI8 14
      have f0 := blk_frozen hI8 0
      have f1 := blk_frozen hI8 1
      have f2 := blk_frozen hI8 2
      have f3 := blk_frozen hI8 3
      have f4 := blk_frozen hI8 4
      have f5 := blk_frozen hI8 5
      have f6 := blk_frozen hI8 6
      have f7 := blk_frozen hI8 7
      have f8 := blk_frozen hI8 8
      have f9 := blk_frozen hI8 9
      have f10 := blk_frozen hI8 10
      have f11 := blk_frozen hI8 11
      have f12 := blk_frozen hI8 12
      have f13 := blk_frozen hI8 13
      have f14 := blk_frozen hI8 14
      have hB8a := Aside0.mk hB8
      clear hR8 hI8 hB8
      go_wp2_with (fail)
      have hres : Try.f20.results = #[.cell 2 38, .tmp 3] := by kernel_rfl
      refine bodyPost_ret (v := .tuple #[.agg #[.int .u8 2, .int .u64 0, .int .u64 0, .int .u64 0, .int .u64 0, .string ⟨#[]⟩, .int .i64 0, .int .i64 0, .bool false, .slice none 0 0, .int .u64 0, .string ⟨#[107]⟩, .int .u64 1, .int .i64 0, .string ⟨#[]⟩], .int .u16 0]) ?_ rfl ⟨rfl, ?_⟩
      · simp only [results, hres]
        go_simp
      · iterate 15 (refine below_set ?_ (Nat.le_refl _))
        exact hB8a.out
    · have r16 : wr.cell? ⟨w.heap.size + 1, 16, none⟩ = some (.int .i64 4) := blk_cell hR.out 16
      go_wp2_with (fail)
      refine (Itm.next_num w wr (w.heap.size + 1) _ (some ad) c Itm.kb 4 4 5 1 6 hB.out (by omega) hR.out rfl rfl (Kd.C_below hr.out hB.out) hc Itm.k4 (by omega) (by decide) Itm.k5).mono ?_
      rintro e w4 ⟨rfl, hR4, hK4, hB4⟩
      have hs4 := hK4.1
      have hI4 := blk_kept hI.out hK4 hne
      have hdv : (4 : Int) / 2 = 2 := by decide
      rw [hdv]
      clear hdv
      have hR5 := blk_alloc hR4 (.cells #[.int .u64 2, .int .u64 1, .string ⟨#[]⟩, .bool false] 82 (0, 0))
      have hI5 := blk_alloc hI4 (.cells #[.int .u64 2, .int .u64 1, .string ⟨#[]⟩, .bool false] 82 (0, 0))
      have hB5 := below_alloc hB4 (.cells #[.int .u64 2, .int .u64 1, .string ⟨#[]⟩, .bool false] 82 (0, 0))
      have hR5a := Aside0.mk hR5; have hI5a := Aside0.mk hI5; have hB5a := Aside0.mk hB5
      clear hR4 hK4 hB4 hI4 hR5 hI5 hB5 hR hI hB r16
      go_wp2_with (fail)
      refine (Itm.rlog_weight w _ (w.heap.size + 1) _ 1 ⟨#[]⟩ false (.int .u64 0) hB5a.out (by omega) hR5a.out rfl).mono ?_
      rintro e w6 ⟨⟨v6, rfl⟩, hR6, hK6, hB6⟩
      have hI6 := blk_kept hI5a.out hK6 hne
      have hR6a : Aside0 (w6.heap[w.heap.size + 1]? = some (.cells (Itm.kst (some ad) c 0) 79 (0, 0))) := ⟨hR6⟩
      have hI6a := Aside0.mk hI6; have hB6a := Aside0.mk hB6
      clear hR6 hK6 hB6 hI6 hR5a hI5a hB5a
      go_wp2_with (fail)
      go_roundg 0
      case measure => omega
      case rel => exact ⟨by omega, hR6a, hI6a, hB6a⟩
    · have r16 : wr.cell? ⟨w.heap.size + 1, 16, none⟩ = some (.int .i64 1) := blk_cell hR.out 16
      go_wp2_with (fail)
      refine (Itm.next_text w wr (w.heap.size + 1) _ (some ad) c Itm.kb 1 3 2 ⟨#[107]⟩ 4 hB.out (by omega) hR.out rfl rfl (Kd.C_below hr.out hB.out) hc Itm.k1 (by omega) (by decide) Itm.kt).mono ?_
      rintro e w4 ⟨rfl, hR4, hK4, hB4⟩
      have hs4 := hK4.1
      have hI4 := blk_kept hI.out hK4 hne
      have hdv : (3 : Int) / 2 = 1 := by decide
      rw [hdv]
      clear hdv
      have hR5 := blk_alloc hR4 (.cells #[.int .u64 1, .int .u64 0, .string ⟨#[107]⟩, .bool true] 82 (0, 0))
      have hI5 := blk_alloc hI4 (.cells #[.int .u64 1, .int .u64 0, .string ⟨#[107]⟩, .bool true] 82 (0, 0))
      have hB5 := below_alloc hB4 (.cells #[.int .u64 1, .int .u64 0, .string ⟨#[107]⟩, .bool true] 82 (0, 0))
      have hR5a := Aside0.mk hR5; have hI5a := Aside0.mk hI5; have hB5a := Aside0.mk hB5
      clear hR4 hK4 hB4 hI4 hR5 hI5 hB5 hR hI hB r16
      go_wp2_with (fail)
      refine (Itm.rlog_key w _ (w.heap.size + 1) _ 0 ⟨#[107]⟩ true (.string ⟨#[]⟩) hB5a.out (by omega) hR5a.out rfl).mono ?_
      rintro e w6 ⟨⟨v6, rfl⟩, hR6, hK6, hB6⟩
      have hI6 := blk_kept hI5a.out hK6 hne
      have hR6a : Aside0 (w6.heap[w.heap.size + 1]? = some (.cells (Itm.kst (some ad) c 1) 79 (0, 0))) := ⟨hR6⟩
      have hI6a := Aside0.mk hI6; have hB6a := Aside0.mk hB6
      clear hR6 hK6 hB6 hI6 hR5a hI5a hB5a
      go_wp2_with (fail)
      go_roundg 1
      case measure => omega
      case rel => exact ⟨by omega, hR6a, hI6a, hB6a⟩
end Go.Proofs.Ytfapckmobeppnaa.Px

/- Item's known: the chapter's example. -/
namespace Go.Proofs.Ytfapckmobeppnaa.Px
open Go.RowKit Go.Proofs.YtfapckmobeppnaaW.PrintWords Go.Proofs.YtfapckmobeppnaaW.PrintLast Go.Proofs.YtfapckmobeppnaaW.PrintMore
set_option linter.unusedVariables false
set_option linter.unusedSimpArgs false

theorem Itm.kb_F {W : World} {b t : Nat} (h : W.heap[b]? = some (.cells #[.int .u8 2, .int .u8 3, .int .u8 1, .int .u8 107, .int .u8 4, .int .u8 1] t (0, 0))) : Kd.C (Kd.int .u8) W (some ⟨b, 0, none⟩) 6 Itm.kb := by
  refine Kd.C_of_reads (enc := Value.int .u8) (d := (0 : Int)) (h1 := fun _ => rfl) ⟨rfl, by omega, fun hp => ⟨⟨b, 0, none⟩, rfl, fun j hj => ?_⟩⟩
  rw [add_plain, blk_cell h j]
  match j, hj with
  | 0, _ => rfl
  | 1, _ => rfl
  | 2, _ => rfl
  | 3, _ => rfl
  | 4, _ => rfl
  | 5, _ => rfl
set_option maxHeartbeats 1000000 in
set_option maxRecDepth 100000 in
theorem Itm.known_calls (w : World) : Calls Try.prog 12 #[] w fun e w' => e = .returned (.bool true) ∧ Below w.heap.size w w' := by
  have hu38 := Try.underlying38
  have hE0 : item_empty.f 0 0 0 0 ⟨#[]⟩ 0 0 false [] 0 = some true := by decide +kernel
  have cE := Itm.Encode_log 2 0 0 0 0 ⟨#[]⟩ 0 0 false none 0 [] 0 ⟨#[107]⟩ 1 0 ⟨#[]⟩ w (Kd.C_nil _ _) (Nat.le_refl _) (fun a ha => by simp at ha) (by decide) (by decide) rfl Itm.kright hE0 (by decide) (by omega) (by omega) (by decide)
  rw [Itm.klog] at cE
  clear hE0
  go_enter Try.func12, Try.ntmps12
  go_wp2_with (fail)
  refine cE.mono ?_
  clear cE
  rintro e w1 ⟨v1, rfl, hN1, hB1⟩
  obtain ⟨A1, c1, rfl⟩ := Kd.N_slice hN1
  have hC1 := Aside0.mk (Kd.N_reads' hN1).2.2
  have hB1a := Aside0.mk hB1
  clear hN1 hB1
  go_wp2_with (fail)
  have hb2 := blk_new w1 (.cells #[.int .u8 2, .int .u8 3, .int .u8 1, .int .u8 107, .int .u8 4, .int .u8 1] 5 (0, 0))
  have hB2 := Aside0.mk (below_alloc hB1a.out (.cells #[.int .u8 2, .int .u8 3, .int .u8 1, .int .u8 107, .int .u8 4, .int .u8 1] 5 (0, 0)))
  have hC2 := Aside0.mk (Kd.C_alloc hC1.out (.cells #[.int .u8 2, .int .u8 3, .int .u8 1, .int .u8 107, .int .u8 4, .int .u8 1] 5 (0, 0)))
  have cD := Itm.Decode_k (some ⟨w1.heap.size, 0, none⟩) 6 (w1.alloc (.cells #[.int .u8 2, .int .u8 3, .int .u8 1, .int .u8 107, .int .u8 4, .int .u8 1] 5 (0, 0))) (Itm.kb_F hb2) (Nat.le_refl _)
  clear hb2 hC1 hB1a
  refine cD.mono ?_
  clear cD
  rintro e w3 ⟨rfl, hB3⟩
  replace hC2 := Aside0.mk (Kd.C_below hC2.out hB3)
  replace hB2 := Aside0.mk (below_step hB2.out hB3)
  clear hB3
  have hX := Aside0.mk (blk_new w3 (.cells #[.int .u8 2, .int .u64 0, .int .u64 0, .int .u64 0, .int .u64 0, .string ⟨#[]⟩, .int .i64 0, .int .i64 0, .bool false, .slice none 0 0, .int .u64 0, .string ⟨#[107]⟩, .int .u64 1, .int .i64 0, .string ⟨#[]⟩] 38 (0, 0)))
  have hBx := Aside0.mk (below_alloc hB2.out (.cells #[.int .u8 2, .int .u64 0, .int .u64 0, .int .u64 0, .int .u64 0, .string ⟨#[]⟩, .int .i64 0, .int .i64 0, .bool false, .slice none 0 0, .int .u64 0, .string ⟨#[107]⟩, .int .u64 1, .int .i64 0, .string ⟨#[]⟩] 38 (0, 0)))
  have hCx := Aside0.mk (Kd.C_alloc hC2.out (.cells #[.int .u8 2, .int .u64 0, .int .u64 0, .int .u64 0, .int .u64 0, .string ⟨#[]⟩, .int .i64 0, .int .i64 0, .bool false, .slice none 0 0, .int .u64 0, .string ⟨#[107]⟩, .int .u64 1, .int .i64 0, .string ⟨#[]⟩] 38 (0, 0)))
  clear hC2 hB2
  go_wp2_with (fail)
  generalize w3.alloc (.cells #[.int .u8 2, .int .u64 0, .int .u64 0, .int .u64 0, .int .u64 0, .string ⟨#[]⟩, .int .i64 0, .int .i64 0, .bool false, .slice none 0 0, .int .u64 0, .string ⟨#[107]⟩, .int .u64 1, .int .i64 0, .string ⟨#[]⟩] 38 (0, 0)) = w4 at *
  refine (Itm.Decode_nil w4).mono ?_
  rintro e w5 ⟨rfl, hB5⟩
  have hX5 := Aside0.mk (blk_alloc (blk_below hX.out hB5) (.cells #[.int .u8 0, .int .u64 0, .int .u64 0, .int .u64 0, .int .u64 0, .string ⟨#[]⟩, .int .i64 0, .int .i64 0, .bool false, .slice none 0 0, .int .u64 0, .string ⟨#[]⟩, .int .u64 0, .int .i64 0, .string ⟨#[]⟩] 38 (0, 0)))
  have hC5 := Aside0.mk (Kd.C_alloc (Kd.C_below hCx.out hB5) (.cells #[.int .u8 0, .int .u64 0, .int .u64 0, .int .u64 0, .int .u64 0, .string ⟨#[]⟩, .int .i64 0, .int .i64 0, .bool false, .slice none 0 0, .int .u64 0, .string ⟨#[]⟩, .int .u64 0, .int .i64 0, .string ⟨#[]⟩] 38 (0, 0)))
  have hBy := Aside0.mk (below_alloc (below_step hBx.out hB5) (.cells #[.int .u8 0, .int .u64 0, .int .u64 0, .int .u64 0, .int .u64 0, .string ⟨#[]⟩, .int .i64 0, .int .i64 0, .bool false, .slice none 0 0, .int .u64 0, .string ⟨#[]⟩, .int .u64 0, .int .i64 0, .string ⟨#[]⟩] 38 (0, 0)))
  clear hX hBx hCx hB5
  go_wp2_with (fail)
  generalize w5.alloc (.cells #[.int .u8 0, .int .u64 0, .int .u64 0, .int .u64 0, .int .u64 0, .string ⟨#[]⟩, .int .i64 0, .int .i64 0, .bool false, .slice none 0 0, .int .u64 0, .string ⟨#[]⟩, .int .u64 0, .int .i64 0, .string ⟨#[]⟩] 38 (0, 0)) = w6 at *
  refine (Itm.Encode_kind 0 0 0 0 0 ⟨#[]⟩ 0 0 false none 0 [] 0 ⟨#[]⟩ 0 0 ⟨#[]⟩ w6 (Kd.C_nil _ _) (Nat.le_refl _) (fun a ha => by simp at ha) (by decide) (by decide) (by decide) (by decide)).mono ?_
  rintro e w7 ⟨rfl, hB7⟩
  have hX7 := blk_below hX5.out hB7
  have hBz := Aside0.mk (below_step hBy.out hB7)
  have x0 : w7.cell? ⟨w3.heap.size, 0, none⟩ = some (.int .u8 2) := blk_cell hX7 0
  have x11 : w7.cell? ⟨w3.heap.size, 11, none⟩ = some (.string ⟨#[107]⟩) := blk_cell hX7 11
  have hcv0 := Kd.C_string (P := Try.prog) (A := A1) (c := c1) Try.underlying22 Try.underlying5 Try.underlying9 (Kd.C_below hC5.out hB7)
  have hsn : strOfNums Itm.kb = ⟨#[2, 3, 1, 107, 4, 1]⟩ := by rfl
  rw [hsn] at hcv0
  have hcv : (convert 22 9 (.slice A1 6 c1)).run Try.prog w7 = .ok (.string ⟨#[2, 3, 1, 107, 4, 1]⟩) w7 := hcv0
  have hcv2 : (convert 22 9 (.slice A1 Itm.kb.length c1)).run Try.prog w7 = .ok (.string ⟨#[2, 3, 1, 107, 4, 1]⟩) w7 := hcv0
  clear hX7 hX5 hC5 hBy hB7 hcv0 hsn
  go_wp2_with (fail)
  go_ret
  exact ⟨rfl, hBz.out⟩
end Go.Proofs.Ytfapckmobeppnaa.Px

/- RightSpan, RightLog, known, as the print takes them. -/
namespace Go.Proofs.Ytfapckmobeppnaa.Px
open Go.RowKit Go.Proofs.YtfapckmobeppnaaW.PrintWords Go.Proofs.YtfapckmobeppnaaW.PrintLast Go.Proofs.YtfapckmobeppnaaW.PrintMore
set_option linter.unusedVariables false
set_option linter.unusedSimpArgs false

def telemeterlaw03_known.f : Option Bool := some true
theorem Itm.known_calls' (r : Bool) (w : World) (h : telemeterlaw03_known.f = some r) : Calls Try.prog 12 #[] w fun e w' => e = .returned (.bool r) ∧ Below w.heap.size w w' := by
  obtain rfl := Option.some.inj h
  exact Itm.known_calls w
def item_RightLog.f (k : ByteArray) (wt t : Int) (b : ByteArray) : Option Bool := if k.size ≤ 140737488355328 then some (Itm.rightLog k wt t b) else none
theorem Itm.RightLog_calls' (k : ByteArray) (wt t : Int) (b : ByteArray) (r : Bool) (w : World) (h : item_RightLog.f k wt t b = some r) :
    Calls Try.prog 14 #[.agg #[.string k, .int .u64 wt, .int .i64 t, .string b]] w fun e w' => e = .returned (.bool r) ∧ Below w.heap.size w w' := by
  unfold item_RightLog.f at h
  split at h
  · obtain rfl := Option.some.inj h
    exact Itm.RightLog_calls k wt t b w (by assumption)
  · cases h
def item_RightSpan.f (a0_0 a0_1 a0_2 a0_3 : Int) (a0_4 : ByteArray) (a0_5 a0_6 : Int) (a0_7 : Bool) (l0_8 : List S36) (a0_9 : Int) : Option Bool :=
  if a0_4.size ≤ 140737488355328 ∧ (l0_8.all fun a => decide (a.f0.size ≤ 140737488355328)) = true then some (Itm.rightSpan a0_0 a0_1 a0_2 a0_4 a0_5 a0_6 l0_8 a0_9) else none
theorem Itm.RightSpan_calls' (a0_0 a0_1 a0_2 a0_3 : Int) (a0_4 : ByteArray) (a0_5 a0_6 : Int) (a0_7 : Bool) (A0_8 : Option Addr) (c0_8 : Nat) (l0_8 : List S36) (a0_9 : Int) (r : Bool) (w : World) (hr : Kd.C k36 w A0_8 l0_8.length l0_8) (hc : l0_8.length ≤ c0_8) (h : item_RightSpan.f a0_0 a0_1 a0_2 a0_3 a0_4 a0_5 a0_6 a0_7 l0_8 a0_9 = some r) :
    Calls Try.prog 13 #[.agg #[.int .u64 a0_0, .int .u64 a0_1, .int .u64 a0_2, .int .u64 a0_3, .string a0_4, .int .i64 a0_5, .int .i64 a0_6, .bool a0_7, .slice A0_8 l0_8.length c0_8, .int .u64 a0_9]] w fun e w' => e = .returned (.bool r) ∧ Below w.heap.size w w' := by
  unfold item_RightSpan.f at h
  split at h
  · rename_i hq
    obtain rfl := Option.some.inj h
    refine Itm.RightSpan_calls a0_0 a0_1 a0_2 a0_3 a0_4 a0_5 a0_6 a0_7 A0_8 c0_8 l0_8 a0_9 w hr hc (fun a ha => ?_) hq.1
    have := List.all_eq_true.mp hq.2 a ha
    exact of_decide_eq_true this
  · cases h
end Go.Proofs.Ytfapckmobeppnaa.Px
