/- The writer's log. -/
import Derived.Test.YtfapckmobeppnaaItmW
namespace Go.Proofs.Ytfapckmobeppnaa.Px
open Go.RowKit Go.Proofs.YtfapckmobeppnaaW.PrintWords Go.Proofs.YtfapckmobeppnaaW.PrintLast Go.Proofs.YtfapckmobeppnaaW.PrintMore
set_option linter.unusedVariables false
set_option linter.unusedSimpArgs false

theorem Itm.W_bound {w : World} {base g : Nat} {ok : Nat → Prop} {l : List Int} (h : Itm.W w base ok g l) : Itm.W w base (fun k => ok k ∧ k < w.heap.size) g l := by
 obtain ⟨A, c, h1, h2, h3, h4⟩ := h
 exact ⟨A, c, h1, h2, fun x => h3 x.1, Kd.N_bound h4⟩
theorem Itm.putL_len (n : Int) (h : n < 18446744073709551616) : (putL n.toNat).length ≤ 10 := putL_ten (by omega)
theorem Itm.num_len (fld n : Int) (hf : fld ≤ 10) (h : n < 18446744073709551616) : (Itm.num fld n).length ≤ 20 := by
 unfold Itm.num
 split
 ·simp
 ·rw [List.length_append]
  have h1 := Itm.putL_len (2 * fld) (by omega)
  have h2 := Itm.putL_len n h
  omega
theorem Itm.txt_len (fld : Int) (s : ByteArray) (hf : fld ≤ 10) (h : s.size ≤ 100000) : (Itm.txt fld s).length ≤ 20 + s.size := by
 unfold Itm.txt
 split
 ·simp
 ·rw [List.length_append, List.length_append, bytesOf_length]
  have h1 := Itm.putL_len (2 * fld + 1) (by omega)
  have h2 := putL_ten (n := s.size) (by omega)
  omega
def Itm.logL (k : ByteArray) (wt t : Int) (b : ByteArray) : List Int := Itm.txt 1 k ++ (Itm.num 2 wt ++ (Itm.num 3 t ++ Itm.txt 4 b))
set_option maxHeartbeats 1000000 in
set_option maxRecDepth 100000 in
theorem Itm.log_calls (w0 W1 : World) (ok : Nat → Prop) (g : Nat) (l : List Int) (k : ByteArray) (wt t : Int) (b : ByteArray) (hW : Itm.W W1 w0.heap.size ok g l) (HB : Below w0.heap.size w0 W1) (hk : k.size ≤ 1000) (hwt : 0 ≤ wt ∧ wt < 18446744073709551616) (ht : 0 ≤ t ∧ t < 9223372036854775808) (hb : b.size ≤ 1000) (hl : l.length ≤ 1000) :
  Calls Try.prog 37 #[.pointer (some ⟨g, 0, none⟩), .agg #[.string k, .int .u64 wt, .int .i64 t, .string b]] W1 fun e w' => (∃ v, e = .returned v) ∧ Itm.W w' w0.heap.size (fun k => ok k ∨ W1.heap.size ≤ k) g (l ++ Itm.logL k wt t b) ∧ Kept W1 w' (fun k => ok k ∨ k = g) ∧ Below w0.heap.size w0 w' := by
 have hglt := Itm.W_lt hW
 have hgo : ¬ (ok g ∨ W1.heap.size ≤ g) := by
  rintro (h_ | h_)
  ·obtain ⟨_, _, _, _, h2_, _⟩ := hW; exact h2_ h_
  ·omega
 have hWb := Itm.W_below (Itm.W_bound hW) (below_alloc (Below.refl W1.heap.size W1) (.cells #[.string k, .int .u64 wt, .int .i64 t, .string b] 29 (0, 0)))
 have hB0 := below_alloc HB (.cells #[.string k, .int .u64 wt, .int .i64 t, .string b] 29 (0, 0))
 have hb0 := blk_new W1 (.cells #[.string k, .int .u64 wt, .int .i64 t, .string b] 29 (0, 0))
 have hK0 := Kept.alloc (Kept.refl W1 (fun k => ok k ∨ k = g)) (.cells #[.string k, .int .u64 wt, .int .i64 t, .string b] 29 (0, 0))
 have hs0 : (W1.alloc (.cells #[.string k, .int .u64 wt, .int .i64 t, .string b] 29 (0, 0))).heap.size = W1.heap.size + 1 := World.size_alloc _ _
 have hl1 := Aside0.mk (Itm.txt_len 1 k (by omega) (by omega))
 have hl2 := Aside0.mk (Itm.num_len 2 wt (by omega) hwt.2)
 have hl3 := Aside0.mk (Itm.num_len 3 t (by omega) (by omega))
 have hu : IntKind.u64.wrap t = t := wrap_u64_id (by omega) (by omega)
 go_enter Try.func37, Try.ntmps37
 go_wp2_with (fail)
 generalize W1.alloc (.cells #[.string k, .int .u64 wt, .int .i64 t, .string b] 29 (0, 0)) = W2 at *
 clear hW HB
 have hb0a := Aside0.mk hb0; have hK0a := Aside0.mk hK0; have hWba := Aside0.mk hWb; have hB0a := Aside0.mk hB0; have hs0a := Aside0.mk hs0
 clear hb0 hK0 hWb hB0 hs0
 refine (Itm.text_calls w0 W2 _ g l 1 k hWba.out hB0a.out (by omega) (by omega) (by omega)).mono ?_
 rintro e w3 ⟨⟨v3, rfl⟩, hW3, hK3, HB3⟩
 have hk3 := Aside0.mk (blk_kept hb0a.out hK3 (fun h_ => by rcases h_ with h_ | h_; (have := h_.2; omega); omega))
 have hK3a := Aside0.mk (Kept.then_ hK0a.out hK3 (fun k_ h_ => by rcases h_ with h_ | h_; exact Or.inl (Or.inl h_.1); exact Or.inl (Or.inr h_)))
 have hW3a := Aside0.mk hW3; have HB3a := Aside0.mk HB3
 have hz3 := hK3.1
 have z31 : w3.cell? ⟨W1.heap.size, 1, none⟩ = some (.int .u64 wt) := blk_cell hk3.out 1
 clear hW3 hK3 HB3 hb0a hK0a hWba hB0a
 have hs2 := hs0a.out
 go_wp2_with (fail)
 refine (Itm.number_calls w0 w3 _ g (l ++ Itm.txt 1 k) 2 wt hW3a.out HB3a.out (by omega) hwt (by simp only [List.length_append]; have := hl1.out; omega)).mono ?_
 rintro e w4 ⟨⟨v4, rfl⟩, hW4, hK4, HB4⟩
 have hz4 := hK4.1
 have hk4 := Aside0.mk (blk_kept hk3.out hK4 (fun h_ => by rcases h_ with (h_ | h_) | h_; (have := h_.2; omega); omega; omega))
 have hK4a := Aside0.mk (Kept.then_ hK3a.out hK4 (fun k_ h_ => by rcases h_ with (h_ | h_) | h_; exact Or.inl (Or.inl h_.1); exact Or.inr (by omega); exact Or.inl (Or.inr h_)))
 have hW4a := Aside0.mk hW4; have HB4a := Aside0.mk HB4
 have z4 : w4.cell? ⟨W1.heap.size, 2, none⟩ = some (.int .i64 t) := blk_cell hk4.out 2
 clear hW4 hK4 HB4 hW3a HB3a hK3a hk3 z31
 go_wp2_with (fail)
 refine (Itm.number_calls w0 w4 _ g ((l ++ Itm.txt 1 k) ++ Itm.num 2 wt) 3 t hW4a.out HB4a.out (by omega) (by omega) (by simp only [List.length_append]; have := hl1.out; have := hl2.out; omega)).mono ?_
 rintro e w5 ⟨⟨v5, rfl⟩, hW5, hK5, HB5⟩
 have hz5 := hK5.1
 have hk5 := Aside0.mk (blk_kept hk4.out hK5 (fun h_ => by rcases h_ with ((h_ | h_) | h_) | h_; (have := h_.2; omega); omega; omega; omega))
 have hK5a := Aside0.mk (Kept.then_ hK4a.out hK5 (fun k_ h_ => by rcases h_ with ((h_ | h_) | h_) | h_; exact Or.inl (Or.inl h_.1); exact Or.inr (by omega); exact Or.inr (by omega); exact Or.inl (Or.inr h_)))
 have hW5a := Aside0.mk hW5; have HB5a := Aside0.mk HB5
 have z5 : w5.cell? ⟨W1.heap.size, 3, none⟩ = some (.string b) := blk_cell hk5.out 3
 clear hW5 hK5 HB5 hW4a HB4a hK4a hk4 z4
 go_wp2_with (fail)
 refine (Itm.text_calls w0 w5 _ g (((l ++ Itm.txt 1 k) ++ Itm.num 2 wt) ++ Itm.num 3 t) 4 b hW5a.out HB5a.out (by omega) (by omega) (by simp only [List.length_append]; have := hl1.out; have := hl2.out; have := hl3.out; omega)).mono ?_
 rintro e w6 ⟨⟨v6, rfl⟩, hW6, hK6, HB6⟩
 have hz6 := hK6.1
 have hk6 := Aside0.mk (blk_kept hk5.out hK6 (fun h_ => by rcases h_ with (((h_ | h_) | h_) | h_) | h_; (have := h_.2; omega); omega; omega; omega; omega))
 have hK6a := Aside0.mk (Kept.then_ hK5a.out hK6 (fun k_ h_ => by rcases h_ with (((h_ | h_) | h_) | h_) | h_; exact Or.inl (Or.inl h_.1); exact Or.inr (by omega); exact Or.inr (by omega); exact Or.inr (by omega); exact Or.inl (Or.inr h_)))
 have hW6a := Aside0.mk hW6; have HB6a := Aside0.mk HB6
 clear hW6 hK6 HB6 hW5a HB5a hK5a hk5 z5
 go_wp2
 go_end0
 refine ⟨⟨_, rfl⟩, ?_, hK6a.out, HB6a.out⟩
 have h7 := Itm.W_mono (ok' := fun k => ok k ∨ W1.heap.size ≤ k) hW6a.out (fun k_ h_ => by rcases h_ with (((h_ | h_) | h_) | h_) | h_; exact Or.inl h_.1; exact Or.inr (by omega); exact Or.inr (by omega); exact Or.inr (by omega); exact Or.inr (by omega)) hgo
 unfold Itm.logL
 simp only [← List.append_assoc]
 exact h7
end Go.Proofs.Ytfapckmobeppnaa.Px
