/- The law GatherSplits holds of what the program computes: Split of any bytes, and of a batch's that are bent in one byte, is what the chapter says. No condition beyond the row's own. -/
import Derived.Test.YtiheghnojmfmfaaPx21
import Derived.Test.YtiheghnojmfmfaaGthK
namespace Go.Proofs.Ytiheghnojmfmfaa.Px
open Go.RowKit Go.Proofs.YtiheghnojmfmfaaW.PrintWords Go.Proofs.YtiheghnojmfmfaaW.PrintLast Go.Proofs.YtiheghnojmfmfaaW.PrintMore
set_option linter.unusedVariables false
set_option linter.unusedSimpArgs false

theorem Gth.u16_wf {x : Int} (h : (Lit.int .u16 x).wf = true) : 0 ≤ x ∧ x < 65536 := by
  simp only [Lit.wf, IntKind.min, IntKind.max, IntKind.signed, IntKind.bits, Bool.and_eq_true, decide_eq_true_eq] at h
  simp at h; omega

theorem Gth.refPutText (s : ByteArray) (h : s.size ≤ 1500) (k : Nat) (hk : 10 ≤ k) : telemeterref01_PutText.f k s = some (putL s.size ++ bytesOf s) := by
  have h10 := putL_ten (n := s.size) (by omega)
  unfold telemeterref01_PutText.f
  rw [wrap_u64_id (by omega) (by omega), refPut_eq (by omega) (by omega) k hk]
  simp only [Option.bind_some, Int.toNat_natCast]
  rw [if_pos (by omega)]
theorem Gth.refPutText' (l : List Int) (h : l.length ≤ 60) (k : Nat) (hk : 10 ≤ k) : telemeterref01_PutText.f k (strOfNums l) = some (Gth.txt l) := by
  rw [Gth.refPutText _ (by rw [Gth.strOfNums_size]; omega) k hk, Gth.strOfNums_size]
  rfl
theorem Gth.txt_len60 (l : List Int) (h : l.length ≤ 60) : (Gth.txt l).length = 1 + l.length := by
  unfold Gth.txt
  have h1 : (putL l.length).length = 1 := by rw [putL_small (by omega)]; rfl
  rw [List.length_append, h1, bytesOf_length, Gth.strOfNums_size]
theorem Gth.flat_len (ls : List (List Int)) (h : ∀ l ∈ ls, l.length ≤ 60) : (ls.flatMap Gth.txt).length ≤ 61 * ls.length := by
  induction ls with
  | nil => simp
  | cons e r ih =>
    have h1 := ih (fun x hx => h x (List.mem_cons_of_mem _ hx))
    have h2 := Gth.txt_len60 e (h e List.mem_cons_self)
    have h3 := h e List.mem_cons_self
    rw [List.flatMap_cons, List.length_append, List.length_cons]
    omega
theorem Gth.rdL1_eq (l : List (List Int)) (k : Nat) (h : k < l.length) : rd_L1 l (k : Int) = l[k] := by
  simp only [rd_L1, Int.toNat_natCast, List.getD_eq_getElem?_getD]
  rw [List.getElem?_eq_getElem h]; rfl
theorem Gth.refBatch_l0 (ls : List (List Int)) (hl : ls.length ≤ 20) (h : ∀ l ∈ ls, l.length ≤ 60) (d : Nat) : ∀ (k i : Nat) (acc : List Int), i + d = ls.length → d + 20 < k → acc.length ≤ 10 + 61 * i →
    telemeterref16_Batch.l0 k ls acc (i : Int) = some (acc ++ (ls.drop i).flatMap Gth.txt) := by
  induction d with
  | zero =>
    intro k i acc hi hk hacc
    obtain ⟨k, rfl⟩ : ∃ m, k = m + 1 := ⟨k - 1, by omega⟩
    rw [telemeterref16_Batch.l0, if_neg (by omega), List.drop_eq_nil_of_le (by omega)]
    simp
  | succ d ih =>
    intro k i acc hi hk hacc
    obtain ⟨k, rfl⟩ : ∃ m, k = m + 1 := ⟨k - 1, by omega⟩
    have hil : i < ls.length := by omega
    have hm := h _ (List.getElem_mem hil)
    have ht := Gth.txt_len60 _ hm
    rw [telemeterref16_Batch.l0, if_pos (by omega), if_pos (by omega), Gth.rdL1_eq ls i hil, Gth.refPutText' _ hm k (by omega), Option.bind_some, if_pos (by omega), w64_succ i (by omega)]
    rw [ih k (i + 1) _ (by omega) (by omega) (by rw [List.length_append]; omega), List.append_assoc]
    congr 2
    rw [List.drop_eq_getElem_cons hil, List.flatMap_cons]
theorem Gth.refBatch_eq (ls : List (List Int)) (hl : ls.length ≤ 20) (h : ∀ l ∈ ls, l.length ≤ 60) (k : Nat) (hk : 60 ≤ k) : telemeterref16_Batch.f k ls = some (Gth.batch ls) := by
  unfold telemeterref16_Batch.f
  rw [wrap_u64_id (by omega) (by omega), refPut_eq (by omega) (by omega) k (by omega), Option.bind_some, Int.toNat_natCast]
  have h10 := putL_ten (n := ls.length) (by omega)
  have := Gth.refBatch_l0 ls hl h ls.length k 0 (putL ls.length) (by omega) (by omega) (by omega)
  simpa [Gth.batch] using this
theorem Gth.splits_l0 (l0 : List Int) (l1 : List (List Int)) (a2 a3 : Int) (a4 : Bool) (hb0 : bytesP l0) (hl0 : l0.length ≤ 300) (hl1 : l1.length ≤ 20) (hb1 : ∀ y ∈ l1, bytesP y) (h2 : 0 ≤ a2 ∧ a2 ≤ 65535) (h3 : 0 ≤ a3 ∧ a3 ≤ 255) (d : Nat) : ∀ (k i : Nat), i + d = l1.length → (∀ j : Nat, (hj : j < i) → (hl : j < l1.length) → l1[j].length ≤ 60) → d + 70 < k →
    telemeterlaw16_GatherSplits.l0 k l0 l1 a2 a3 a4 (i : Int) = some true := by
  induction d with
  | zero =>
    intro k i hi hall hk
    obtain ⟨k, rfl⟩ : ∃ m, k = m + 1 := ⟨k - 1, by omega⟩
    have h60 : ∀ l ∈ l1, l.length ≤ 60 := by
      intro l hl
      obtain ⟨j, hj, rfl⟩ := List.mem_iff_getElem.mp hl
      exact hall j (by omega) hj
    have hbb : bytesP (Gth.batch l1) := (putL_bytes _).append (Gth.flat_bytes l1 hb1)
    have hlen : (Gth.batch l1).length ≤ 1300 := by
      unfold Gth.batch; rw [List.length_append]
      have := Gth.flat_len l1 h60
      have := putL_ten (n := l1.length) (by omega)
      omega
    have hpos : 1 ≤ (Gth.batch l1).length := by
      unfold Gth.batch; rw [List.length_append, putL_small (by omega), List.length_singleton]; omega
    have hs0 := Gth.splits_f l0 (by omega) hb0
    have hw : wrap64 a2 = a2 := by unfold wrap64; omega
    have hm0 : 0 ≤ Int.tmod a2 ((Gth.batch l1).length : Int) := Int.tmod_nonneg _ h2.1
    have hm1 : Int.tmod a2 ((Gth.batch l1).length : Int) < ((Gth.batch l1).length : Int) := Int.tmod_lt_of_pos _ (by omega)
    have hset : bytesP ((Gth.batch l1).set (Int.tmod a2 ((Gth.batch l1).length : Int)).toNat a3) := by
      intro x hx
      rcases List.mem_or_eq_of_mem_set hx with h | h
      · exact hbb x h
      · rw [h]; exact h3
    rw [telemeterlaw16_GatherSplits.l0, if_neg (by omega), Gth.refBatch_eq l1 hl1 h60 k (by omega), Option.bind_some, if_neg (by omega), hw, if_pos hm0, if_pos hm1, Option.bind_some, hs0, Option.bind_some]
    cases a4 with
    | true =>
      rw [if_pos rfl, if_pos (by omega), if_pos rfl, Gth.splits_f _ (by rw [List.length_take, List.length_set]; omega) (hset.take _)]
      rfl
    | false =>
      rw [if_neg (by decide), Option.bind_some, if_pos rfl, Gth.splits_f _ (by rw [List.length_set]; omega) hset]
      rfl
  | succ d ih =>
    intro k i hi hall hk
    obtain ⟨k, rfl⟩ : ∃ m, k = m + 1 := ⟨k - 1, by omega⟩
    have hil : i < l1.length := by omega
    rw [telemeterlaw16_GatherSplits.l0, if_pos (by omega), if_pos (by omega), Gth.rdL1_eq l1 i hil]
    by_cases h60 : ((l1[i].length : Nat) : Int) > 60
    · rw [if_pos h60]
    · rw [if_neg h60, w64_succ i (by omega)]
      refine ih k (i + 1) (by omega) (fun j hj hl => ?_) (by omega)
      by_cases hji : j = i
      · subst hji; omega
      · exact hall j (by omega) hl
end Go.Proofs.Ytiheghnojmfmfaa.Px
namespace Go.Proofs.Ytiheghnojmfmfaa.Pure
open Go.RowKit Go.Proofs.Ytiheghnojmfmfaa.Px Go.Proofs.YtiheghnojmfmfaaW.PrintWords Go.Proofs.YtiheghnojmfmfaaW.PrintLast Go.Proofs.YtiheghnojmfmfaaW.PrintMore
theorem GatherSplits (l0 : List Int) (l1 : List (List Int)) (a2 a3 : Int) (a4 : Bool) (hb0 : bytesP l0) (hb1 : ∀ y ∈ l1, bytesP y) (w2 : (Lit.int .u16 a2).wf = true) (w3 : (Lit.int .u8 a3).wf = true) :
    telemeterlaw16_GatherSplits.f 200 l0 l1 a2 a3 a4 = some true := by
  have h3 := u8_wf w3
  have h2 : 0 ≤ a2 ∧ a2 ≤ 65535 := by have := Gth.u16_wf w2; omega
  have hk : telemeterlaw16_known.f = some true := rfl
  unfold telemeterlaw16_GatherSplits.f
  by_cases c0 : (l0.length : Int) > 300
  · rw [if_pos c0, telemeterlaw16_GatherSplits.j0, if_pos rfl, hk]; rfl
  · rw [if_neg c0]
    by_cases c1 : (l1.length : Int) > 20
    · rw [if_pos c1, telemeterlaw16_GatherSplits.j0, if_pos rfl, hk]; rfl
    · rw [if_neg c1, hk, Option.bind_some, telemeterlaw16_GatherSplits.j0, if_neg (by decide)]
      exact Gth.splits_l0 l0 l1 a2 a3 a4 hb0 (by omega) (by omega) hb1 h2 h3 l1.length 199 0 (by omega) (fun j hj => absurd hj (by omega)) (by omega)
end Go.Proofs.Ytiheghnojmfmfaa.Pure
