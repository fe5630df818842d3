/- Bytes that are bent; the document's Sum and Frame. No program in sight. -/
import Derived.Test.YtiheghnojmfmfaaFrmF
import Derived.Test.YtiheghnojmfmfaaPx18
namespace Go.Proofs.Ytiheghnojmfmfaa.Px
open Go.RowKit Go.Proofs.YtiheghnojmfmfaaW.PrintWords Go.Proofs.YtiheghnojmfmfaaW.PrintLast Go.Proofs.YtiheghnojmfmfaaW.PrintMore
set_option linter.unusedVariables false
set_option linter.unusedSimpArgs false

theorem u16_wf {x : Int} (h : (Lit.int .u16 x).wf = true) : 0 ≤ x ∧ x < 65536 := by
  simp only [Lit.wf, IntKind.min, IntKind.max, IntKind.signed, IntKind.bits, Bool.and_eq_true, decide_eq_true_eq] at h
  simp at h; omega

theorem xor_u8_nat (a b : Nat) (ha : a < 256) (hb : b < 256) : Go.bits .xor .u8 (a : Int) (b : Int) = ((a ^^^ b : Nat) : Int) := by
  have ha' : a % 2 ^ 8 = a := Nat.mod_eq_of_lt ha
  have hb' : b % 2 ^ 8 = b := Nat.mod_eq_of_lt hb
  simp only [Go.bits, IntKind.bits]
  rw [BitVec.ofInt_natCast, BitVec.ofInt_natCast]
  show IntKind.u8.wrap ((BitVec.ofNat 8 a ^^^ BitVec.ofNat 8 b).toNat : Int) = _
  rw [BitVec.toNat_xor, BitVec.toNat_ofNat, BitVec.toNat_ofNat, ha', hb', IntKind.wrap_u8]
  have : a ^^^ b < 256 := Nat.xor_lt_two_pow (n := 8) ha hb
  omega
theorem xor_u8 {x v : Int} (hx : 0 ≤ x ∧ x ≤ 255) (hv : 0 ≤ v ∧ v ≤ 255) (h0 : v ≠ 0) : (0 ≤ Go.bits .xor .u8 x v ∧ Go.bits .xor .u8 x v ≤ 255) ∧ Go.bits .xor .u8 x v ≠ x := by
  obtain ⟨a, rfl⟩ : ∃ a : Nat, x = (a : Int) := ⟨x.toNat, by omega⟩
  obtain ⟨b, rfl⟩ : ∃ b : Nat, v = (b : Int) := ⟨v.toNat, by omega⟩
  rw [xor_u8_nat a b (by omega) (by omega)]
  have : a ^^^ b < 256 := Nat.xor_lt_two_pow (n := 8) (by omega) (by omega)
  refine ⟨⟨by omega, by omega⟩, fun h => ?_⟩
  have h2 : a ^^^ b = a ^^^ 0 := by rw [Nat.xor_zero]; omega
  have := xor_cancel_left h2
  omega
theorem bytesP.set {l : List Int} (hl : bytesP l) (k : Nat) {y : Int} (hy : 0 ≤ y ∧ y ≤ 255) : bytesP (l.set k y) := fun x hx => by
  rcases List.mem_or_eq_of_mem_set hx with h | h
  · exact hl x h
  · exact h ▸ hy

/-- a frame of which a byte behind its length is another one -/
theorem takeR_bent (hd l rest : List Int) (hn : l.length ≤ 4096) (h1 : bytesP hd) (h2 : bytesP l) (h4 : bytesP rest) (hl : hd.length + rest.length ≤ 140737488350000)
    (i : Nat) (hi : (putL l.length).length ≤ i) (hi2 : i < (frameL l).length) (y : Int) (hy : 0 ≤ y ∧ y ≤ 255) (hne : y ≠ (frameL l)[i]) :
    takeR (hd ++ ((frameL l).set i y ++ rest)) (hd.length : Int) = ([], 0, 30) := by
  have hf := frameL_len l
  have hs := sumL_lt l h2
  have e1 : (frameL l).set i y = putL l.length ++ ((fourL (sumL l) ++ l).set (i - (putL l.length).length) y) := by
    rw [frameL, List.set_append, if_neg (by omega)]
  have hg : (frameL l)[i] = (fourL (sumL l) ++ l)[i - (putL l.length).length]'(by rw [List.length_append, fourL_length]; omega) := by
    simp only [frameL]; rw [List.getElem_append_right hi]
  rw [e1]
  rw [hg] at hne
  by_cases hc : i - (putL l.length).length < 4
  · rw [List.set_append, if_pos (by rw [fourL_length]; exact hc)]
    have hne2 : y ≠ (fourL (sumL l))[i - (putL l.length).length]'(by rw [fourL_length]; exact hc) := by
      rw [List.getElem_append_left (by rw [fourL_length]; exact hc)] at hne; exact hne
    have h := takeR_put hd l ((fourL (sumL l)).set (i - (putL l.length).length) y) rest l.length hn rfl (by rw [List.length_set, fourL_length]) h1 h2 ((fourL_bytes _).set _ hy) h4 hl
    rw [if_neg] at h
    · rw [← h]; simp only [List.append_assoc]
    · intro he
      apply hne2
      have := congrArg (fun z : List Int => z[i - (putL l.length).length]?) he
      rw [List.getElem?_eq_getElem (by rw [fourL_length]; exact hc), List.getElem?_set_self (by rw [fourL_length]; exact hc)] at this
      simpa using this.symm
  · rw [List.set_append, if_neg (by rw [fourL_length]; omega), fourL_length]
    have hk : i - (putL l.length).length - 4 < l.length := by omega
    have hne2 : y ≠ l[i - (putL l.length).length - 4] := by
      rw [List.getElem_append_right (by rw [fourL_length]; omega)] at hne
      simpa [fourL_length] using hne
    have hb2 : bytesP (l.set (i - (putL l.length).length - 4) y) := h2.set _ hy
    have h := takeR_put hd (l.set (i - (putL l.length).length - 4) y) (fourL (sumL l)) rest l.length hn (by rw [List.length_set]) (fourL_length _) h1 hb2 (fourL_bytes _) h4 hl
    rw [if_neg] at h
    · rw [← h]; simp only [List.append_assoc]
    · intro he
      exact sumL_set l h2 _ hk y hy hne2 (fourL_inj (sumL_lt _ hb2) hs he)

/-! ### the document's answers -/
theorem refSum_l1 (l : List Int) (i : Nat) (m : Nat) : ∀ (k c j : Nat), c < 4294967296 → j + m = 8 →
    telemeterref02_Sum.l1 (k + m + 1) l (c : Int) (i : Int) (j : Int) = telemeterref02_Sum.l0 k l ((bitsC m c : Nat) : Int) (wrap64 ((i : Int) + 1)) := by
  induction m with
  | zero =>
    intro k c j hc hj
    rw [telemeterref02_Sum.l1, if_neg (by omega)]; rfl
  | succ m ih =>
    intro k c j hc hj
    have e1 : Int.tmod (c : Int) 2 = ((c % 2 : Nat) : Int) := by rw [Int.tmod_eq_emod_of_nonneg (by omega)]; omega
    have e2 : Int.tdiv (c : Int) 2 % 4294967296 = ((c / 2 : Nat) : Int) := by rw [Int.tdiv_eq_ediv_of_nonneg (by omega)]; omega
    rw [show k + (m + 1) + 1 = (k + m + 1) + 1 from rfl, telemeterref02_Sum.l1, if_pos (by omega), e1, e2, w64_succ j (by omega)]
    have hst := ih k (bitC c) (j + 1) (bitC_lt hc) (by omega)
    have hb : bitsC (m + 1) c = bitsC m (bitC c) := rfl
    rw [hb, ← hst]
    by_cases ho : c % 2 = 1
    · rw [if_pos (by omega), show (3988292384 : Int) = ((3988292384 : Nat) : Int) from rfl, bits_xor_nat _ _ (by omega) (by decide), bitC, if_pos ho]
    · rw [if_neg (by omega), bitC, if_neg ho]
theorem refSum_l0 (l : List Int) (hb : bytesP l) (hl : l.length ≤ 140737488355328) (d : Nat) : ∀ (k i c : Nat), c < 4294967296 → i + d = l.length → 10 * d < k →
    telemeterref02_Sum.l0 k l (c : Int) (i : Int) = some (((foldC c (l.drop i) ^^^ 4294967295 : Nat) : Int)) := by
  induction d with
  | zero =>
    intro k i c hc hi hk
    obtain ⟨k, rfl⟩ : ∃ m, k = m + 1 := ⟨k - 1, by omega⟩
    rw [telemeterref02_Sum.l0, if_neg (by omega), List.drop_eq_nil_of_le (by omega), show (4294967295 : Int) = ((4294967295 : Nat) : Int) from rfl, bits_xor_nat c _ hc (by decide)]
    rfl
  | succ d ih =>
    intro k i c hc hi hk
    obtain ⟨k, rfl⟩ : ∃ m, k = m + 8 + 1 + 1 := ⟨k - 10, by omega⟩
    have h1 : i < l.length := by omega
    have hx := hb l[i] (List.getElem_mem h1)
    rw [telemeterref02_Sum.l0, if_pos (by omega), if_pos (by omega), rd_eq l i h1]
    have e1 : l[i] % 4294967296 = ((l[i].toNat : Nat) : Int) := by omega
    rw [e1, bits_xor_nat c _ hc (by omega)]
    have hxc : c ^^^ l[i].toNat < 4294967296 := xor_lt hc (by omega)
    have h8 := refSum_l1 l i 8 k (c ^^^ l[i].toNat) 0 hxc rfl
    rw [show ((0 : Nat) : Int) = 0 from rfl] at h8
    rw [h8, w64_succ i (by omega), ih k (i + 1) _ (bitsC_lt 8 hxc) (by omega) (by omega), List.drop_eq_getElem_cons h1]
    rfl
theorem refSum_eq {l : List Int} (hb : bytesP l) (hl : l.length ≤ 140737488355328) (k : Nat) (hk : 10 * l.length < k) : telemeterref02_Sum.f k l = some ((sumL l : Nat) : Int) := by
  unfold telemeterref02_Sum.f
  have := refSum_l0 l hb hl l.length k 0 4294967295 (by decide) (by omega) hk
  rw [List.drop_zero] at this
  exact this
theorem refFour_eq (n : Nat) : telemeterref02_four.f (n : Int) = some (fourL n) := four_eq n
theorem refFrame_long {l : List Int} (h : 4096 < l.length) (k : Nat) : telemeterref02_Frame.f k l = some ([], 3) := by
  unfold telemeterref02_Frame.f; rw [if_pos (by omega)]
theorem refFrame_eq {l : List Int} (hb : bytesP l) (h : l.length ≤ 4096) (k : Nat) (hk : 50000 ≤ k) : telemeterref02_Frame.f k l = some (frameL l, 0) := by
  have h10 := putL_ten (n := l.length) (by omega)
  have hw : IntKind.u64.wrap (l.length : Int) = (l.length : Int) := wrap_u64_id (by omega) (by omega)
  unfold telemeterref02_Frame.f
  rw [if_neg (by omega), hw, refPut_eq (by omega) (by omega) k (by omega), Option.bind_some, Int.toNat_natCast, refSum_eq hb (by omega) k (by omega), Option.bind_some, refFour_eq, Option.bind_some,
    if_pos (by rw [fourL_length]; omega), Option.bind_some, if_pos (by rw [List.length_append, fourL_length]; omega), List.append_assoc]
  rfl

end Go.Proofs.Ytiheghnojmfmfaa.Px
