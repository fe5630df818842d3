/- frame.Scan over frames; the document's Take, Scan and Same. No program in sight. -/
import Derived.Test.YtiheghnojmfmfaaFrmS
import Derived.Test.YtiheghnojmfmfaaPx20
import Derived.Test.YtiheghnojmfmfaaPx26
import Derived.Test.YtiheghnojmfmfaaFrmK
namespace Go.Proofs.Ytiheghnojmfmfaa.Px
open Go.RowKit Go.Proofs.YtiheghnojmfmfaaW.PrintWords Go.Proofs.YtiheghnojmfmfaaW.PrintLast Go.Proofs.YtiheghnojmfmfaaW.PrintMore
set_option linter.unusedVariables false
set_option linter.unusedSimpArgs false

def flatF (ls : List (List Int)) : List Int := (ls.map frameL).flatten
theorem flatF_cons (l : List Int) (ls : List (List Int)) : flatF (l :: ls) = frameL l ++ flatF ls := by simp [flatF]
theorem flatF_nil : flatF [] = [] := rfl
theorem flatF_snoc (ls : List (List Int)) (l : List Int) : flatF (ls ++ [l]) = flatF ls ++ frameL l := by simp [flatF]
theorem flatF_bytes (ls : List (List Int)) (h : ∀ l ∈ ls, bytesP l) : bytesP (flatF ls) := by
  induction ls with
  | nil => exact bytesP_nil
  | cons l ls ih => rw [flatF_cons]; exact (frameL_bytes (h l (by simp))).append (ih fun x hx => h x (by simp [hx]))

theorem scan_frames (rest : List Int) (hr : bytesP rest) (e : Int) (ls : List (List Int)) : ∀ (hd : List Int) (acc : List (List Int)) (k : Nat), bytesP hd → (∀ l ∈ ls, bytesP l ∧ l.length ≤ 4096) → 6 ≤ k →
    (hd ++ (flatF ls ++ rest)).length ≤ 140737488350000 → acc.length + ls.length < 5864062014805 →
    frame_Scan.l0 (k + ls.length) (hd ++ (flatF ls ++ rest)) acc (hd.length : Int) e = frame_Scan.l0 k (hd ++ (flatF ls ++ rest)) (acc ++ ls) ((hd ++ flatF ls).length : Int) e := by
  induction ls with
  | nil => intro hd acc k hh hl hk hlen hacc; simp [flatF_nil]
  | cons l ls ih =>
    intro hd acc k hh hl hk hlen hacc
    have hb := hl l (by simp)
    have hls : ∀ x ∈ ls, bytesP x ∧ x.length ≤ 4096 := fun x hx => hl x (by simp [hx])
    have hfl := frameL_len l
    have hfb := flatF_bytes ls (fun x hx => (hls x hx).1)
    rw [flatF_cons] at hlen ⊢
    have e1 : hd ++ (frameL l ++ flatF ls ++ rest) = hd ++ (frameL l ++ (flatF ls ++ rest)) := by simp only [List.append_assoc]
    have e2 : hd ++ (frameL l ++ (flatF ls ++ rest)) = (hd ++ frameL l) ++ (flatF ls ++ rest) := by simp only [List.append_assoc]
    rw [e1] at hlen ⊢
    have hlen2 := hlen
    simp only [List.length_append] at hlen2
    rw [show k + (l :: ls).length = (k + ls.length) + 1 from by simp only [List.length_cons]; omega, frame_Scan.l0, if_pos (by simp only [List.length_append]; omega),
      take_eq _ (hh.append ((frameL_bytes hb.1).append (hfb.append hr))) (by omega) _ _ (by omega), Option.bind_some,
      takeR_frame hd l (flatF ls ++ rest) hb.2 hh hb.1 (hfb.append hr) (by simp only [List.length_append]; omega), if_pos rfl, if_pos (by simp only [List.length_cons] at hacc; omega)]
    dsimp only
    rw [e2] at hlen ⊢
    have := ih (hd ++ frameL l) (acc ++ [l]) k (hh.append (frameL_bytes hb.1)) hls hk hlen (by simp only [List.length_append, List.length_cons, List.length_nil] at hacc ⊢; omega)
    rw [show (hd.length : Int) + ((frameL l).length : Int) = ((hd ++ frameL l).length : Int) from by simp only [List.length_append]; omega, this]
    simp only [List.append_assoc, List.singleton_append]

/-- a frame's proper beginning is too short -/
theorem takeR_short (hd l : List Int) (n : Nat) (hn : l.length ≤ 127) (h1 : bytesP hd) (h2 : bytesP l) (hl : hd.length ≤ 140737488340000) (h3 : 0 < n) (h4 : n < (frameL l).length) :
    takeR (hd ++ (frameL l).take n) (hd.length : Int) = ([], 0, 10) := by
  have hp : (putL l.length).length = 1 := by rw [putL_small (by omega)]; rfl
  have hfl := frameL_len l
  have e1 : (frameL l).take n = putL l.length ++ (fourL (sumL l) ++ l).take (n - 1) := by
    rw [frameL, List.take_append, List.take_of_length_le (by omega), hp]
  have hbt : bytesP ((fourL (sumL l) ++ l).take (n - 1)) := ((fourL_bytes _).append h2).take _
  have hlt : ((fourL (sumL l) ++ l).take (n - 1)).length = n - 1 := by
    rw [List.length_take, List.length_append, fourL_length]; omega
  have hg := get_put (n := l.length) (by omega) hd _ h1 hbt (by simp only [List.length_append]; omega)
  rw [e1]
  unfold takeR
  rw [hg]
  dsimp only
  rw [if_pos rfl, if_neg (by omega), if_pos (by simp only [List.length_append]; omega)]

end Go.Proofs.Ytiheghnojmfmfaa.Px

/- The law FrameStops holds of what the program computes. -/
namespace Go.Proofs.Ytiheghnojmfmfaa.Pure
set_option linter.unusedVariables false
set_option linter.unusedSimpArgs false
open Go.RowKit Go.Proofs.Ytiheghnojmfmfaa.Px Go.Proofs.YtiheghnojmfmfaaW.PrintWords Go.Proofs.YtiheghnojmfmfaaW.PrintLast Go.Proofs.YtiheghnojmfmfaaW.PrintMore

theorem stops_le (n p : Nat) (h : n ≤ 200) (hp : p ≤ 10) : p + (4 + n) ≤ 214 := by omega
theorem fl_le (a : List Int) (h : a.length ≤ 200) : (frameL a).length ≤ 214 := by
  rw [frameL_len]
  exact stops_le _ _ h (putL_ten (by omega))
theorem fl_b (b : List Int) (h : b.length ≤ 60) : (frameL b).length = b.length + 5 := by
  rw [frameL_len, putL_small (by omega), List.length_singleton]
  omega
theorem stops_ar (A B C lb : Nat) (hA : A ≤ 214) (hB : B = lb + 5) (hlb : lb ≤ 60) (hC : C ≤ 214) : (B : Int) = wrap64 ((lb : Int) + 5) ∧ wrap64 ((B : Int) - 1) = ((B - 1 : Nat) : Int) ∧ 0 ≤ ((B - 1 : Nat) : Int) ∧ ((B - 1 : Nat) : Int) < (B : Int) ∧ B - 1 < B ∧ 1 ≤ B - 1 ∧ 0 + A < 140737488355328 ∧ A + B < 140737488355328 ∧ A + B + C < 140737488355328 ∧ B ≤ 65 := by
  have e1 : wrap64 ((lb : Int) + 5) = (lb : Int) + 5 := wrap64_id (by omega) (by omega)
  have e2 : wrap64 ((B : Int) - 1) = (B : Int) - 1 := wrap64_id (by omega) (by omega)
  rw [e1, e2]
  omega

theorem stops_scan {a b c : List Int} (ha : bytesP a) (hb : bytesP b) (hc : bytesP c) (la : a.length ≤ 200) (lb : b.length ≤ 60) (lc : c.length ≤ 200) (i : Nat) (hi1 : 1 ≤ i) (hi : i < (frameL b).length) (y : Int) (hy : 0 ≤ y ∧ y ≤ 255) (hne : y ≠ (frameL b)[i]) :
    frame_Scan.f 20 (frameL a ++ (frameL b).set i y ++ frameL c) = some ([a], ((frameL a).length : Int), 30) := by
  have hla := fl_le a la
  have hlb := fl_b b lb
  have hlc := fl_le c lc
  have ht := takeR_bent (frameL a) b (frameL c) (by omega) (frameL_bytes ha) hb (frameL_bytes hc) (by clear hi hne; omega) i (by rw [putL_small (by omega), List.length_singleton]; exact hi1) hi y hy hne
  have hyb : bytesP ((frameL b).set i y) := (frameL_bytes hb).set _ hy
  have hbl : ((frameL b).set i y).length = (frameL b).length := List.length_set
  rw [hlb] at hbl
  clear hne hi hlb
  generalize (frameL b).set i y = B at *
  have hcb := frameL_bytes hc
  generalize frameL c = C at *
  have hab := frameL_bytes ha
  have hs := scan_frames (B ++ C) (hyb.append hcb) 0 [a] [] [] 19 bytesP_nil (by intro l hl; rw [List.mem_singleton.1 hl]; exact ⟨ha, by omega⟩) (by omega)
    (by simp only [List.nil_append, flatF_cons, flatF_nil, List.append_nil, List.length_append]; generalize frameL a = A at *; omega) (by simp)
  simp only [List.nil_append, flatF_cons, flatF_nil, List.append_nil] at hs
  rw [List.append_assoc]
  generalize frameL a = A at *
  have hlen : (A ++ (B ++ C)).length = A.length + (B.length + C.length) := by simp only [List.length_append]
  unfold frame_Scan.f
  rw [show frame_Scan.l0 20 (A ++ (B ++ C)) [] 0 0 = frame_Scan.l0 19 (A ++ (B ++ C)) [a] (A.length : Int) 0 from hs, frame_Scan.l0,
    if_pos (by rw [hlen]; omega), take_eq _ (hab.append (hyb.append hcb)) (by rw [hlen]; omega) _ _ (by omega), ht, Option.bind_some, if_neg (by decide)]

theorem FrameStops : telemeterlaw02_FrameStops.Pure := by
  intro a b c v _ hla hwa _ hlb hwb _ hlc hwc hv
  have ha := bytesP_of_wf hwa
  have hb := bytesP_of_wf hwb
  have hc := bytesP_of_wf hwc
  have hv := u8_wf hv
  refine ⟨21, ?_⟩
  unfold telemeterlaw02_FrameStops.f
  have ew1 : wrap64 ((a.length : Int) + (b.length : Int)) = (a.length : Int) + (b.length : Int) := wrap64_id (by omega) (by omega)
  have ew2 : wrap64 ((a.length : Int) + (b.length : Int) + (c.length : Int)) = (a.length : Int) + (b.length : Int) + (c.length : Int) := wrap64_id (by omega) (by omega)
  rw [ew1, ew2]
  clear ew1 ew2
  by_cases h0 : (a.length : Int) + (b.length : Int) + (c.length : Int) > 200
  · rw [if_pos h0, telemeterlaw02_FrameStops.j0, if_pos rfl]; rfl
  rw [if_neg h0]
  by_cases h1 : (b.length : Int) = 0
  · rw [if_pos h1, telemeterlaw02_FrameStops.j0, if_pos rfl]; rfl
  rw [if_neg h1]
  by_cases h2 : (b.length : Int) > 60
  · rw [if_pos h2, telemeterlaw02_FrameStops.j0, if_pos rfl]; rfl
  rw [if_neg h2]
  by_cases h3 : v = 0
  · rw [h3, telemeterlaw02_FrameStops.j0, if_pos (by decide)]; rfl
  have la : a.length ≤ 200 := by omega
  have lb : b.length ≤ 60 := by omega
  have lc : c.length ≤ 200 := by omega
  rw [show (v == 0) = false from beq_eq_false_iff_ne.2 h3, telemeterlaw02_FrameStops.j0, if_neg (by decide), frame_eq ha (by omega), Option.bind_some, frame_eq hb (by omega), Option.bind_some, frame_eq hc (by omega), Option.bind_some]
  clear hla hlb hlc h0 h1 h2 hwa hwb hwc
  obtain ⟨q1, q2, q3, q4, q5, q6, q7, q8, q9, q10⟩ := stops_ar (frameL a).length (frameL b).length (frameL c).length b.length (fl_le a la) (fl_b b lb) lb (fl_le c lc)
  have hx := xor_u8 (frameL_bytes hb _ (List.getElem_mem q5)) hv h3
  have hs := stops_scan ha hb hc la lb lc _ q6 q5 _ hx.1 hx.2
  clear hx
  dsimp only
  rw [← q1, if_pos rfl, q2, if_pos q3, if_pos q4, Option.bind_some, List.nil_append, if_pos (by rw [List.length_nil]; exact q7), Option.bind_some,
    if_pos (by rw [List.length_set]; exact q8), Option.bind_some, if_pos (by rw [List.length_append, List.length_set]; exact q9), rd_eq _ _ q5, Int.toNat_natCast, hs, Option.bind_some, telemeterlaw02_known.f, Option.bind_some, if_pos rfl]
  dsimp only
  rw [if_pos (by simp), if_pos (by simp), if_pos (show (strOfNums (rd_L1 [a] 0)).toList = (strOfNums a).toList from rfl)]
  first | rfl | (rw [if_pos rfl]; rfl)

end Go.Proofs.Ytiheghnojmfmfaa.Pure
