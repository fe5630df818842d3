/- frame.Scan over frames; the document's Take, Scan and Same. No program in sight. -/
import Derived.Test.YtiheghnojmfmfaaFrmS
import Derived.Test.YtiheghnojmfmfaaPx20
import Derived.Test.YtiheghnojmfmfaaPx19
import Derived.Test.YtiheghnojmfmfaaPx22
import Derived.Test.YtiheghnojmfmfaaPx23
import Derived.Test.YtiheghnojmfmfaaPx24
import Derived.Test.YtiheghnojmfmfaaRows
import Derived.WalkKit
import Derived.ProofKit
import Derived.OpenShut
import Derived.ShutString
import Derived.ChangeOld
import Derived.Below
import Derived.SizedLaws
import Derived.LaidMore
import Derived.Test.YtiheghnojmfmfaaPx25
import Derived.Test.YtiheghnojmfmfaaFrmK
import Derived.Test.YtiheghnojmfmfaaWSized
namespace Go.Proofs.Ytiheghnojmfmfaa.Px
open Go.RowKit Go.Proofs.YtiheghnojmfmfaaW.PrintWords Go.Proofs.YtiheghnojmfmfaaW.PrintLast Go.Proofs.YtiheghnojmfmfaaW.PrintMore
set_option linter.unusedVariables false
set_option linter.unusedSimpArgs false

def flatF (ls : List (List Int)) : List Int := (ls.map frameL).flatten
theorem flatF_cons (l : List Int) (ls : List (List Int)) : flatF (l :: ls) = frameL l ++ flatF ls := by simp [flatF]
theorem flatF_nil : flatF [] = [] := rfl
theorem flatF_snoc (ls : List (List Int)) (l : List Int) : flatF (ls ++ [l]) = flatF ls ++ frameL l := by simp [flatF]
theorem flatF_bytes (ls : List (List Int)) (h : ∀ l ∈ ls, bytesP l) : bytesP (flatF ls) := by
  induction ls with
  | nil => exact bytesP_nil
  | cons l ls ih => rw [flatF_cons]; exact (frameL_bytes (h l (by simp))).append (ih fun x hx => h x (by simp [hx]))

theorem scan_frames (rest : List Int) (hr : bytesP rest) (e : Int) (ls : List (List Int)) : ∀ (hd : List Int) (acc : List (List Int)) (k : Nat), bytesP hd → (∀ l ∈ ls, bytesP l ∧ l.length ≤ 4096) → 6 ≤ k →
    (hd ++ (flatF ls ++ rest)).length ≤ 140737488350000 → acc.length + ls.length < 5864062014805 →
    frame_Scan.l0 (k + ls.length) (hd ++ (flatF ls ++ rest)) acc (hd.length : Int) e = frame_Scan.l0 k (hd ++ (flatF ls ++ rest)) (acc ++ ls) ((hd ++ flatF ls).length : Int) e := by
  induction ls with
  | nil => intro hd acc k hh hl hk hlen hacc; simp [flatF_nil]
  | cons l ls ih =>
    intro hd acc k hh hl hk hlen hacc
    have hb := hl l (by simp)
    have hls : ∀ x ∈ ls, bytesP x ∧ x.length ≤ 4096 := fun x hx => hl x (by simp [hx])
    have hfl := frameL_len l
    have hfb := flatF_bytes ls (fun x hx => (hls x hx).1)
    rw [flatF_cons] at hlen ⊢
    have e1 : hd ++ (frameL l ++ flatF ls ++ rest) = hd ++ (frameL l ++ (flatF ls ++ rest)) := by simp only [List.append_assoc]
    have e2 : hd ++ (frameL l ++ (flatF ls ++ rest)) = (hd ++ frameL l) ++ (flatF ls ++ rest) := by simp only [List.append_assoc]
    rw [e1] at hlen ⊢
    have hlen2 := hlen
    simp only [List.length_append] at hlen2
    rw [show k + (l :: ls).length = (k + ls.length) + 1 from by simp only [List.length_cons]; omega, frame_Scan.l0, if_pos (by simp only [List.length_append]; omega),
      take_eq _ (hh.append ((frameL_bytes hb.1).append (hfb.append hr))) (by omega) _ _ (by omega), Option.bind_some,
      takeR_frame hd l (flatF ls ++ rest) hb.2 hh hb.1 (hfb.append hr) (by simp only [List.length_append]; omega), if_pos rfl, if_pos (by simp only [List.length_cons] at hacc; omega)]
    dsimp only
    rw [e2] at hlen ⊢
    have := ih (hd ++ frameL l) (acc ++ [l]) k (hh.append (frameL_bytes hb.1)) hls hk hlen (by simp only [List.length_append, List.length_cons, List.length_nil] at hacc ⊢; omega)
    rw [show (hd.length : Int) + ((frameL l).length : Int) = ((hd ++ frameL l).length : Int) from by simp only [List.length_append]; omega, this]
    simp only [List.append_assoc, List.singleton_append]

/-- a frame's proper beginning is too short -/
theorem takeR_short (hd l : List Int) (n : Nat) (hn : l.length ≤ 127) (h1 : bytesP hd) (h2 : bytesP l) (hl : hd.length ≤ 140737488340000) (h3 : 0 < n) (h4 : n < (frameL l).length) :
    takeR (hd ++ (frameL l).take n) (hd.length : Int) = ([], 0, 10) := by
  have hp : (putL l.length).length = 1 := by rw [putL_small (by omega)]; rfl
  have hfl := frameL_len l
  have e1 : (frameL l).take n = putL l.length ++ (fourL (sumL l) ++ l).take (n - 1) := by
    rw [frameL, List.take_append, List.take_of_length_le (by omega), hp]
  have hbt : bytesP ((fourL (sumL l) ++ l).take (n - 1)) := ((fourL_bytes _).append h2).take _
  have hlt : ((fourL (sumL l) ++ l).take (n - 1)).length = n - 1 := by
    rw [List.length_take, List.length_append, fourL_length]; omega
  have hg := get_put (n := l.length) (by omega) hd _ h1 hbt (by simp only [List.length_append]; omega)
  rw [e1]
  unfold takeR
  rw [hg]
  dsimp only
  rw [if_pos rfl, if_neg (by omega), if_pos (by simp only [List.length_append]; omega)]

end Go.Proofs.Ytiheghnojmfmfaa.Px

/- The document's Same comes to '=='. No program in sight. -/
namespace Go.Proofs.Ytiheghnojmfmfaa.Px
open Go.RowKit Go.Proofs.YtiheghnojmfmfaaW.PrintWords Go.Proofs.YtiheghnojmfmfaaW.PrintLast Go.Proofs.YtiheghnojmfmfaaW.PrintMore
set_option linter.unusedVariables false
set_option linter.unusedSimpArgs false

theorem rdL_eq (l : List (List Int)) (k : Nat) (h : k < l.length) : rd_L1 l (k : Int) = l[k] := by
  simp only [rd_L1, Int.toNat_natCast, List.getD_eq_getElem?_getD]
  rw [List.getElem?_eq_getElem h]; rfl
theorem same_l0 (a : List (List Int)) (hl : a.length ≤ 140737488355328) (d : Nat) : ∀ (k i : Nat), i + d = a.length → d < k →
    telemeterref02_Same.l0 k a a (i : Int) = some true := by
  induction d with
  | zero =>
    intro k i hi hk
    obtain ⟨k, rfl⟩ : ∃ m, k = m + 1 := ⟨k - 1, by omega⟩
    rw [telemeterref02_Same.l0, if_neg (by omega)]
  | succ d ih =>
    intro k i hi hk
    obtain ⟨k, rfl⟩ : ∃ m, k = m + 1 := ⟨k - 1, by omega⟩
    rw [telemeterref02_Same.l0, if_pos (by omega), if_pos (by omega), if_pos (by omega), if_pos rfl, w64_succ i (by omega)]
    exact ih k (i + 1) (by omega) (by omega)
theorem same_eq (a : List (List Int)) (hl : a.length ≤ 140737488355328) (k : Nat) (hk : a.length < k) : telemeterref02_Same.f k a a = some true := by
  unfold telemeterref02_Same.f
  rw [if_pos rfl]
  exact same_l0 a hl a.length k 0 (by omega) hk

end Go.Proofs.Ytiheghnojmfmfaa.Px

/- The document's Take and Scan come to the program's. No program in sight. -/
namespace Go.Proofs.Ytiheghnojmfmfaa.Px
open Go.RowKit Go.Proofs.YtiheghnojmfmfaaW.PrintWords Go.Proofs.YtiheghnojmfmfaaW.PrintLast Go.Proofs.YtiheghnojmfmfaaW.PrintMore
set_option linter.unusedVariables false
set_option linter.unusedSimpArgs false

theorem refTake_eq (l : List Int) (hb : bytesP l) (hl : l.length ≤ 140737488350000) (p : Int) (k : Nat) (hk : 50000 ≤ k) : telemeterref02_Take.f k l p = some (takeR l p) := by
  obtain ⟨n, q, e, hg, hc⟩ := get_total l hb (by omega) p
  unfold telemeterref02_Take.f takeR
  rw [refGet_eq l hb (by omega) p k (by omega), hg, Option.bind_some]
  dsimp only
  rcases hc with ⟨rfl, hn0, hn1, hp, hpq, hq, hd⟩ | ⟨rfl, rfl, he⟩
  · rw [if_pos rfl, if_pos rfl]
    by_cases h1 : 4096 < n
    · rw [if_pos h1, if_pos h1]
    · rw [if_neg h1, if_neg h1]
      have e1 : wrap64 n = n := wrap64_id (by omega) (by omega)
      have e2 : wrap64 (n + 4) = n + 4 := wrap64_id (by omega) (by omega)
      have e3 : wrap64 ((l.length : Int) - q) = (l.length : Int) - q := wrap64_id (by omega) (by omega)
      have e4 : wrap64 (q + 4) = q + 4 := wrap64_id (by omega) (by omega)
      have e5 : wrap64 (q + 4 + n) = q + 4 + n := wrap64_id (by omega) (by omega)
      rw [e1, e2, e3, e4, e5]
      by_cases h2 : (l.length : Int) < q + (4 + n)
      · rw [if_pos (by omega), if_pos h2]
      · rw [if_neg (by omega), if_neg h2, if_pos (by omega), if_pos (by omega), if_pos (by omega), cutL l (q + 4) n (by omega) hn0, cutL l q 4 (by omega) (by omega),
          show (q + 4).toNat = q.toNat + 4 from by omega, show (4 : Int).toNat = 4 from rfl, List.nil_append]
        have hbody : bytesP ((l.drop (q.toNat + 4)).take n.toNat) := (hb.drop _).take _
        have hchk : bytesP ((l.drop q.toNat).take 4) := (hb.drop _).take _
        have hlen : ((l.drop (q.toNat + 4)).take n.toNat).length ≤ 4096 := by rw [List.length_take]; omega
        rw [if_pos (by simp only [List.length_nil]; omega), Option.bind_some, refSum_eq hbody (by omega) k (by omega), Option.bind_some, refFour_eq, Option.bind_some, if_pos (by omega), if_pos (by omega), if_pos (by omega)]
        by_cases h3 : fourL (sumL ((l.drop (q.toNat + 4)).take n.toNat)) = (l.drop q.toNat).take 4
        · rw [if_pos (by rw [h3]), if_pos h3, show q + 4 + n = q + (4 + n) from by omega]
        · rw [if_neg h3, if_neg]
          intro h
          exact h3 (strOfNums_bytes (fourL_bytes _) hchk (by rw [← ByteArray.toList_eq, ← ByteArray.toList_eq]; exact h))
  · have : e ≠ 0 := by omega
    rw [if_neg this, if_neg this]

theorem takeR_next (l : List Int) (hb : bytesP l) (hl : l.length ≤ 140737488350000) (p : Int) :
    (takeR l p).2.2 = 0 ∧ p < (takeR l p).2.1 ∧ (takeR l p).2.1 ≤ (l.length : Int) ∨ (takeR l p).2.2 ≠ 0 ∧ 0 ≤ (takeR l p).2.2 ∧ (takeR l p).2.2 < 100 := by
  obtain ⟨n, q, e, hg, hc⟩ := get_total l hb (by omega) p
  unfold takeR
  rw [hg]
  dsimp only
  rcases hc with ⟨rfl, hn0, hn1, hp, hpq, hq, hd⟩ | ⟨rfl, rfl, he⟩
  · rw [if_pos rfl]
    by_cases h1 : 4096 < n
    · rw [if_pos h1]; exact .inr ⟨by decide, by decide, by decide⟩
    · rw [if_neg h1]
      by_cases h2 : (l.length : Int) < q + (4 + n)
      · rw [if_pos h2]; exact .inr ⟨by decide, by decide, by decide⟩
      · rw [if_neg h2]
        by_cases h3 : fourL (sumL ((l.drop (q.toNat + 4)).take n.toNat)) = (l.drop q.toNat).take 4
        · rw [if_pos h3]; exact .inl ⟨rfl, by dsimp only; omega, by dsimp only; omega⟩
        · rw [if_neg h3]; exact .inr ⟨by decide, by decide, by decide⟩
  · have : e ≠ 0 := by omega
    rw [if_neg this]
    exact .inr ⟨this, by dsimp only; omega, by dsimp only; omega⟩

theorem scans (l : List Int) (hb : bytesP l) (hl : l.length ≤ 1000000) (d : Nat) : ∀ (k K p : Nat) (acc : List (List Int)), l.length ≤ p + d → p ≤ l.length → d + 6 < k → d + 50000 < K → acc.length + d < 1000000000 →
    ∃ r t e, frame_Scan.l0 k l acc (p : Int) 0 = some (r, t, e) ∧ telemeterref02_Scan.l0 K l acc (p : Int) = some (r, t, e) ∧ 0 ≤ e ∧ e < 100 ∧ r.length ≤ acc.length + d := by
  induction d with
  | zero =>
    intro k K p acc hp hpl hk hK ha
    obtain ⟨k, rfl⟩ : ∃ m, k = m + 1 := ⟨k - 1, by omega⟩
    obtain ⟨K, rfl⟩ : ∃ m, K = m + 1 := ⟨K - 1, by omega⟩
    refine ⟨acc, p, 0, ?_, ?_, by decide, by decide, by omega⟩
    · rw [frame_Scan.l0, if_neg (by omega)]
    · rw [telemeterref02_Scan.l0, if_neg (by omega)]
  | succ d ih =>
    intro k K p acc hp hpl hk hK ha
    obtain ⟨k, rfl⟩ : ∃ m, k = m + 1 := ⟨k - 1, by omega⟩
    obtain ⟨K, rfl⟩ : ∃ m, K = m + 1 := ⟨K - 1, by omega⟩
    by_cases hlt : p < l.length
    · have hn := takeR_next l hb (by omega) (p : Int)
      rw [frame_Scan.l0, telemeterref02_Scan.l0, if_pos (by omega), if_pos (by omega), take_eq l hb (by omega) _ k (by omega), refTake_eq l hb (by omega) _ K (by omega), Option.bind_some, Option.bind_some]
      obtain ⟨⟨x, t, e⟩, hx⟩ : ∃ z, takeR l (p : Int) = z := ⟨_, rfl⟩
      rw [hx] at hn ⊢
      dsimp only at hn ⊢
      rcases hn with ⟨rfl, h1, h2⟩ | ⟨h0, h1, h2⟩
      · rw [if_pos rfl, if_pos rfl, if_pos (by omega), if_pos (by omega)]
        obtain ⟨t, rfl⟩ : ∃ m : Nat, t = (m : Int) := ⟨t.toNat, by omega⟩
        obtain ⟨r, u, e, g1, g2, g3, g4, g5⟩ := ih k K t (acc ++ [x]) (by omega) (by omega) (by omega) (by omega) (by rw [List.length_append, List.length_singleton]; omega)
        rw [List.length_append, List.length_singleton] at g5
        exact ⟨r, u, e, g1, g2, g3, g4, by omega⟩
      · rw [if_neg h0, if_neg h0]
        exact ⟨acc, p, e, rfl, rfl, h1, h2, by omega⟩
    · refine ⟨acc, p, 0, ?_, ?_, by decide, by decide, by omega⟩
      · rw [frame_Scan.l0, if_neg (by omega)]
      · rw [telemeterref02_Scan.l0, if_neg (by omega)]

theorem tells_eq (l : List Int) (hb : bytesP l) (hl : l.length ≤ 1000000) (p : Int) (k : Nat) (hk : 3000000 ≤ k) : telemeterlaw02_tells.f k l p = some true := by
  obtain ⟨r, t, e, g1, g2, g3, g4, g5⟩ := scans l hb hl l.length k k 0 [] (by omega) (by omega) (by omega) (by omega) (by rw [List.length_nil]; omega)
  rw [List.length_nil] at g5
  have hn := takeR_next l hb (by omega) p
  have hsc : frame_Scan.f k l = some (r, t, e) := g1
  have hsc2 : telemeterref02_Scan.f k l = some (r, t, e) := g2
  unfold telemeterlaw02_tells.f
  rw [take_eq l hb (by omega) p k (by omega), refTake_eq l hb (by omega) p k (by omega), Option.bind_some, Option.bind_some, hsc, hsc2, Option.bind_some, Option.bind_some]
  dsimp only
  have hw : wrap64 (takeR l p).2.2 = (takeR l p).2.2 := wrap64_id (by omega) (by omega)
  have hw2 : wrap64 e = e := wrap64_id (by omega) (by omega)
  rw [same_eq r (by omega) k (by omega), Option.bind_some, if_pos rfl, if_pos rfl, hw, if_pos rfl, if_pos rfl, if_pos rfl, hw2]
  simp

end Go.Proofs.Ytiheghnojmfmfaa.Px

/- A parameter of kind [][]byte: what a reading of it holds. -/
namespace Go.Proofs.Ytiheghnojmfmfaa.Px
open Go.ChangeShapes Go.WideShapes Go.ChangeAt Go.RowKit Go.Proofs.YtiheghnojmfmfaaW.PrintWords Go.Proofs.YtiheghnojmfmfaaW.PrintLast Go.Proofs.YtiheghnojmfmfaaW.PrintMore
set_option linter.unusedVariables false
set_option linter.unusedSimpArgs false

theorem rows_of {W : World} {a : Addr} {len : Nat} (key : ∀ i, i < len → ∃ y : List Int, ∃ A c, W.cell? (a.add i) = some (.slice A y.length c) ∧ y.length ≤ c ∧ (Kd.int .u8).C W A y.length y ∧ bytesP y) :
    ∀ m, m ≤ len → ∃ xs : List (List Int), xs.length = m ∧ (∀ j p, xs[j]? = some p → ∃ A c, W.cell? (a.add j) = some (.slice A p.length c) ∧ p.length ≤ c ∧ (Kd.int .u8).C W A p.length p) ∧ ∀ y ∈ xs, bytesP y := by
  intro m
  induction m with
  | zero => intro _; exact ⟨[], rfl, fun j p h => by simp at h, fun y hy => by cases hy⟩
  | succ m ih =>
    intro hm
    obtain ⟨xs, hl, hx, hb⟩ := ih (by omega)
    obtain ⟨y, A, c, h1, h2, h3, h4⟩ := key m (by omega)
    refine ⟨xs ++ [y], by rw [List.length_append, hl]; rfl, fun j p hj => ?_, fun z hz => ?_⟩
    · rcases Nat.lt_or_ge j xs.length with h | h
      · rw [List.getElem?_append_left h] at hj; exact hx j p hj
      · rw [List.getElem?_append_right h] at hj
        have hj0 : j - xs.length = 0 := by
          rcases Nat.eq_zero_or_pos (j - xs.length) with h' | h'
          · exact h'
          · rw [List.getElem?_eq_none (by simp; omega)] at hj; cases hj
        rw [hj0] at hj
        have hp : y = p := by simpa using hj
        subst hp
        obtain rfl : j = m := by omega
        exact ⟨A, c, h1, h2, h3⟩
    · rcases List.mem_append.1 hz with h | h
      · exact hb z h
      · rw [List.mem_singleton.1 h]; exact h4

theorem open_rows {H : Type} {enc : TypeId × Value → H} {W : World} {fuel : Nat} {a : Option Addr} {len cap : Nat} {x : DataW H × List MemPlace}
    (h : DataW.trod enc Try.prog W 0 (fun _ => true) true fuel 23 [.slice a len cap] = some x) :
    ∃ xs : List (List Int), xs.length = len ∧ Kd.C (Kd.slice 5 (Kd.int .u8)) W a len xs ∧ len ≤ cap ∧ cap ≤ maxLen ∧ ∀ y ∈ xs, bytesP y := by
  have hsz : Try.prog.cellsOf 22 = 1 := by kernel_rfl
  rcases DataW.trod_slice Try.underlying23 h with ⟨hcs, _⟩ | ⟨a', len', cap', elems, rest, n, _, hcs, hx, _, hl, hm, hlen, hel, _, _⟩
  · simp only [List.cons.injEq, Value.slice.injEq, and_true] at hcs
    obtain ⟨rfl, rfl, rfl⟩ := hcs
    exact ⟨[], rfl, ⟨rfl, by decide, fun h => absurd h (by decide)⟩, by decide, by decide, fun y hy => by cases hy⟩
  · simp only [List.cons.injEq, Value.slice.injEq, and_true] at hcs
    obtain ⟨rfl, rfl, rfl⟩ := hcs
    have key : ∀ i, i < len → ∃ y : List Int, ∃ A c, W.cell? (a'.add i) = some (.slice A y.length c) ∧ y.length ≤ c ∧ (Kd.int .u8).C W A y.length y ∧ bytesP y := by
      intro i hi
      have hE := hel i hi
      rw [hsz, Nat.mul_one] at hE
      cases hy : elems[i]? with
      | none => rw [List.getElem?_eq_none_iff] at hy; omega
      | some z =>
        rw [hy] at hE
        simp only [Option.bind_eq_some_iff] at hE
        obtain ⟨c1, hc1, hy1⟩ := hE
        have e0 : (a'.add i).add 0 = a'.add i := by simp [Addr.add]
        have : ∃ c, c1 = [c] ∧ W.cell? (a'.add i) = some c := by
          unfold World.cells? at hc1
          split at hc1
          · simp only [List.range_succ, List.range_zero, List.nil_append, List.mapM_cons, List.mapM_nil, e0] at hc1
            cases hcc : W.cell? (a'.add i) with
            | none => simp [hcc] at hc1
            | some c => simp [hcc] at hc1; exact ⟨c, hc1.symm, rfl⟩
          · cases hc1
        obtain ⟨c, rfl, hcell⟩ := this
        rcases open_ints Try.underlying22 Try.underlying5 (by kernel_rfl) hy1 with ⟨hcs, _⟩ | ⟨x, l, cc, zs, hcs, _, hl, hm, hz, _, hcl, hwz⟩
        · rw [List.cons.injEq] at hcs
          obtain ⟨rfl, _⟩ := hcs
          exact ⟨[], none, 0, hcell, by decide, Kd.C_nil _ _, bytesP_nil⟩
        · rw [List.cons.injEq] at hcs
          obtain ⟨rfl, _⟩ := hcs
          have hzl : zs.length = cc := by simpa using hz
          have htl : (zs.take l).length = l := by rw [List.length_take]; omega
          refine ⟨zs.take l, some x, cc, by rw [htl]; exact hcell, by rw [htl]; exact hl, ?_, fun y hy => u8_wf (hwz y (List.mem_of_mem_take hy))⟩
          have hmx : maxLen ≤ 9223372036854775807 := by decide
          refine Kd.C_of_reads (d := (0 : Int)) (h1 := fun _ => rfl) ⟨rfl, by rw [htl]; omega, fun _ => ⟨x, rfl, fun j hj => ?_⟩⟩
          rw [htl] at hj
          rw [hcl j (by omega), List.getD_eq_getElem?_getD, List.getD_eq_getElem?_getD, List.getElem?_take_of_lt hj]
    obtain ⟨xs, h1, h2, h3⟩ := rows_of key len (Nat.le_refl _)
    have hmx : maxLen ≤ 9223372036854775807 := by decide
    refine ⟨xs, h1, ⟨h1, by omega, fun _ => ⟨a', rfl, fun j p hj => ?_⟩⟩, hl, hm, h3⟩
    obtain ⟨A, c, g1, g2, g3⟩ := h2 j p hj
    refine ⟨[.slice A p.length c], rfl, ⟨A, c, rfl, g2, g3⟩, fun i u hu => ?_⟩
    cases i with
    | zero => simp only [List.getElem?_cons_zero, Option.some.injEq] at hu; subst hu; rw [Nat.add_zero]; show W.cell? (a'.add (j * 1)) = _; rw [Nat.mul_one]; exact g1
    | succ i => simp at hu

end Go.Proofs.Ytiheghnojmfmfaa.Px

/- The law FrameTakes holds of what the program computes. -/
namespace Go.Proofs.Ytiheghnojmfmfaa.Pure
set_option linter.unusedVariables false
set_option linter.unusedSimpArgs false
open Go.RowKit Go.Proofs.Ytiheghnojmfmfaa.Px Go.Proofs.YtiheghnojmfmfaaW.PrintWords Go.Proofs.YtiheghnojmfmfaaW.PrintLast Go.Proofs.YtiheghnojmfmfaaW.PrintMore

theorem takes_nums (L n c : Nat) (hL : 0 < L) (hL2 : L ≤ 1000) (hn : n < 65536) (hc : c < 65536) :
    wrap64 (n : Int) = (n : Int) ∧ wrap64 (c : Int) = (c : Int) ∧ Int.tmod (n : Int) (L : Int) = ((n % L : Nat) : Int) ∧ n % L < L ∧ mn (L : Int) 9 = ((min L 9 : Nat) : Int) ∧
      Int.tmod (c : Int) ((min L 9 : Nat) : Int) = ((c % min L 9 : Nat) : Int) ∧ c % min L 9 < min L 9 ∧ wrap64 ((L : Int) - ((c % min L 9 : Nat) : Int)) = ((L - c % min L 9 : Nat) : Int) ∧ 0 < min L 9 ∧ min L 9 ≤ L := by
  have hm : 0 < min L 9 := by omega
  have hm2 : min L 9 ≤ L := by omega
  have h1 : n % L < L := Nat.mod_lt _ hL
  have h2 : c % min L 9 < min L 9 := Nat.mod_lt _ hm
  refine ⟨wrap64_id (by omega) (by omega), wrap64_id (by omega) (by omega), ?_, h1, ?_, ?_, h2, ?_, hm, hm2⟩
  · rw [Int.tmod_eq_emod_of_nonneg (by omega)]; rfl
  · unfold mn; omega
  · rw [Int.tmod_eq_emod_of_nonneg (by omega)]; rfl
  · generalize c % min L 9 = m at *; rw [wrap64_id (by omega) (by omega)]; omega

theorem takes_end (b : List Int) (ls : List (List Int)) (at_ n c x : Int) (hb : bytesP b) (hbl : b.length ≤ 300) (hn : 0 ≤ n ∧ n < 65536) (hc : 0 ≤ c ∧ c < 65536) (hx : 0 ≤ x ∧ x ≤ 255) (acc : List Int) (ha : bytesP acc) (hal : acc.length ≤ 1000) (K : Nat) (hK : 3000000 ≤ K) :
    telemeterlaw02_FrameTakes.l0 (K + 1) b ls at_ n c x acc (ls.length : Int) = some true := by
  have hT : ∀ l : List Int, bytesP l → l.length ≤ 1000 → ∀ p, telemeterlaw02_tells.f K l p = some true := fun l h1 h2 p => tells_eq l h1 (by omega) p K hK
  clear hK
  have ht := hT b hb (by omega) at_
  obtain ⟨n, rfl⟩ : ∃ m : Nat, n = (m : Int) := ⟨n.toNat, by omega⟩
  obtain ⟨c, rfl⟩ : ∃ m : Nat, c = (m : Int) := ⟨c.toNat, by omega⟩
  rw [telemeterlaw02_FrameTakes.l0, if_neg (by omega)]
  by_cases h0 : (acc.length : Int) > 0
  · obtain ⟨e1, e2, e3, e4, e5, e6, e7, e8, e9, e10⟩ := takes_nums acc.length n c (by omega) (by omega) (by omega) (by omega)
    rw [if_pos h0, e1, e2, e3, e5, e6, e8]
    have hset : bytesP ((acc.set (n % acc.length) x).take (acc.length - c % min acc.length 9)) := (ha.set _ hx).take _
    have hsl : ((acc.set (n % acc.length) x).take (acc.length - c % min acc.length 9)).length = acc.length - c % min acc.length 9 := by rw [List.length_take, List.length_set]; omega
    clear e1 e2 e3 e5 e6 e8 hn hc hx hb hbl ha
    generalize n % acc.length = i at *
    generalize c % min acc.length 9 = j at *
    generalize min acc.length 9 = m at *
    rw [if_neg (by omega), if_pos (by omega), if_pos (by omega), if_neg (by omega), if_pos (by omega), if_pos (by omega), Int.toNat_natCast, Int.toNat_natCast, Option.bind_some, ht, Option.bind_some, if_pos rfl]
    have hw : wrap64 ((((acc.set i x).take (acc.length - j)).length : Int) + 1) = (((acc.set i x).take (acc.length - j)).length : Int) + 1 := wrap64_id (by omega) (by omega)
    rw [hw, if_neg (by omega), hT _ hset (by omega) _]
    rfl
  · rw [if_neg h0, ht, Option.bind_some, if_pos rfl]
    have hw : wrap64 ((acc.length : Int) + 1) = (acc.length : Int) + 1 := wrap64_id (by omega) (by omega)
    rw [hw, if_neg (by omega), hT _ ha (by omega) _]
    rfl

theorem takes_l0 (b : List Int) (ls : List (List Int)) (hls : ∀ l ∈ ls, bytesP l) (hl6 : ls.length ≤ 6) (at_ n c x : Int) (hb : bytesP b) (hbl : b.length ≤ 300) (hn : 0 ≤ n ∧ n < 65536) (hc : 0 ≤ c ∧ c < 65536) (hx : 0 ≤ x ∧ x ≤ 255) (d : Nat) :
    ∀ (K i : Nat) (acc : List Int), i + d = ls.length → 3000000 + d ≤ K → bytesP acc → acc.length ≤ 80 * i → telemeterlaw02_FrameTakes.l0 (K + 1) b ls at_ n c x acc (i : Int) = some true := by
  induction d with
  | zero =>
    intro K i acc hi hK ha hal
    obtain rfl : i = ls.length := by omega
    exact takes_end b ls at_ n c x hb hbl hn hc hx acc ha (by omega) K (by omega)
  | succ d ih =>
    intro K i acc hi hK ha hal
    have h1 : i < ls.length := by omega
    have hbi := hls ls[i] (List.getElem_mem h1)
    rw [telemeterlaw02_FrameTakes.l0, if_pos (by omega), if_pos (by omega), rdL_eq ls i h1]
    by_cases h60 : (ls[i].length : Int) > 60
    · rw [if_pos h60]
    · have hll := frameL_len ls[i]
      have h10 := putL_ten (n := ls[i].length) (by omega)
      rw [if_neg h60, refFrame_eq hbi (by omega) K (by omega), Option.bind_some]
      dsimp only
      rw [if_pos (by omega), w64_succ i (by omega)]
      obtain ⟨K, rfl⟩ : ∃ m, K = m + 1 := ⟨K - 1, by omega⟩
      exact ih K (i + 1) _ (by omega) (by omega) (ha.append (frameL_bytes hbi)) (by rw [List.length_append]; omega)

theorem FrameTakes (b : List Int) (ls : List (List Int)) (at_ n c x : Int) (hb : bytesP b) (hls : ∀ l ∈ ls, bytesP l) (hn : (Lit.int .u16 n).wf = true) (hc : (Lit.int .u16 c).wf = true) (hx : (Lit.int .u8 x).wf = true) :
    telemeterlaw02_FrameTakes.f 4000001 b ls at_ n c x = some true := by
  unfold telemeterlaw02_FrameTakes.f
  by_cases h : (b.length : Int) > 300
  · rw [if_pos h, telemeterlaw02_FrameTakes.j0, if_pos rfl]; rfl
  · rw [if_neg h]
    by_cases h2 : (ls.length : Int) > 6
    · rw [if_pos h2, telemeterlaw02_FrameTakes.j0, if_pos rfl]; rfl
    · rw [if_neg h2, telemeterlaw02_known.f, Option.bind_some, telemeterlaw02_FrameTakes.j0, if_neg (by decide)]
      exact takes_l0 b ls hls (by omega) at_ n c x hb (by omega) (u16_wf hn) (u16_wf hc) (u8_wf hx) ls.length 3999999 0 [] (by omega) (by omega) bytesP_nil (by simp)

end Go.Proofs.Ytiheghnojmfmfaa.Pure

/- The row FrameTakes. -/
namespace Go.Proofs.Ytiheghnojmfmfaa.frameTakes
open Go.ChangeShapes Go.WideShapes Go.ChangeAt Go.RowKit
open Go.ChangeMaps (open_string shut_string)
set_option linter.unusedVariables false
theorem own : ownKnob Try.prog.godebug = none := by kernel_rfl
theorem laidOut : laidOutB Try.prog = true := by kernel_rfl
set_option maxRecDepth 100000 in
theorem lifted (os : Os) (started : os.Started) (H : Type) (enc : TypeId × Value → H) :
    ReturnsInHanded {} Try.checked os 12 .any (Rows.frameTakesSpec.pre6 enc Try.prog Try.f12 Rows.frameTakesRow.domain false) (Rows.frameTakesSpec.post enc Try.prog Try.f12 false true false false) := by
  refine returnsInHanded_of_change_sized (C := Try.checked) own started (by kernel_rfl) Try.func12
    (ChangeSpec.witness6 (enc := enc) (C := Try.checked) false ⟨#[], #[.slice none 0 0, .slice none 0 0, .int .i64 0, .int .u16 0, .int .u16 0, .int .u8 0], []⟩ 8 (by kernel_rfl) (by kernel_rfl) (by kernel_rfl) (by kernel_rfl)) ?_
  intro W base args ds gs before hval0 hW hcnd hsz0 _
  have hval : ∀ (j : Nat) t v, Try.f12.params[j]? = some t → args[j]? = some v → Value.okWide Try.prog W .any base t v := hval0
  have hW' := hW
  obtain ⟨p, q, hA0, hV, rfl, hfz, hnd⟩ := hW
  have hA : DataW.TrodAll enc Try.prog W 0 (fun _ => true) true Try.f12.params.toList args.toList ds p := hA0
  rw [Try.params12] at hA hval
  obtain ⟨v0, vs0, d0, ds0, p0, q0, hargs, rfl, rfl, h0, r0⟩ := trodAll_cons hA
  obtain ⟨v1, vs1, d1, ds1, p1, q1, rfl, rfl, rfl, h1, r1⟩ := trodAll_cons r0
  obtain ⟨v2, vs2, d2, ds2, p2, q2, rfl, rfl, rfl, h2, r2⟩ := trodAll_cons r1
  obtain ⟨v3, vs3, d3, ds3, p3, q3, rfl, rfl, rfl, h3, r3⟩ := trodAll_cons r2
  obtain ⟨v4, vs4, d4, ds4, p4, q4, rfl, rfl, rfl, h4, r4⟩ := trodAll_cons r3
  obtain ⟨v5, vs5, d5, ds5, p5, q5, rfl, rfl, rfl, h5, r5⟩ := trodAll_cons r4
  obtain ⟨rfl, rfl, rfl⟩ := trodAll_nil r5
  obtain rfl : args = #[v0, v1, v2, v3, v4, v5] := by cases args; simp_all
  obtain ⟨rfl, rfl⟩ := trodVars_none hV
  obtain ⟨b0, blen0, bcap0, rfl⟩ := okWide_slice Try.underlying22 (hval 0 22 v0 rfl rfl)
  have k0 := h0
  have lt0 : ∀ x ∈ p0, x.block < W.heap.size := by obtain ⟨m, hm⟩ := k0; exact DataW.trod_lt m _ _ _ hm
  obtain ⟨z0, hz0⟩ : ∃ zs, (b0 = none ∧ blen0 = 0 ∧ bcap0 = 0 ∧ zs = []) ∨ ∃ x, b0 = some x ∧ blen0 ≤ bcap0 ∧ bcap0 ≤ maxLen ∧ zs.length = bcap0 ∧ (∀ i, i < zs.length → W.cell? (x.add i) = some (.int .u8 (zs.getD i 0))) ∧ ∀ n ∈ zs, (Lit.int .u8 n).wf = true := by
    obtain ⟨fuel, hf⟩ := h0
    rcases open_ints Try.underlying22 Try.underlying5 (by kernel_rfl) hf with ⟨hcs, _⟩ | ⟨x, l, c, zs, hcs, _, hl, hm, hz, _, hcell, hwz⟩
    · simp [Value.cells] at hcs
      obtain ⟨rfl, rfl, rfl⟩ := hcs
      exact ⟨[], .inl ⟨rfl, rfl, rfl, rfl⟩⟩
    · simp [Value.cells] at hcs
      obtain ⟨rfl, rfl, rfl⟩ := hcs
      exact ⟨zs, .inr ⟨_, rfl, hl, hm, by simpa using hz, hcell, hwz⟩⟩
  obtain ⟨l0, rfl, hr0, hm0, hw0, hc0⟩ := Go.Proofs.YtiheghnojmfmfaaW.PrintWords.ReadsInt.ofRowC hz0
  obtain ⟨a0, len0, cap0, rfl⟩ := okWide_slice Try.underlying23 (hval 1 23 v1 rfl rfl)
  have k1 := h1
  have lt1 : ∀ x ∈ p1, x.block < W.heap.size := by obtain ⟨m, hm⟩ := k1; exact DataW.trod_lt m _ _ _ hm
  obtain ⟨xs, rfl, w0, c0, cm0, hb0⟩ : ∃ xs : List (List Int), xs.length = len0 ∧ Go.Proofs.YtiheghnojmfmfaaW.PrintWords.Kd.C (Go.Proofs.YtiheghnojmfmfaaW.PrintWords.Kd.slice 5 (Go.Proofs.YtiheghnojmfmfaaW.PrintWords.Kd.int .u8)) W a0 len0 xs ∧ len0 ≤ cap0 ∧ cap0 ≤ maxLen ∧ ∀ y ∈ xs, Px.bytesP y := by
    obtain ⟨fuel, hf⟩ := h1
    exact Px.open_rows hf
  obtain ⟨a2, rfl, rfl, rfl, w2⟩ := open_int Try.underlying3 (hval 2 3 v2 rfl rfl) h2
  obtain ⟨a3, rfl, rfl, rfl, w3⟩ := open_int Try.underlying24 (hval 3 24 v3 rfl rfl) h3
  obtain ⟨a4, rfl, rfl, rfl, w4⟩ := open_int Try.underlying24 (hval 4 24 v4 rfl rfl) h4
  obtain ⟨a5, rfl, rfl, rfl, w5⟩ := open_int Try.underlying5 (hval 5 5 v5 rfl rfl) h5
  clear hA0 hval0 hsz0
  refine (Px.telemeterlaw02_FrameTakes.calls 4000001 b0 bcap0 l0 a0 cap0 xs a2 a3 a4 a5 true W (Go.Proofs.YtiheghnojmfmfaaW.PrintWords.Kd.C_of_reads (d := (0 : Int)) (h1 := fun _ => rfl) hr0) hc0 w0 c0 (Pure.FrameTakes l0 xs a2 a3 a4 a5 (Px.bytesP_of_wf hw0) hb0 w3 w4 w5)).mono fun e W' ⟨he, bel⟩ => ?_
  subst he
  exact ⟨_, rfl, _, _, _, [], _, [], hW', trodAll_mk1 (shut_bool Try.underlying4 _), (trodAll_cons_mk (Below.trod laidOut (by kernel_rfl) (of_decide_eq_true (by kernel_rfl)) k0 bel lt0) (trodAll_cons_mk (Below.trod laidOut (by kernel_rfl) (of_decide_eq_true (by kernel_rfl)) k1 bel lt1) (trodAll_cons_mk (shut_int Try.underlying3 w2) (trodAll_cons_mk (shut_int Try.underlying24 w3) (trodAll_cons_mk (shut_int Try.underlying24 w4) (trodAll_cons_mk (shut_int Try.underlying5 w5) trodAll_mk0)))))), rfl, bel.frame _, fun h => by cases h⟩
theorem over : Rows.frameTakesRow.holds Try.pinned (OpenSpec.ofChange Rows.frameTakesSpec) :=
  OpenClaim.holds_of_wide 12 Try.f12 rfl rfl rfl rfl rfl rfl rfl ⟨rfl, rfl, rfl, rfl, rfl⟩ rfl rfl rfl rfl rfl (by kernel_rfl) Try.func12 (by kernel_rfl)
    (of_decide_eq_true (by kernel_rfl)) (by unfold Func.isWrapper; first | (rw [if_pos (by decide +kernel)]; kernel_rfl) | (rw [if_neg (by decide +kernel)]; exact ⟨rfl, rfl⟩))
    (fun os started H enc _ => lifted os started H enc)
theorem proved : Rows.FrameTakesSaid := over
#print axioms proved
end Go.Proofs.Ytiheghnojmfmfaa.frameTakes
namespace Go.Proofs.Ytiheghnojmfmfaa
/-- The row, under a short name, for the claim. -/
theorem frameTakes_holds : Rows.FrameTakesSaid := frameTakes.proved
end Go.Proofs.Ytiheghnojmfmfaa
