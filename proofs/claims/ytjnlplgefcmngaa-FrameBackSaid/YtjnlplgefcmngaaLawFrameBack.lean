/- frame.Scan over frames; the document's Take, Scan and Same. No program in sight. -/
import Derived.Test.YtjnlplgefcmngaaFrmS
import Derived.Test.YtjnlplgefcmngaaPx19
import Derived.Test.YtjnlplgefcmngaaPx20
import Derived.Test.YtjnlplgefcmngaaRows
import Derived.WalkKit
import Derived.ProofKit
import Derived.OpenShut
import Derived.ShutString
import Derived.ChangeOld
import Derived.Below
import Derived.SizedLaws
import Derived.LaidMore
import Derived.Test.YtjnlplgefcmngaaPx30
import Derived.Test.YtjnlplgefcmngaaFrmK
import Derived.Test.YtjnlplgefcmngaaWSized
namespace Go.Proofs.Ytjnlplgefcmngaa.Px
open Go.RowKit Go.Proofs.YtjnlplgefcmngaaW.PrintWords Go.Proofs.YtjnlplgefcmngaaW.PrintLast Go.Proofs.YtjnlplgefcmngaaW.PrintMore
set_option linter.unusedVariables false
set_option linter.unusedSimpArgs false

def flatF (ls : List (List Int)) : List Int := (ls.map frameL).flatten
theorem flatF_cons (l : List Int) (ls : List (List Int)) : flatF (l :: ls) = frameL l ++ flatF ls := by simp [flatF]
theorem flatF_nil : flatF [] = [] := rfl
theorem flatF_snoc (ls : List (List Int)) (l : List Int) : flatF (ls ++ [l]) = flatF ls ++ frameL l := by simp [flatF]
theorem flatF_bytes (ls : List (List Int)) (h : ∀ l ∈ ls, bytesP l) : bytesP (flatF ls) := by
  induction ls with
  | nil => exact bytesP_nil
  | cons l ls ih => rw [flatF_cons]; exact (frameL_bytes (h l (by simp))).append (ih fun x hx => h x (by simp [hx]))

theorem scan_frames (rest : List Int) (hr : bytesP rest) (e : Int) (ls : List (List Int)) : ∀ (hd : List Int) (acc : List (List Int)) (k : Nat), bytesP hd → (∀ l ∈ ls, bytesP l ∧ l.length ≤ 4096) → 6 ≤ k →
    (hd ++ (flatF ls ++ rest)).length ≤ 140737488350000 → acc.length + ls.length < 5864062014805 →
    frame_Scan.l0 (k + ls.length) (hd ++ (flatF ls ++ rest)) acc (hd.length : Int) e = frame_Scan.l0 k (hd ++ (flatF ls ++ rest)) (acc ++ ls) ((hd ++ flatF ls).length : Int) e := by
  induction ls with
  | nil => intro hd acc k hh hl hk hlen hacc; simp [flatF_nil]
  | cons l ls ih =>
    intro hd acc k hh hl hk hlen hacc
    have hb := hl l (by simp)
    have hls : ∀ x ∈ ls, bytesP x ∧ x.length ≤ 4096 := fun x hx => hl x (by simp [hx])
    have hfl := frameL_len l
    have hfb := flatF_bytes ls (fun x hx => (hls x hx).1)
    rw [flatF_cons] at hlen ⊢
    have e1 : hd ++ (frameL l ++ flatF ls ++ rest) = hd ++ (frameL l ++ (flatF ls ++ rest)) := by simp only [List.append_assoc]
    have e2 : hd ++ (frameL l ++ (flatF ls ++ rest)) = (hd ++ frameL l) ++ (flatF ls ++ rest) := by simp only [List.append_assoc]
    rw [e1] at hlen ⊢
    have hlen2 := hlen
    simp only [List.length_append] at hlen2
    rw [show k + (l :: ls).length = (k + ls.length) + 1 from by simp only [List.length_cons]; omega, frame_Scan.l0, if_pos (by simp only [List.length_append]; omega),
      take_eq _ (hh.append ((frameL_bytes hb.1).append (hfb.append hr))) (by omega) _ _ (by omega), Option.bind_some,
      takeR_frame hd l (flatF ls ++ rest) hb.2 hh hb.1 (hfb.append hr) (by simp only [List.length_append]; omega), if_pos rfl, if_pos (by simp only [List.length_cons] at hacc; omega)]
    dsimp only
    rw [e2] at hlen ⊢
    have := ih (hd ++ frameL l) (acc ++ [l]) k (hh.append (frameL_bytes hb.1)) hls hk hlen (by simp only [List.length_append, List.length_cons, List.length_nil] at hacc ⊢; omega)
    rw [show (hd.length : Int) + ((frameL l).length : Int) = ((hd ++ frameL l).length : Int) from by simp only [List.length_append]; omega, this]
    simp only [List.append_assoc, List.singleton_append]

/-- a frame's proper beginning is too short -/
theorem takeR_short (hd l : List Int) (n : Nat) (hn : l.length ≤ 127) (h1 : bytesP hd) (h2 : bytesP l) (hl : hd.length ≤ 140737488340000) (h3 : 0 < n) (h4 : n < (frameL l).length) :
    takeR (hd ++ (frameL l).take n) (hd.length : Int) = ([], 0, 10) := by
  have hp : (putL l.length).length = 1 := by rw [putL_small (by omega)]; rfl
  have hfl := frameL_len l
  have e1 : (frameL l).take n = putL l.length ++ (fourL (sumL l) ++ l).take (n - 1) := by
    rw [frameL, List.take_append, List.take_of_length_le (by omega), hp]
  have hbt : bytesP ((fourL (sumL l) ++ l).take (n - 1)) := ((fourL_bytes _).append h2).take _
  have hlt : ((fourL (sumL l) ++ l).take (n - 1)).length = n - 1 := by
    rw [List.length_take, List.length_append, fourL_length]; omega
  have hg := get_put (n := l.length) (by omega) hd _ h1 hbt (by simp only [List.length_append]; omega)
  rw [e1]
  unfold takeR
  rw [hg]
  dsimp only
  rw [if_pos rfl, if_neg (by omega), if_pos (by simp only [List.length_append]; omega)]

end Go.Proofs.Ytjnlplgefcmngaa.Px

/- The document's Same comes to '=='. No program in sight. -/
namespace Go.Proofs.Ytjnlplgefcmngaa.Px
open Go.RowKit Go.Proofs.YtjnlplgefcmngaaW.PrintWords Go.Proofs.YtjnlplgefcmngaaW.PrintLast Go.Proofs.YtjnlplgefcmngaaW.PrintMore
set_option linter.unusedVariables false
set_option linter.unusedSimpArgs false

theorem rdL_eq (l : List (List Int)) (k : Nat) (h : k < l.length) : rd_L1 l (k : Int) = l[k] := by
  simp only [rd_L1, Int.toNat_natCast, List.getD_eq_getElem?_getD]
  rw [List.getElem?_eq_getElem h]; rfl
theorem same_l0 (a : List (List Int)) (hl : a.length ≤ 140737488355328) (d : Nat) : ∀ (k i : Nat), i + d = a.length → d < k →
    telemeterref02_Same.l0 k a a (i : Int) = some true := by
  induction d with
  | zero =>
    intro k i hi hk
    obtain ⟨k, rfl⟩ : ∃ m, k = m + 1 := ⟨k - 1, by omega⟩
    rw [telemeterref02_Same.l0, if_neg (by omega)]
  | succ d ih =>
    intro k i hi hk
    obtain ⟨k, rfl⟩ : ∃ m, k = m + 1 := ⟨k - 1, by omega⟩
    rw [telemeterref02_Same.l0, if_pos (by omega), if_pos (by omega), if_pos (by omega), if_pos rfl, w64_succ i (by omega)]
    exact ih k (i + 1) (by omega) (by omega)
theorem same_eq (a : List (List Int)) (hl : a.length ≤ 140737488355328) (k : Nat) (hk : a.length < k) : telemeterref02_Same.f k a a = some true := by
  unfold telemeterref02_Same.f
  rw [if_pos rfl]
  exact same_l0 a hl a.length k 0 (by omega) hk

end Go.Proofs.Ytjnlplgefcmngaa.Px

/- A parameter of kind [][]byte: what a reading of it holds. -/
namespace Go.Proofs.Ytjnlplgefcmngaa.Px
open Go.ChangeShapes Go.WideShapes Go.ChangeAt Go.RowKit Go.Proofs.YtjnlplgefcmngaaW.PrintWords Go.Proofs.YtjnlplgefcmngaaW.PrintLast Go.Proofs.YtjnlplgefcmngaaW.PrintMore
set_option linter.unusedVariables false
set_option linter.unusedSimpArgs false

theorem rows_of {W : World} {a : Addr} {len : Nat} (key : ∀ i, i < len → ∃ y : List Int, ∃ A c, W.cell? (a.add i) = some (.slice A y.length c) ∧ y.length ≤ c ∧ (Kd.int .u8).C W A y.length y ∧ bytesP y) :
    ∀ m, m ≤ len → ∃ xs : List (List Int), xs.length = m ∧ (∀ j p, xs[j]? = some p → ∃ A c, W.cell? (a.add j) = some (.slice A p.length c) ∧ p.length ≤ c ∧ (Kd.int .u8).C W A p.length p) ∧ ∀ y ∈ xs, bytesP y := by
  intro m
  induction m with
  | zero => intro _; exact ⟨[], rfl, fun j p h => by simp at h, fun y hy => by cases hy⟩
  | succ m ih =>
    intro hm
    obtain ⟨xs, hl, hx, hb⟩ := ih (by omega)
    obtain ⟨y, A, c, h1, h2, h3, h4⟩ := key m (by omega)
    refine ⟨xs ++ [y], by rw [List.length_append, hl]; rfl, fun j p hj => ?_, fun z hz => ?_⟩
    · rcases Nat.lt_or_ge j xs.length with h | h
      · rw [List.getElem?_append_left h] at hj; exact hx j p hj
      · rw [List.getElem?_append_right h] at hj
        have hj0 : j - xs.length = 0 := by
          rcases Nat.eq_zero_or_pos (j - xs.length) with h' | h'
          · exact h'
          · rw [List.getElem?_eq_none (by simp; omega)] at hj; cases hj
        rw [hj0] at hj
        have hp : y = p := by simpa using hj
        subst hp
        obtain rfl : j = m := by omega
        exact ⟨A, c, h1, h2, h3⟩
    · rcases List.mem_append.1 hz with h | h
      · exact hb z h
      · rw [List.mem_singleton.1 h]; exact h4

theorem open_rows {H : Type} {enc : TypeId × Value → H} {W : World} {fuel : Nat} {a : Option Addr} {len cap : Nat} {x : DataW H × List MemPlace}
    (h : DataW.trod enc Try.prog W 0 (fun _ => true) true fuel 38 [.slice a len cap] = some x) :
    ∃ xs : List (List Int), xs.length = len ∧ Kd.C (Kd.slice 5 (Kd.int .u8)) W a len xs ∧ len ≤ cap ∧ cap ≤ maxLen ∧ ∀ y ∈ xs, bytesP y := by
  have hsz : Try.prog.cellsOf 23 = 1 := by kernel_rfl
  rcases DataW.trod_slice Try.underlying38 h with ⟨hcs, _⟩ | ⟨a', len', cap', elems, rest, n, _, hcs, hx, _, hl, hm, hlen, hel, _, _⟩
  · simp only [List.cons.injEq, Value.slice.injEq, and_true] at hcs
    obtain ⟨rfl, rfl, rfl⟩ := hcs
    exact ⟨[], rfl, ⟨rfl, by decide, fun h => absurd h (by decide)⟩, by decide, by decide, fun y hy => by cases hy⟩
  · simp only [List.cons.injEq, Value.slice.injEq, and_true] at hcs
    obtain ⟨rfl, rfl, rfl⟩ := hcs
    have key : ∀ i, i < len → ∃ y : List Int, ∃ A c, W.cell? (a'.add i) = some (.slice A y.length c) ∧ y.length ≤ c ∧ (Kd.int .u8).C W A y.length y ∧ bytesP y := by
      intro i hi
      have hE := hel i hi
      rw [hsz, Nat.mul_one] at hE
      cases hy : elems[i]? with
      | none => rw [List.getElem?_eq_none_iff] at hy; omega
      | some z =>
        rw [hy] at hE
        simp only [Option.bind_eq_some_iff] at hE
        obtain ⟨c1, hc1, hy1⟩ := hE
        have e0 : (a'.add i).add 0 = a'.add i := by simp [Addr.add]
        have : ∃ c, c1 = [c] ∧ W.cell? (a'.add i) = some c := by
          unfold World.cells? at hc1
          split at hc1
          · simp only [List.range_succ, List.range_zero, List.nil_append, List.mapM_cons, List.mapM_nil, e0] at hc1
            cases hcc : W.cell? (a'.add i) with
            | none => simp [hcc] at hc1
            | some c => simp [hcc] at hc1; exact ⟨c, hc1.symm, rfl⟩
          · cases hc1
        obtain ⟨c, rfl, hcell⟩ := this
        rcases open_ints Try.underlying23 Try.underlying5 (by kernel_rfl) hy1 with ⟨hcs, _⟩ | ⟨x, l, cc, zs, hcs, _, hl, hm, hz, _, hcl, hwz⟩
        · rw [List.cons.injEq] at hcs
          obtain ⟨rfl, _⟩ := hcs
          exact ⟨[], none, 0, hcell, by decide, Kd.C_nil _ _, bytesP_nil⟩
        · rw [List.cons.injEq] at hcs
          obtain ⟨rfl, _⟩ := hcs
          have hzl : zs.length = cc := by simpa using hz
          have htl : (zs.take l).length = l := by rw [List.length_take]; omega
          refine ⟨zs.take l, some x, cc, by rw [htl]; exact hcell, by rw [htl]; exact hl, ?_, fun y hy => u8_wf (hwz y (List.mem_of_mem_take hy))⟩
          have hmx : maxLen ≤ 9223372036854775807 := by decide
          refine Kd.C_of_reads (d := (0 : Int)) (h1 := fun _ => rfl) ⟨rfl, by rw [htl]; omega, fun _ => ⟨x, rfl, fun j hj => ?_⟩⟩
          rw [htl] at hj
          rw [hcl j (by omega), List.getD_eq_getElem?_getD, List.getD_eq_getElem?_getD, List.getElem?_take_of_lt hj]
    obtain ⟨xs, h1, h2, h3⟩ := rows_of key len (Nat.le_refl _)
    have hmx : maxLen ≤ 9223372036854775807 := by decide
    refine ⟨xs, h1, ⟨h1, by omega, fun _ => ⟨a', rfl, fun j p hj => ?_⟩⟩, hl, hm, h3⟩
    obtain ⟨A, c, g1, g2, g3⟩ := h2 j p hj
    refine ⟨[.slice A p.length c], rfl, ⟨A, c, rfl, g2, g3⟩, fun i u hu => ?_⟩
    cases i with
    | zero => simp only [List.getElem?_cons_zero, Option.some.injEq] at hu; subst hu; rw [Nat.add_zero]; show W.cell? (a'.add (j * 1)) = _; rw [Nat.mul_one]; exact g1
    | succ i => simp at hu

end Go.Proofs.Ytjnlplgefcmngaa.Px

/- The law FrameBack holds of what the program computes. -/
namespace Go.Proofs.Ytjnlplgefcmngaa.Pure
set_option linter.unusedVariables false
set_option linter.unusedSimpArgs false
open Go.RowKit Go.Proofs.Ytjnlplgefcmngaa.Px Go.Proofs.YtjnlplgefcmngaaW.PrintWords Go.Proofs.YtjnlplgefcmngaaW.PrintLast Go.Proofs.YtjnlplgefcmngaaW.PrintMore

theorem flatF_len (ls : List (List Int)) (h : ∀ l ∈ ls, l.length ≤ 60) : (flatF ls).length ≤ 65 * ls.length := by
  induction ls with
  | nil => exact Nat.le_refl _
  | cons l ls ih =>
    have h1 := h l (by simp)
    have h2 := ih fun x hx => h x (by simp [hx])
    have hp : (putL l.length).length = 1 := by rw [putL_small (by omega)]; rfl
    rw [flatF_cons, List.length_append, frameL_len, hp, List.length_cons]; omega

theorem back_nums (F G n N : Nat) (hG : 5 ≤ G) (hG2 : G ≤ 70) (hF : F ≤ 1000) (hN : N ≤ 8) (hn : n ≤ 255) :
    wrap64 (((F + G : Nat) : Int) - (F : Int)) = (G : Int) ∧ wrap64 (n : Int) = (n : Int) ∧ Int.tmod (n : Int) (G : Int) = ((n % G : Nat) : Int) ∧ wrap64 (1 + ((n % G : Nat) : Int)) = ((1 + n % G : Nat) : Int) ∧
      wrap64 (((F + G : Nat) : Int) - ((1 + n % G : Nat) : Int)) = ((F + (G - (1 + n % G)) : Nat) : Int) ∧ wrap64 (((N + 1 : Nat) : Int) - 1) = (N : Int) ∧ n % G < G := by
  have hlt : n % G < G := Nat.mod_lt _ (by omega)
  refine ⟨?_, ?_, ?_, ?_, ?_, ?_, hlt⟩
  · rw [wrap64_id (by omega) (by omega)]; omega
  · exact wrap64_id (by omega) (by omega)
  · rw [Int.tmod_eq_emod_of_nonneg (by omega)]; rfl
  · generalize n % G = m at *; rw [wrap64_id (by omega) (by omega)]; omega
  · generalize n % G = m at *; rw [wrap64_id (by omega) (by omega)]; omega
  · rw [wrap64_id (by omega) (by omega)]; omega

/-- the last frame, cut -/
theorem back_scan (init : List (List Int)) (l : List Int) (c k F G : Nat) (hF : (flatF init).length = F) (hG : (frameL l).length = G) (i46 : ∀ x ∈ init, bytesP x ∧ x.length ≤ 4096) (hlb : bytesP l) (hls : l.length ≤ 60)
    (hi : init.length ≤ 8) (hF2 : F ≤ 1000) (hc0 : 0 < c) (hc1 : c ≤ G) (hG2 : G ≤ 70) (hk : 50 ≤ k) :
    frame_Scan.f k (flatF init ++ (frameL l).take (G - c)) = some (init, (F : Int), if c = G then 0 else 10) := by
  have hib := flatF_bytes init (fun x hx => (i46 x hx).1)
  have hcut : bytesP ((frameL l).take (G - c)) := (frameL_bytes hlb).take _
  have hcl : ((frameL l).take (G - c)).length = G - c := by rw [List.length_take]; omega
  have hlen : (flatF init ++ (frameL l).take (G - c)).length = F + (G - c) := by rw [List.length_append, hF, hcl]
  have h := scan_frames ((frameL l).take (G - c)) hcut 0 init [] [] (k - init.length) bytesP_nil i46 (by omega) (by rw [List.nil_append, hlen]; omega) (by rw [List.length_nil]; omega)
  simp only [List.nil_append] at h
  rw [show k - init.length + init.length = k from by omega, hF] at h
  unfold frame_Scan.f
  rw [show frame_Scan.l0 k (flatF init ++ (frameL l).take (G - c)) [] 0 0 = frame_Scan.l0 (k - init.length) (flatF init ++ (frameL l).take (G - c)) init (F : Int) 0 from h]
  obtain ⟨j, hj⟩ : ∃ j, k - init.length = j + 1 := ⟨k - init.length - 1, by omega⟩
  rw [hj, frame_Scan.l0]
  by_cases hcc : c = G
  · rw [if_neg (by rw [hlen]; omega), if_pos hcc]
  · have ht := takeR_short (flatF init) l (G - c) (by omega) hib hlb (by omega) (by omega) (by omega)
    rw [hF] at ht
    rw [if_pos (by rw [hlen]; omega), take_eq _ (hib.append hcut) (by rw [hlen]; omega) _ _ (by omega), Option.bind_some, ht, if_neg (by decide), if_neg hcc]

theorem back_cut (init : List (List Int)) (l : List Int) (n k F G : Nat) (hn : n ≤ 255) (hF : (flatF init).length = F) (hG : (frameL l).length = G) (i46 : ∀ x ∈ init, bytesP x ∧ x.length ≤ 4096) (hlb : bytesP l) (hls : l.length ≤ 60)
    (hi : init.length ≤ 8) (hF2 : F ≤ 1000) (hG0 : 5 ≤ G) (hG2 : G ≤ 70) (hk : 50 ≤ k) :
    telemeterlaw02_FrameBack.j1 (k + 1) (init ++ [l]) (n : Int) (flatF init ++ frameL l) (F : Int) ((flatF init ++ frameL l).length : Int) 0 true false = some true := by
  obtain ⟨e1, e2, e3, e4, e5, e6, hlt⟩ := back_nums F G n init.length (by omega) (by omega) (by omega) (by omega) (by omega)
  have hlen : (flatF init ++ frameL l).length = F + G := by rw [List.length_append, hF, hG]
  have hli : (init ++ [l]).length = init.length + 1 := by rw [List.length_append]; rfl
  rw [telemeterlaw02_FrameBack.j1, if_neg (by decide), hlen, hli, e1, e2, e3, e4, e5, e6]
  have hc1 : 1 + n % G ≤ G := by clear e1 e2 e3 e4 e5 e6; omega
  have hc0 : 0 < 1 + n % G := by clear e1 e2 e3 e4 e5 e6; omega
  clear hlt
  generalize 1 + n % G = c at *
  have hs := back_scan init l c k F G hF hG i46 hlb hls hi hF2 hc0 hc1 hG2 hk
  clear e1 e2 e3 e4 e5 e6 i46 hlb
  rw [if_neg (by omega), if_pos (by omega), if_pos (by omega), Int.toNat_natCast, Int.toNat_natCast, List.take_append, hF, List.take_of_length_le (by omega), show F + (G - c) - F = G - c from by omega, hs, Option.bind_some]
  dsimp only
  rw [if_pos (by omega), if_pos (by omega), List.take_left' rfl, same_eq init (by omega) k (by omega), Option.bind_some, telemeterlaw02_known.f, Option.bind_some, if_pos rfl, if_pos rfl, if_pos rfl]
  by_cases hcc : c = G
  · rw [if_pos hcc, if_neg (by decide), if_pos (by omega)]; rfl
  · rw [if_neg hcc, if_pos rfl]

/-- what stands behind the loop -/
theorem back_end (ls : List (List Int)) (n : Int) (hn : 0 ≤ n ∧ n ≤ 255) (hb : ∀ l ∈ ls, bytesP l) (hs : ∀ l ∈ ls, l.length ≤ 60) (hl : ls.length ≤ 8) (k : Nat) (hk : 60 ≤ k) (at_ : Int) (hat : ∀ init l, ls = init ++ [l] → at_ = ((flatF init).length : Int)) :
    telemeterlaw02_FrameBack.l0 k ls n (flatF ls) at_ (ls.length : Int) = some true := by
  obtain ⟨k, rfl⟩ : ∃ m, k = m + 2 := ⟨k - 2, by omega⟩
  have hfl := flatF_len ls hs
  have h46 : ∀ l ∈ ls, bytesP l ∧ l.length ≤ 4096 := fun l h => ⟨hb l h, Nat.le_trans (hs l h) (by decide)⟩
  have hscan : frame_Scan.f (k + 1) (flatF ls) = some (ls, ((flatF ls).length : Int), 0) := by
    have h := scan_frames [] bytesP_nil 0 ls [] [] (k + 1 - ls.length) bytesP_nil h46 (by omega) (by simp only [List.nil_append, List.append_nil]; omega) (by simp only [List.length_nil]; omega)
    simp only [List.nil_append, List.append_nil] at h
    rw [show k + 1 - ls.length + ls.length = k + 1 from by omega] at h
    unfold frame_Scan.f
    rw [show frame_Scan.l0 (k + 1) (flatF ls) [] 0 0 = frame_Scan.l0 (k + 1 - ls.length) (flatF ls) ls ((flatF ls).length : Int) 0 from h]
    obtain ⟨j, hj⟩ : ∃ j, k + 1 - ls.length = j + 1 := ⟨k - ls.length, by omega⟩
    rw [hj, frame_Scan.l0, if_neg (by omega)]
  rw [telemeterlaw02_FrameBack.l0, if_neg (by omega), hscan, Option.bind_some]
  dsimp only
  rw [same_eq ls (by omega) (k + 1) (by omega), Option.bind_some, if_pos rfl, if_pos rfl, if_pos rfl]
  by_cases h0 : ls.length = 0
  · rw [show ((ls.length : Int) == 0) = true from beq_iff_eq.2 (by omega), telemeterlaw02_FrameBack.j1, if_pos rfl, telemeterlaw02_known.f, Option.bind_some, if_pos rfl, if_pos rfl, if_pos rfl]
    rfl
  · rw [show ((ls.length : Int) == 0) = false from beq_eq_false_iff_ne.2 (by omega)]
    obtain ⟨init, l, rfl⟩ : ∃ init l, ls = init ++ [l] := by
      rcases List.eq_nil_or_concat ls with h | ⟨i, l, h⟩
      · rw [h] at h0; exact absurd rfl h0
      · exact ⟨i, l, by rw [h, List.concat_eq_append]⟩
    obtain rfl := hat init l rfl
    have hlb := hb l (by simp)
    have hls := hs l (by simp)
    have hp : (putL l.length).length = 1 := by rw [putL_small (by omega)]; rfl
    have hll := frameL_len l
    have hli : (init ++ [l]).length = init.length + 1 := by rw [List.length_append]; rfl
    have i46 : ∀ x ∈ init, bytesP x ∧ x.length ≤ 4096 := fun x hx => h46 x (by simp [hx])
    have hF := flatF_len init (fun x hx => hs x (by simp [hx]))
    obtain ⟨n, rfl⟩ : ∃ m : Nat, n = (m : Int) := ⟨n.toNat, by omega⟩
    clear hscan h46 hat hfl hb hs
    rw [flatF_snoc]
    exact back_cut init l n k _ _ (by omega) rfl rfl i46 hlb hls (by omega) (by omega) (by omega) (by omega) (by omega)

theorem back_l0 (ls : List (List Int)) (n : Int) (hn : 0 ≤ n ∧ n ≤ 255) (hb : ∀ l ∈ ls, bytesP l) (hl : ls.length ≤ 8) (d : Nat) : ∀ (k i : Nat) (at_ : Int), i + d = ls.length → 60 + d ≤ k → (∀ l ∈ ls.take i, l.length ≤ 60) →
    (∀ init l, ls.take i = init ++ [l] → at_ = ((flatF init).length : Int)) →
    telemeterlaw02_FrameBack.l0 k ls n (flatF (ls.take i)) at_ (i : Int) = some true := by
  induction d with
  | zero =>
    intro k i at_ hi hk hs hat
    obtain rfl : i = ls.length := by omega
    rw [List.take_length] at *
    exact back_end ls n hn hb hs hl k (by omega) at_ hat
  | succ d ih =>
    intro k i at_ hi hk hs hat
    obtain ⟨k, rfl⟩ : ∃ m, k = m + 1 := ⟨k - 1, by omega⟩
    have h1 : i < ls.length := by omega
    have hbi := hb ls[i] (List.getElem_mem h1)
    have hfl := flatF_len (ls.take i) hs
    rw [List.length_take] at hfl
    rw [telemeterlaw02_FrameBack.l0, if_pos (by omega), if_pos (by omega), rdL_eq ls i h1]
    by_cases h60 : (ls[i].length : Int) > 60
    · rw [if_pos h60]; rfl
    · have hll := frameL_len ls[i]
      have h10 := putL_ten (n := ls[i].length) (by omega)
      rw [if_neg h60, frame_eq hbi (by omega), Option.bind_some]
      dsimp only
      rw [if_pos (by omega), w64_succ i (by omega)]
      have ht : ls.take (i + 1) = ls.take i ++ [ls[i]] := List.take_succ_eq_append_getElem h1
      have := ih k (i + 1) ((flatF (ls.take i)).length : Int) (by omega) (by omega) (by
        rw [ht]; intro l hm
        rcases List.mem_append.1 hm with h | h
        · exact hs l h
        · rw [List.mem_singleton.1 h]; omega) (by
        rw [ht]; intro init l he
        have := List.append_inj_left' he rfl
        rw [this])
      rw [ht, flatF_snoc] at this
      exact this

theorem FrameBack (ls : List (List Int)) (n : Int) (hn : (Lit.int .u8 n).wf = true) (hb : ∀ l ∈ ls, bytesP l) : telemeterlaw02_FrameBack.f 100 ls n = some true := by
  unfold telemeterlaw02_FrameBack.f
  by_cases h : (ls.length : Int) > 8
  · rw [if_pos h]; rfl
  · rw [if_neg h]
    exact back_l0 ls n (u8_wf hn) hb (by omega) ls.length 100 0 0 (by omega) (by omega) (by simp) (fun init l he => by simp at he)

end Go.Proofs.Ytjnlplgefcmngaa.Pure

/- The row FrameBack. -/
namespace Go.Proofs.Ytjnlplgefcmngaa.frameBack
open Go.ChangeShapes Go.WideShapes Go.ChangeAt Go.RowKit
open Go.ChangeMaps (open_string shut_string)
set_option linter.unusedVariables false
theorem own : ownKnob Try.prog.godebug = none := by kernel_rfl
theorem laidOut : laidOutB Try.prog = true := by kernel_rfl
set_option maxRecDepth 100000 in
theorem lifted (os : Os) (started : os.Started) (H : Type) (enc : TypeId × Value → H) :
    ReturnsInHanded {} Try.checked os 9 .any (Rows.frameBackSpec.pre6 enc Try.prog Try.f9 Rows.frameBackRow.domain false) (Rows.frameBackSpec.post enc Try.prog Try.f9 false true false false) := by
  refine returnsInHanded_of_change_sized (C := Try.checked) own started (by kernel_rfl) Try.func9
    (ChangeSpec.witness6 (enc := enc) (C := Try.checked) false ⟨#[], #[.slice none 0 0, .int .u8 0], []⟩ 8 (by kernel_rfl) (by kernel_rfl) (by kernel_rfl) (by kernel_rfl)) ?_
  intro W base args ds gs before hval0 hW hcnd hsz0 _
  have hval : ∀ (j : Nat) t v, Try.f9.params[j]? = some t → args[j]? = some v → Value.okWide Try.prog W .any base t v := hval0
  have hW' := hW
  obtain ⟨p, q, hA0, hV, rfl, hfz, hnd⟩ := hW
  have hA : DataW.TrodAll enc Try.prog W 0 (fun _ => true) true Try.f9.params.toList args.toList ds p := hA0
  rw [Try.params9] at hA hval
  obtain ⟨v0, vs0, d0, ds0, p0, q0, hargs, rfl, rfl, h0, r0⟩ := trodAll_cons hA
  obtain ⟨v1, vs1, d1, ds1, p1, q1, rfl, rfl, rfl, h1, r1⟩ := trodAll_cons r0
  obtain ⟨rfl, rfl, rfl⟩ := trodAll_nil r1
  obtain rfl : args = #[v0, v1] := by cases args; simp_all
  obtain ⟨rfl, rfl⟩ := trodVars_none hV
  obtain ⟨a0, len0, cap0, rfl⟩ := okWide_slice Try.underlying38 (hval 0 38 v0 rfl rfl)
  have k0 := h0
  have lt0 : ∀ x ∈ p0, x.block < W.heap.size := by obtain ⟨m, hm⟩ := k0; exact DataW.trod_lt m _ _ _ hm
  obtain ⟨xs, rfl, w0, c0, cm0, b0⟩ : ∃ xs : List (List Int), xs.length = len0 ∧ Go.Proofs.YtjnlplgefcmngaaW.PrintWords.Kd.C (Go.Proofs.YtjnlplgefcmngaaW.PrintWords.Kd.slice 5 (Go.Proofs.YtjnlplgefcmngaaW.PrintWords.Kd.int .u8)) W a0 len0 xs ∧ len0 ≤ cap0 ∧ cap0 ≤ maxLen ∧ ∀ y ∈ xs, Px.bytesP y := by
    obtain ⟨fuel, hf⟩ := h0
    exact Px.open_rows hf
  obtain ⟨a1, rfl, rfl, rfl, w1⟩ := open_int Try.underlying5 (hval 1 5 v1 rfl rfl) h1
  clear hA0 hval0 hsz0
  refine (Px.telemeterlaw02_FrameBack.calls 100 a0 cap0 xs a1 true W w0 c0 (Pure.FrameBack xs a1 w1 b0)).mono fun e W' ⟨he, bel⟩ => ?_
  subst he
  exact ⟨_, rfl, _, _, _, [], _, [], hW', trodAll_mk1 (shut_bool Try.underlying4 _), (trodAll_cons_mk (Below.trod laidOut (by kernel_rfl) (of_decide_eq_true (by kernel_rfl)) k0 bel lt0) (trodAll_cons_mk (shut_int Try.underlying5 w1) trodAll_mk0)), rfl, bel.frame _, fun h => by cases h⟩
theorem over : Rows.frameBackRow.holds Try.pinned (OpenSpec.ofChange Rows.frameBackSpec) :=
  OpenClaim.holds_of_wide 9 Try.f9 rfl rfl rfl rfl rfl rfl rfl ⟨rfl, rfl, rfl, rfl, rfl⟩ rfl rfl rfl rfl rfl (by kernel_rfl) Try.func9 (by kernel_rfl)
    (of_decide_eq_true (by kernel_rfl)) (by unfold Func.isWrapper; first | (rw [if_pos (by decide +kernel)]; kernel_rfl) | (rw [if_neg (by decide +kernel)]; exact ⟨rfl, rfl⟩))
    (fun os started H enc _ => lifted os started H enc)
theorem proved : Rows.FrameBackSaid := over
#print axioms proved
end Go.Proofs.Ytjnlplgefcmngaa.frameBack
namespace Go.Proofs.Ytjnlplgefcmngaa
/-- The row, under a short name, for the claim. -/
theorem frameBack_holds : Rows.FrameBackSaid := frameBack.proved
end Go.Proofs.Ytjnlplgefcmngaa
