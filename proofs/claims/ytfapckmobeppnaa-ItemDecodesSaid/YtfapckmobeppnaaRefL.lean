/- A literal of rows, each told by a call: what stands till it is laid. -/
import Derived.Test.YtfapckmobeppnaaRefA
import Derived.Test.YtfapckmobeppnaaWInv
namespace Go.Proofs.Ytfapckmobeppnaa.Px
open Go.RowKit Go.Proofs.YtfapckmobeppnaaW.PrintWords Go.Proofs.YtfapckmobeppnaaW.PrintLast Go.Proofs.YtfapckmobeppnaaW.PrintMore
set_option linter.unusedVariables false
set_option linter.unusedSimpArgs false

theorem RfL.number (f n : Int) (w : World) (hf : 0 < f ∧ f ≤ 10) (hn : 0 ≤ n ∧ n < 18446744073709551616) : Calls Try.prog 33 #[.int .i64 f, .int .u64 n] w fun e w' => ∃ v : Value, e = .returned v ∧ Kd.R (Kd.int .u8) 5 w' w.heap.size (fun _ => True) v (Itm.num f n) ∧ Below w.heap.size w w' :=
 telemeterref03_number.calls 10 f n _ w (RfA.number f n hf hn 10 (Nat.le_refl _))
theorem RfL.text (f : Int) (s : ByteArray) (w : World) (hf : 0 < f ∧ f ≤ 10) (hs : s.size ≤ 100000) : Calls Try.prog 32 #[.int .i64 f, .string s] w fun e w' => ∃ v : Value, e = .returned v ∧ Kd.R (Kd.int .u8) 5 w' w.heap.size (fun _ => True) v (Itm.txt f s) ∧ Below w.heap.size w w' :=
 telemeterref03_text.calls 10 f s _ w (RfA.text f s hf hs 10 (Nat.le_refl _))
/-- Values by operations: one is told. -/
def RfL.upd (V : Nat → Value) (i : Nat) (v : Value) : Nat → Value := fun j => if j = i then v else V j
def RfL.rows (w0 w : World) (b : Nat → Bool) (fin : Nat) (V : Nat → Value) (L : List (Nat × List Int)) : Prop := ∀ p ∈ L, b p.1 = true → b fin = false → Kd.R (Kd.int .u8) 5 w w0.heap.size (fun _ => True) (V p.1) p.2
theorem RfL.rows_call {w0 w w' : World} {b : Nat → Bool} {fin : Nat} {V : Nat → Value} {L : List (Nat × List Int)} (h : RfL.rows w0 w b fin V L) (hb : Below w.heap.size w w') (i : Nat) {v : Value} {xs : List Int} (hs : w0.heap.size ≤ w.heap.size) (hv : Kd.R (Kd.int .u8) 5 w' w.heap.size (fun _ => True) v xs) (hL : ∀ p ∈ L, p.1 = i → p.2 = xs) : RfL.rows w0 w' (up b i) fin (RfL.upd V i v) L := by
 intro p hp h1 h2
 have hf : b fin = false := by
  by_cases e : fin = i
  ·subst e; rw [up_self] at h2; cases h2
  ·rwa [up_ne e] at h2
 unfold RfL.upd
 by_cases e : p.1 = i
 ·rw [if_pos e, hL p hp e]; exact Kd.R_lower hv hs
 ·rw [if_neg e]; rw [up_ne e] at h1; exact Kd.R_below (h p hp h1 hf) hb
theorem RfL.rows_load {w0 w : World} {b : Nat → Bool} {fin : Nat} {V : Nat → Value} {L : List (Nat × List Int)} (h : RfL.rows w0 w b fin V L) (i : Nat) (hL : ∀ p ∈ L, p.1 ≠ i) : RfL.rows w0 w (up b i) fin V L := by
 intro p hp h1 h2
 have hf : b fin = false := by
  by_cases e : fin = i
  ·subst e; rw [up_self] at h2; cases h2
  ·rwa [up_ne e] at h2
 rw [up_ne (hL p hp)] at h1
 exact h p hp h1 hf
theorem RfL.rows_fin {w0 w : World} {b : Nat → Bool} {fin : Nat} {V : Nat → Value} {L : List (Nat × List Int)} (h : b fin = true) : RfL.rows w0 w b fin V L := fun p hp h1 h2 => by rw [h] at h2; cases h2
theorem RfL.rows_none {w0 w : World} {fin : Nat} {V : Nat → Value} {L : List (Nat × List Int)} : RfL.rows w0 w (fun _ => false) fin V L := fun p hp h1 h2 => by cases h1
/-- A row that was told is one of the literal's. -/
theorem RfL.fk {w : World} {base gb : Nat} {A : Option Addr} {n c : Nat} {xs : List Int} {C : Array Value} {t : TypeId} (h : Kd.R (Kd.int .u8) 5 w base (fun _ => True) (.slice A n c) xs) (hB : w.heap[gb]? = some (.cells C t (0, 0))) (ht : ∀ q, q ∈ 5 :: (Kd.int .u8).E → q ≠ t) (hn : n = xs.length) : Kd.FK (Kd.slice 5 (Kd.int .u8)) w (fun k_ => k_ ≠ gb) xs [.slice A xs.length c] := by
 subst hn
 have h2 := Kd.R_mono (ok' := (fun k_ => k_ ≠ gb)) (Kd.R_types h hB ht) (fun k_ hk => hk.2)
 exact Kd.FK_slice_mk (Kd.R_reads' h2).2.1 (Kd.R_F h2)
end Go.Proofs.Ytfapckmobeppnaa.Px
