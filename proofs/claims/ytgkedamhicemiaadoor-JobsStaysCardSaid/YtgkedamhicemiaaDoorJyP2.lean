/- cut to what one law reaches -/
import Derived.Test.YtgkedamhicemiaaDoorJyP0
namespace Go.Proofs.YtgkedamhicemiaaDoor.P
open Go.RowKit Go.Proofs.YtgkedamhicemiaaDoorW.PrintWords Go.Proofs.YtgkedamhicemiaaDoorW.PrintLast Go.Proofs.YtgkedamhicemiaaDoorW.PrintMore
attribute [local go_sem] max2_int min2_int max_two min_two max_three min_three max_four min_four   -- for this text's walks alone
set_option linter.unusedVariables false
set_option linter.unusedSimpArgs false
attribute [local go_sem] isSome_setCell
def conf_in.f (a0 : Int) (a1 : Int) (a2 : Int) : Option (Bool) := if a0 ≥ a1 then (some (decide (a0 ≤ a2))) else (some false)
set_option maxHeartbeats 8000000 in
set_option maxRecDepth 100000 in
theorem conf_in.calls (a0 : Int) (a1 : Int) (a2 : Int) (r : Bool) (w : World) (h : conf_in.f a0 a1 a2 = some r) :
  Calls Tryd.prog 48 #[.int .i64 a0, .int .i64 a1, .int .i64 a2] w fun e w' => e = .returned (.bool r) ∧ Drawn0 w w' := by
 have H : (if a0 ≥ a1 then (some (decide (a0 ≤ a2))) else (some false)) = some r := h
 clear h
 by_cases c4 : a0 ≥ a1
 ·rw [if_pos c4] at H
  have c4b0 : decide (a1 ≤ a0) = true := decide_eq_true c4
  clear c4
  obtain rfl := Option.some.inj H
  go_enter Tryd.func48, Tryd.ntmps48
  go_wp2
  go_ret
  exact ⟨by first | rfl | (simp; done) | (simp [*]; done), by repeat (first | exact Drawn0.refl _ | apply Drawn0.step)⟩
 ·rw [if_neg c4] at H
  have c4b0 : decide (a1 ≤ a0) = false := decide_eq_false c4
  clear c4
  obtain rfl := Option.some.inj H
  go_enter Tryd.func48, Tryd.ntmps48
  go_wp2
  go_ret
  exact ⟨by first | rfl | (simp; done) | (simp [*]; done), by repeat (first | exact Drawn0.refl _ | apply Drawn0.step)⟩
-- NOT PRINTED: function 81 (utf8_decodeRuneInStringSlow)
-- NOT PRINTED: function 73 (utf8_DecodeRuneInString)
-- NOT PRINTED: function 74 (utf8_RuneCountInString)
def okRune (c : Nat) : Bool := (decide (97 ≤ c) && decide (c ≤ 122)) || (decide (65 ≤ c) && decide (c ≤ 90)) || (decide (48 ≤ c) && decide (c ≤ 57)) || c == 45 || c == 95 || c == 46 || decide (160 < c)
def nameAt : Nat → ByteArray → Nat → Bool
 | 0, _, _ => false
 | k + 1, s, pos => if pos < s.size then
   (if (Utf8.decode s pos).1 = 65533 ∧ (Lib.decodeGo (s.extract pos s.size)).2 = 1 then false else if okRune (Utf8.decode s pos).1 = true then nameAt k s (pos + (Utf8.decode s pos).2) else false)
  else !s.toList.isEmpty && decide (Lib.runeCount s ≤ 32)
def script_Name.f (a0 : ByteArray) : Option Bool := if a0.size ≤ 140737488351232 then some (nameAt (a0.size + 1) a0 0) else none
theorem below_then {B : Nat} {w0 w3 w4 : World} (h : Below B w0 w3) (k : Below w3.heap.size w3 w4) (hB : B ≤ w3.heap.size) : Below B w0 w4 :=
 ⟨k.os.trans h.os, k.tape.trans h.tape, k.output.trans h.output, Nat.le_trans h.size k.size, fun i hi => (k.block i (by omega)).trans (h.block i hi)⟩
theorem decode_pos (s : ByteArray) (pos : Nat) (h : pos < s.size) : 1 ≤ (Utf8.decode s pos).2 := by
 by_cases ha : (s[pos]'h).toNat < 128
 ·rw [decode_ascii s pos h ha]; exact Nat.le_refl _
 ·exact (decode_high s pos h (by omega)).2
theorem okRune_cases (c : Nat) : (okRune c = true ∧ ((97 ≤ c ∧ c ≤ 122) ∨ (65 ≤ c ∧ c ≤ 90 ∧ c < 97) ∨ (48 ≤ c ∧ c ≤ 57 ∧ c < 65) ∨ c = 45 ∨ c = 95 ∨ c = 46 ∨ 160 < c)) ∨ (okRune c = false ∧ ((c < 48 ∧ c ≠ 45 ∧ c ≠ 46) ∨ (57 < c ∧ c < 65) ∨ (90 < c ∧ c < 97 ∧ c ≠ 95) ∨ (122 < c ∧ c ≤ 160))) := by
 cases h : okRune c with
 | true => refine Or.inl ⟨rfl, ?_⟩; simp [okRune] at h; omega
 | false => refine Or.inr ⟨rfl, ?_⟩; simp [okRune] at h; omega
set_option maxHeartbeats 8000000 in
set_option maxRecDepth 1000000 in
theorem script_Name.calls (a0 : ByteArray) (r : Bool) (w : World) (hG : Glob w) (h : script_Name.f a0 = some r) :
  Calls Tryd.prog 55 #[.string a0] w fun e w' => e = .returned (.bool r) ∧ Below w.heap.size w w' := by
 unfold script_Name.f at h
 by_cases hsz : a0.size ≤ 140737488351232
 case neg => rw [if_neg hsz] at h; cases h
 rw [if_pos hsz] at h
 have HH := Aside0.mk (Option.some.inj h)
 clear h
 have HG := Aside0.mk hG
 clear hG
 go_enter Tryd.func55, Tryd.ntmps55
 go_wp2
 go_loopg [] (a0.size + 1) (fun gk wr => ∃ pos : Nat, wr.heap[w.heap.size]? = some (Obj.stringIter a0 pos) ∧ 1 ≤ gk ∧ a0.size < pos + gk ∧ Aside0 (nameAt gk a0 pos = r) ∧ Aside0 (Below w.heap.size w wr))
 case atStart => exact ⟨0, World.iter_heap w a0 0, by omega, by omega, HH, ⟨below_alloc (Below.refl _ _) _⟩⟩
 case round =>
  obtain ⟨pos, hit, hk1, hk, HD, HB⟩ := hrel
  have hkb : w.heap.size < wr.heap.size := blk_lt hit
  have hGw : Glob wr := Glob.below HG.out HB.out
  by_cases hlt : pos < a0.size
  ·obtain ⟨k, rfl⟩ : ∃ k, gk = k + 1 := ⟨gk - 1, by omega⟩
   have hD := HD.out
   rw [nameAt, if_pos hlt] at hD
   have hnx : ∀ ty, (Instr.next (.pointer (some ⟨w.heap.size, 0, none⟩)) true ty).run Tryd.prog wr = _ := fun ty => Lib.run_next_any_at wr w.heap.size a0 pos ty hit hlt
   have hpos := decode_pos a0 pos hlt
   have hle := decode_le a0 pos
   obtain ⟨q, hq⟩ : ∃ q : Nat, pos + (Utf8.decode a0 pos).2 = q := ⟨_, rfl⟩
   obtain ⟨c, hc⟩ : ∃ c : Nat, (Utf8.decode a0 pos).1 = c := ⟨_, rfl⟩
   obtain ⟨d, hd⟩ : ∃ d : Nat × Nat, Lib.decodeGo (a0.extract pos a0.size) = d := ⟨_, rfl⟩
   obtain ⟨d1, d2⟩ := d
   have hNit := Lib.iterAt_heap wr w.heap.size a0 pos q hit
   have hNB := Lib.below_iterAt HB.out (k := w.heap.size) (Nat.le_refl _) a0 q
   have hNG : Glob (wr.iterAt w.heap.size a0 q) := Glob.below HG.out hNB
   have hC := Tryd.utf8_DecodeRuneInString (a0.extract pos a0.size) (wr.iterAt w.heap.size a0 q) hNG.utf8
   have hqp : pos < q := by omega
   rw [hq, hc] at hnx
   rw [hq, hc, hd] at hD
   rw [hd] at hC
   rw [hc] at hle
   have HC := Aside0.mk hC
   have KB := Aside0.mk hNB
   have KI := Aside0.mk hNit
   have lo : (pos : Int) ≤ (a0.size : Int) := by omega
   have lo0 : (0 : Int) ≤ (pos : Int) := by omega
   clear hC hNB hNit hNG hGw HB hit hq hc hd hpos
   have KI2 : w.heap.size < (wr.iterAt w.heap.size a0 q).heap.size ∧ (wr.iterAt w.heap.size a0 q).heap[w.heap.size]? = some (Obj.stringIter a0 q) := ⟨blk_lt KI.out, KI.out⟩
   clear KI
   have KI := Aside0.mk KI2
   clear KI2
   by_cases hbad : c = 65533 ∧ d2 = 1
   ·rw [if_pos hbad] at hD
    obtain ⟨rfl, rfl⟩ := hbad
    subst hD
    go_wp2_with (first | (go_at_call 73; (with_reducible refine HC.out.mono ?_); rintro e w2 ⟨rfl, gb1⟩; have G1 := Aside0.mk (below_then KB.out gb1 KB.out.size); have G2 := Aside0.mk ((gb1.block w.heap.size KI.out.1).trans KI.out.2); clear gb1))
    go_ret
    exact ⟨rfl, G1.out⟩
   ·rw [if_neg hbad] at hD
    have hnb : (((c : Int) == 65533) = true ∧ ((d2 : Int) == 1) = false) ∨ ((c : Int) == 65533) = false := by
     by_cases e : c = 65533
     ·exact Or.inl ⟨by rw [e]; rfl, beq_eq_false_iff_ne.2 (fun q => hbad ⟨e, by omega⟩)⟩
     ·exact Or.inr (beq_eq_false_iff_ne.2 (by omega))
    clear hbad
    rcases okRune_cases c with ⟨hok, hcl⟩ | ⟨hok, hcl⟩
    ·rw [if_pos hok] at hD
     have HD2 := Aside0.mk hD
     clear hD hok
     rcases hnb with ⟨n1, n2⟩ | n1
     ·have e : c = 65533 := by have := eq_of_beq n1; omega
      subst e
      clear hcl n1
      go_wp2_with (first | (go_at_call 73; (with_reducible refine HC.out.mono ?_); rintro e w2 ⟨rfl, gb1⟩; have G1 := Aside0.mk (below_then KB.out gb1 KB.out.size); have G2 := Aside0.mk ((gb1.block w.heap.size KI.out.1).trans KI.out.2); clear gb1))
      go_roundg k
      case measure => exact Nat.lt_succ_self _
      case rel => exact ⟨q, G2.out, by omega, by omega, HD2, G1⟩
     ·rcases hcl with ⟨f1, f2⟩ | ⟨f1, f2, f3⟩ | ⟨f1, f2, f3⟩ | rfl | rfl | rfl | f1
      ·have g1 : (97 : Int) ≤ (c : Int) := by omega
       have g2 : (c : Int) ≤ 122 := by omega
       clear f1 f2
       go_wp2_with (first | (go_at_call 73; (with_reducible refine HC.out.mono ?_); rintro e w2 ⟨rfl, gb1⟩; have G1 := Aside0.mk (below_then KB.out gb1 KB.out.size); have G2 := Aside0.mk ((gb1.block w.heap.size KI.out.1).trans KI.out.2); clear gb1))
       go_roundg k
       case measure => exact Nat.lt_succ_self _
       case rel => exact ⟨q, G2.out, by omega, by omega, HD2, G1⟩
      ·have g1 : (65 : Int) ≤ (c : Int) := by omega
       have g2 : (c : Int) ≤ 90 := by omega
       have g3 : decide ((97 : Int) ≤ (c : Int)) = false := decide_eq_false (by omega)
       clear f1 f2 f3
       go_wp2_with (first | (go_at_call 73; (with_reducible refine HC.out.mono ?_); rintro e w2 ⟨rfl, gb1⟩; have G1 := Aside0.mk (below_then KB.out gb1 KB.out.size); have G2 := Aside0.mk ((gb1.block w.heap.size KI.out.1).trans KI.out.2); clear gb1))
       go_roundg k
       case measure => exact Nat.lt_succ_self _
       case rel => exact ⟨q, G2.out, by omega, by omega, HD2, G1⟩
      ·have g1 : (48 : Int) ≤ (c : Int) := by omega
       have g2 : (c : Int) ≤ 57 := by omega
       have g3 : decide ((97 : Int) ≤ (c : Int)) = false := decide_eq_false (by omega)
       have g4 : decide ((65 : Int) ≤ (c : Int)) = false := decide_eq_false (by omega)
       clear f1 f2 f3
       go_wp2_with (first | (go_at_call 73; (with_reducible refine HC.out.mono ?_); rintro e w2 ⟨rfl, gb1⟩; have G1 := Aside0.mk (below_then KB.out gb1 KB.out.size); have G2 := Aside0.mk ((gb1.block w.heap.size KI.out.1).trans KI.out.2); clear gb1))
       go_roundg k
       case measure => exact Nat.lt_succ_self _
       case rel => exact ⟨q, G2.out, by omega, by omega, HD2, G1⟩
      ·go_wp2_with (first | (go_at_call 73; (with_reducible refine HC.out.mono ?_); rintro e w2 ⟨rfl, gb1⟩; have G1 := Aside0.mk (below_then KB.out gb1 KB.out.size); have G2 := Aside0.mk ((gb1.block w.heap.size KI.out.1).trans KI.out.2); clear gb1))
       go_roundg k
       case measure => exact Nat.lt_succ_self _
       case rel => exact ⟨q, G2.out, by omega, by omega, HD2, G1⟩
      ·go_wp2_with (first | (go_at_call 73; (with_reducible refine HC.out.mono ?_); rintro e w2 ⟨rfl, gb1⟩; have G1 := Aside0.mk (below_then KB.out gb1 KB.out.size); have G2 := Aside0.mk ((gb1.block w.heap.size KI.out.1).trans KI.out.2); clear gb1))
       go_roundg k
       case measure => exact Nat.lt_succ_self _
       case rel => exact ⟨q, G2.out, by omega, by omega, HD2, G1⟩
      ·go_wp2_with (first | (go_at_call 73; (with_reducible refine HC.out.mono ?_); rintro e w2 ⟨rfl, gb1⟩; have G1 := Aside0.mk (below_then KB.out gb1 KB.out.size); have G2 := Aside0.mk ((gb1.block w.heap.size KI.out.1).trans KI.out.2); clear gb1))
       go_roundg k
       case measure => exact Nat.lt_succ_self _
       case rel => exact ⟨q, G2.out, by omega, by omega, HD2, G1⟩
      ·have g1 : (97 : Int) ≤ (c : Int) := by omega
       have g2 : decide ((c : Int) ≤ 122) = false := decide_eq_false (by omega)
       have g3 : (65 : Int) ≤ (c : Int) := by omega
       have g4 : decide ((c : Int) ≤ 90) = false := decide_eq_false (by omega)
       have g5 : (48 : Int) ≤ (c : Int) := by omega
       have g6 : decide ((c : Int) ≤ 57) = false := decide_eq_false (by omega)
       have g7 : ((c : Int) != 45) = true := bne_iff_ne.2 (by omega)
       have g7b : ((c : Int) == 45) = false := beq_eq_false_iff_ne.2 (by omega)
       have g7c : ((c : Int) = 45) = False := eq_false (by omega)
       have g8 : ((c : Int) != 95) = true := bne_iff_ne.2 (by omega)
       have g8b : ((c : Int) == 95) = false := beq_eq_false_iff_ne.2 (by omega)
       have g8c : ((c : Int) = 95) = False := eq_false (by omega)
       have g9 : ((c : Int) != 46) = true := bne_iff_ne.2 (by omega)
       have g9b : ((c : Int) == 46) = false := beq_eq_false_iff_ne.2 (by omega)
       have g9c : ((c : Int) = 46) = False := eq_false (by omega)
       have g10 : decide ((c : Int) ≤ 160) = false := decide_eq_false (by omega)
       clear f1
       go_wp2_with (first | (go_at_call 73; (with_reducible refine HC.out.mono ?_); rintro e w2 ⟨rfl, gb1⟩; have G1 := Aside0.mk (below_then KB.out gb1 KB.out.size); have G2 := Aside0.mk ((gb1.block w.heap.size KI.out.1).trans KI.out.2); clear gb1))
       go_roundg k
       case measure => exact Nat.lt_succ_self _
       case rel => exact ⟨q, G2.out, by omega, by omega, HD2, G1⟩
    ·rw [if_neg (by rw [hok]; simp)] at hD
     subst hD
     clear hok
     have n1 : ((c : Int) == 65533) = false := by
      rcases hnb with ⟨n1, _⟩ | n1
      ·have := eq_of_beq n1; omega
      ·exact n1
     clear hnb
     have g7 : ((c : Int) != 45) = true := bne_iff_ne.2 (by omega)
     have g7b : ((c : Int) == 45) = false := beq_eq_false_iff_ne.2 (by omega)
     have g7c : ((c : Int) = 45) = False := eq_false (by omega)
     have g8 : ((c : Int) != 95) = true := bne_iff_ne.2 (by omega)
     have g8b : ((c : Int) == 95) = false := beq_eq_false_iff_ne.2 (by omega)
     have g8c : ((c : Int) = 95) = False := eq_false (by omega)
     have g9 : ((c : Int) != 46) = true := bne_iff_ne.2 (by omega)
     have g9b : ((c : Int) == 46) = false := beq_eq_false_iff_ne.2 (by omega)
     have g9c : ((c : Int) = 46) = False := eq_false (by omega)
     have g10 : (c : Int) ≤ 160 := by omega
     have g10b : decide ((c : Int) ≤ 160) = true := decide_eq_true g10
     rcases hcl with ⟨f1, f2, f3⟩ | ⟨f1, f2⟩ | ⟨f1, f2, f3⟩ | ⟨f1, f2⟩
     ·have g1 : decide ((97 : Int) ≤ (c : Int)) = false := decide_eq_false (by omega)
      have g2 : decide ((65 : Int) ≤ (c : Int)) = false := decide_eq_false (by omega)
      have g3 : decide ((48 : Int) ≤ (c : Int)) = false := decide_eq_false (by omega)
      clear f1 f2 f3
      go_wp2_with (first | (go_at_call 73; (with_reducible refine HC.out.mono ?_); rintro e w2 ⟨rfl, gb1⟩; have G1 := Aside0.mk (below_then KB.out gb1 KB.out.size); have G2 := Aside0.mk ((gb1.block w.heap.size KI.out.1).trans KI.out.2); clear gb1))
      go_ret
      exact ⟨rfl, G1.out⟩
     ·have g1 : decide ((97 : Int) ≤ (c : Int)) = false := decide_eq_false (by omega)
      have g2 : decide ((65 : Int) ≤ (c : Int)) = false := decide_eq_false (by omega)
      have g3 : (48 : Int) ≤ (c : Int) := by omega
      have g4 : decide ((c : Int) ≤ 57) = false := decide_eq_false (by omega)
      clear f1 f2
      go_wp2_with (first | (go_at_call 73; (with_reducible refine HC.out.mono ?_); rintro e w2 ⟨rfl, gb1⟩; have G1 := Aside0.mk (below_then KB.out gb1 KB.out.size); have G2 := Aside0.mk ((gb1.block w.heap.size KI.out.1).trans KI.out.2); clear gb1))
      go_ret
      exact ⟨rfl, G1.out⟩
     ·have g1 : decide ((97 : Int) ≤ (c : Int)) = false := decide_eq_false (by omega)
      have g2 : (65 : Int) ≤ (c : Int) := by omega
      have g3 : (48 : Int) ≤ (c : Int) := by omega
      have g4 : decide ((c : Int) ≤ 57) = false := decide_eq_false (by omega)
      have g5 : decide ((c : Int) ≤ 90) = false := decide_eq_false (by omega)
      clear f1 f2 f3
      go_wp2_with (first | (go_at_call 73; (with_reducible refine HC.out.mono ?_); rintro e w2 ⟨rfl, gb1⟩; have G1 := Aside0.mk (below_then KB.out gb1 KB.out.size); have G2 := Aside0.mk ((gb1.block w.heap.size KI.out.1).trans KI.out.2); clear gb1))
      go_ret
      exact ⟨rfl, G1.out⟩
     ·have g1 : (97 : Int) ≤ (c : Int) := by omega
      have g2 : (65 : Int) ≤ (c : Int) := by omega
      have g3 : (48 : Int) ≤ (c : Int) := by omega
      have g4 : decide ((c : Int) ≤ 57) = false := decide_eq_false (by omega)
      have g5 : decide ((c : Int) ≤ 90) = false := decide_eq_false (by omega)
      have g6 : decide ((c : Int) ≤ 122) = false := decide_eq_false (by omega)
      clear f1 f2
      go_wp2_with (first | (go_at_call 73; (with_reducible refine HC.out.mono ?_); rintro e w2 ⟨rfl, gb1⟩; have G1 := Aside0.mk (below_then KB.out gb1 KB.out.size); have G2 := Aside0.mk ((gb1.block w.heap.size KI.out.1).trans KI.out.2); clear gb1))
      go_ret
      exact ⟨rfl, G1.out⟩
  ·have hnx : ∀ ty, (Instr.next (.pointer (some ⟨w.heap.size, 0, none⟩)) true ty).run Tryd.prog wr = _ := fun ty => Lib.run_next_end_at wr w.heap.size a0 pos ty hit hlt
   obtain ⟨k, rfl⟩ : ∃ k, gk = k + 1 := ⟨gk - 1, by omega⟩
   have hD := HD.out
   rw [nameAt, if_neg hlt] at hD
   have HC := Aside0.mk (Tryd.utf8_RuneCountInString a0 wr (by omega))
   have KB := HB
   clear HB hit
   cases he : a0.toList.isEmpty with
   | true =>
    rw [he] at hD
    have hr : r = false := by rw [← hD]; simp
    subst hr
    have hse : (a0.toList == []) = true := by
     cases hl : a0.toList with
     | nil => rfl
     | cons x y => rw [hl] at he; cases he
    clear hD
    go_wp2
    go_ret
    exact ⟨rfl, KB.out⟩
   | false =>
    rw [he] at hD
    have hr : r = decide (Lib.runeCount a0 ≤ 32) := by rw [← hD]; simp
    have hlc : ((Lib.runeCount a0 : Nat) : Int) ≤ 32 ↔ Lib.runeCount a0 ≤ 32 := by omega
    clear hD
    go_wp2_with (first | (go_at_call 74; (with_reducible refine HC.out.mono ?_); rintro e w2 ⟨rfl, p2, rfl⟩))
    go_ret
    refine ⟨?_, below_then KB.out (below_alloc (Below.refl _ _) _) KB.out.size⟩
    rw [hr]
    simp [hlc]
def slices_Index_string_string.l0 : Nat → List ByteArray → ByteArray → Int → Int → Option (Int)
 | 0, _, _, _, _ => none
 | k + 1, x0, x1, x7, x8 => if x8 < x7 then (if 0 ≤ x8 then (if x8 < (x0.length : Int) then (if x1.toList = (rdOf ByteArray.empty x0 x8).toList then (some x8) else (slices_Index_string_string.l0 k x0 x1 x7 (wrap64 (x8 + 1)))) else (none)) else (none)) else (some (-1))
def slices_Index_string_string.f (k : Nat) (l0 : List ByteArray) (a1 : ByteArray) : Option (Int) := slices_Index_string_string.l0 k l0 a1 (l0.length : Int) 0
set_option maxHeartbeats 8000000 in
set_option maxRecDepth 100000 in
theorem slices_Index_string_string.calls (k : Nat) (A0 : Option Addr) (c0 : Nat) (l0 : List ByteArray) (a1 : ByteArray) (r : Int) (w : World) (hr0 : Kd.C Kd.string w A0 l0.length l0) (hc0 : l0.length ≤ c0) (h : slices_Index_string_string.f k l0 a1 = some r) :
  Calls Tryd.prog 80 #[.slice A0 l0.length c0, .string a1] w fun e w' => e = .returned (.int .i64 r) ∧ Drawn0 w w' := by
 have HR0 := Aside0.mk hr0
 have HC0 := Aside0.mk hc0
 clear hr0 hc0
 have H : (slices_Index_string_string.l0 k l0 a1 (l0.length : Int) 0) = some r := h
 clear h
 have H' := Aside0.mk H
 clear H
 go_enter Tryd.func80, Tryd.ntmps80
 go_wp2
 go_loopg [8] k (fun kq v8 w' => ∃ (x8_1 : Int), v8 = .int .i64 x8_1 ∧ Aside0 (slices_Index_string_string.l0 kq l0 a1 (l0.length : Int) x8_1 = some r) ∧ Aside0 (kq ≤ k) ∧ Drawn0 w w')
 case atStart => exact ⟨(0), (by first | rfl | (simp; done) | (simp [*]; done)), H', ⟨Nat.le_refl _⟩, by repeat (first | exact Drawn0.refl _ | apply Drawn0.step)⟩
 case round =>
  clear H'
  obtain ⟨x8_1, rfl, HA, HK1, ⟨m1, rfl⟩⟩ := hrel
  cases gk with
  | zero => exact absurd HA.out (by simp [slices_Index_string_string.l0])
  | succ k1 =>
   have H := HA.out
   clear HA
   simp only [slices_Index_string_string.l0] at H
   by_cases c3 : x8_1 < (l0.length : Int)
   ·rw [if_pos c3] at H
    have c3b0 : decide (x8_1 < (l0.length : Int)) = true := decide_eq_true c3
    clear c3
    by_cases c4 : 0 ≤ x8_1
    ·rw [if_pos c4] at H
     have c4b0 : decide (0 ≤ x8_1) = true := decide_eq_true c4
     clear c4
     by_cases c5 : x8_1 < (l0.length : Int)
     ·rw [if_pos c5] at H
      have c5b0 : decide (x8_1 < (l0.length : Int)) = true := decide_eq_true c5
      clear c5
      by_cases c6 : a1.toList = (rdOf ByteArray.empty l0 x8_1).toList
      ·rw [if_pos c6] at H
       have c6b0 : (a1.toList == (rdOf ByteArray.empty l0 x8_1).toList) = true := beq_iff_eq.mpr c6
       have c6b1 : (a1.toList != (rdOf ByteArray.empty l0 x8_1).toList) = false := bne_eq_false_iff_eq.mpr c6
       clear c6
       obtain rfl := Option.some.inj H
       have p101 : 0 ≤ (x8_1 : Int) := of_decide_eq_true (by first | (with_reducible assumption) | assumption)
       have q101 : x8_1 < (l0.length : Int) := of_decide_eq_true (by first | (with_reducible assumption) | assumption)
       obtain ⟨ad101, e101, hx101_0⟩ := Kd.at_string HR0.out x8_1 p101 q101
       cases e101
       replace p101 := eq_true p101
       replace q101 := eq_true q101
       go_wp2
       go_ret
       exact ⟨by first | rfl | (simp; done) | (simp [*]; done), by repeat (first | exact Drawn0.refl _ | apply Drawn0.step)⟩
      ·rw [if_neg c6] at H
       have c6b0 : (a1.toList == (rdOf ByteArray.empty l0 x8_1).toList) = false := beq_eq_false_iff_ne.mpr c6
       have c6b1 : (a1.toList != (rdOf ByteArray.empty l0 x8_1).toList) = true := bne_iff_ne.mpr c6
       have H' := Aside0.mk H
       clear H
       have p101 : 0 ≤ (x8_1 : Int) := of_decide_eq_true (by first | (with_reducible assumption) | assumption)
       have q101 : x8_1 < (l0.length : Int) := of_decide_eq_true (by first | (with_reducible assumption) | assumption)
       obtain ⟨ad101, e101, hx101_0⟩ := Kd.at_string HR0.out x8_1 p101 q101
       cases e101
       replace p101 := eq_true p101
       replace q101 := eq_true q101
       go_wp2
       go_roundg k1
       case measure => have := HK1.out; omega
       case rel => exact ⟨(wrap64 (x8_1 + 1)), (by first | rfl | (simp; done) | (simp [*]; done)), H', ⟨by have := HK1.out; omega⟩, by repeat (first | exact Drawn0.refl _ | apply Drawn0.step)⟩
     ·rw [if_neg c5] at H
      exact absurd H (by simp)
    ·rw [if_neg c4] at H
     exact absurd H (by simp)
   ·rw [if_neg c3] at H
    have c3b0 : decide (x8_1 < (l0.length : Int)) = false := decide_eq_false c3
    clear c3
    obtain rfl := Option.some.inj H
    go_wp2
    go_ret
    exact ⟨by first | rfl | (simp; done) | (simp [*]; done), by repeat (first | exact Drawn0.refl _ | apply Drawn0.step)⟩
def slices_Contains_string_string.f (k : Nat) (l0 : List ByteArray) (a1 : ByteArray) : Option (Bool) := (slices_Index_string_string.f k l0 a1).bind fun t102 => (some (decide (t102 ≥ 0)))
set_option maxHeartbeats 8000000 in
set_option maxRecDepth 100000 in
theorem slices_Contains_string_string.calls (k : Nat) (A0 : Option Addr) (c0 : Nat) (l0 : List ByteArray) (a1 : ByteArray) (r : Bool) (w : World) (hr0 : Kd.C Kd.string w A0 l0.length l0) (hc0 : l0.length ≤ c0) (h : slices_Contains_string_string.f k l0 a1 = some r) :
  Calls Tryd.prog 72 #[.slice A0 l0.length c0, .string a1] w fun e w' => e = .returned (.bool r) ∧ Drawn0 w w' := by
 have HR0 := Aside0.mk hr0
 have HC0 := Aside0.mk hc0
 clear hr0 hc0
 have H : ((slices_Index_string_string.f k l0 a1).bind fun t102 => (some (decide (t102 ≥ 0)))) = some r := h
 clear h
 replace H := Option.bind_eq_some_iff.mp H
 obtain ⟨t102, A30, H⟩ := H
 replace H : (some (decide (t102 ≥ 0))) = some r := H
 have A3 := Aside0.mk A30
 clear A30
 obtain rfl := Option.some.inj H
 go_enter Tryd.func72, Tryd.ntmps72
 go_wp2_with (first | ((with_reducible refine gate_callee (f := 80) rfl ?_); refine goesL_ (some 7) rfl rfl Tryd.func80 (by kernel_rfl) rfl #[.slice A0 l0.length c0, .string a1] rfl (by (try simp only [List.map_toArray, List.map_cons, List.map_nil]); first | done | rfl | (simp only [List.length_drop, List.length_take]; rfl)) ?_; (with_reducible refine (slices_Index_string_string.calls k _ _ l0 a1 t102 _ ?side1 ?side2 A3.out).mono ?_); (case side1 => repeat (first | exact HR0.out | (with_reducible refine Kd.C_alloc ?_ _) | (with_reducible refine Kd.C_drewN ?_ _) | (with_reducible refine Kd.C_drew ?_))); (case side2 => exact HC0.out); rintro e w' ⟨rfl, ⟨nd, rfl⟩⟩; refine ⟨_, rfl, ?_⟩))
 go_ret
 exact ⟨by first | rfl | (simp; done) | (simp [*]; done), by repeat (first | exact Drawn0.refl _ | apply Drawn0.step)⟩
def conf_names.l0 : Nat → List ByteArray → List ByteArray → Int → Int → Option (Bool)
 | 0, _, _, _, _ => none
 | k + 1, x0, x5, x6, x7 => if x7 < x6 then (if 0 ≤ x7 then (if x7 < (x5.length : Int) then ((script_Name.f (rdOf ByteArray.empty x5 x7)).bind fun t104 => (if t104 = true then (if x7 ≤ (x0.length : Int) then ((slices_Contains_string_string.f k (x0.take (x7 : Int).toNat) (rdOf ByteArray.empty x5 x7)).bind fun t106 => (if t106 = true then (some false) else (conf_names.l0 k x0 x5 x6 (wrap64 (x7 + 1))))) else (none)) else (some false))) else (none)) else (none)) else (some true)
def conf_names.f (k : Nat) (l0 : List ByteArray) : Option (Bool) := conf_names.l0 k l0 l0 (l0.length : Int) 0
set_option maxHeartbeats 8000000 in
set_option maxRecDepth 100000 in
theorem conf_names.calls (k : Nat) (A0 : Option Addr) (c0 : Nat) (l0 : List ByteArray) (r : Bool) (w : World) (hG : Glob w) (hr0 : Kd.C Kd.string w A0 l0.length l0) (hc0 : l0.length ≤ c0) (h : conf_names.f k l0 = some r) :
  Calls Tryd.prog 71 #[.slice A0 l0.length c0] w fun e w' => e = .returned (.bool r) ∧ Below w.heap.size w w' := by
 have HG := Aside0.mk hG
 clear hG
 have HR0 := Aside0.mk hr0
 have HC0 := Aside0.mk hc0
 clear hr0 hc0
 have HB := Aside0.mk (Below.refl w.heap.size w)
 have H : (conf_names.l0 k l0 l0 (l0.length : Int) 0) = some r := h
 clear h
 have H' := Aside0.mk H
 clear H
 go_enter Tryd.func71, Tryd.ntmps71
 go_wp2
 go_loopg [7] k (fun kq v7 w' => ∃ (x7_1 : Int), v7 = .int .i64 x7_1 ∧ Aside0 (conf_names.l0 kq l0 l0 (l0.length : Int) x7_1 = some r) ∧ Aside0 (kq ≤ k) ∧ Aside0 (Below w.heap.size w w'))
 case atStart => exact ⟨(0), (by first | rfl | (simp; done) | (simp [*]; done)), H', ⟨Nat.le_refl _⟩, ⟨by repeat (first | (with_reducible first | exact HB.out | apply below_alloc | apply pw_below_drewN | apply below_drew1) | exact HB.out)⟩⟩
 case round =>
  clear H'
  obtain ⟨x7_1, rfl, HA, HK1, HB⟩ := hrel
  cases gk with
  | zero => exact absurd HA.out (by simp [conf_names.l0])
  | succ k1 =>
   have H := HA.out
   clear HA
   simp only [conf_names.l0] at H
   by_cases c2 : x7_1 < (l0.length : Int)
   ·rw [if_pos c2] at H
    have c2b0 : decide (x7_1 < (l0.length : Int)) = true := decide_eq_true c2
    clear c2
    by_cases c3 : 0 ≤ x7_1
    ·rw [if_pos c3] at H
     have c3b0 : decide (0 ≤ x7_1) = true := decide_eq_true c3
     clear c3
     by_cases c4 : x7_1 < (l0.length : Int)
     ·rw [if_pos c4] at H
      have c4b0 : decide (x7_1 < (l0.length : Int)) = true := decide_eq_true c4
      clear c4
      replace H := Option.bind_eq_some_iff.mp H
      obtain ⟨t104, A50, H⟩ := H
      replace H : (if t104 = true then (if x7_1 ≤ (l0.length : Int) then ((slices_Contains_string_string.f k1 (l0.take (x7_1 : Int).toNat) (rdOf ByteArray.empty l0 x7_1)).bind fun t106 => (if t106 = true then (some false) else (conf_names.l0 k1 l0 l0 (l0.length : Int) (wrap64 (x7_1 + 1))))) else (none)) else (some false)) = some r := H
      have A5 := Aside0.mk A50
      clear A50
      by_cases c6 : t104 = true
      ·subst c6
       have H1 : (if x7_1 ≤ (l0.length : Int) then ((slices_Contains_string_string.f k1 (l0.take (x7_1 : Int).toNat) (rdOf ByteArray.empty l0 x7_1)).bind fun t106 => (if t106 = true then (some false) else (conf_names.l0 k1 l0 l0 (l0.length : Int) (wrap64 (x7_1 + 1))))) else (none)) = some r := by rw [if_pos rfl] at H; exact H
       clear H
       have H := H1
       clear H1
       have c7b0 := eq_true (of_decide_eq_true (by first | (with_reducible assumption) | assumption) : 0 ≤ x7_1)
       by_cases c8 : x7_1 ≤ (l0.length : Int)
       ·rw [if_pos c8] at H
        have c8b0 := eq_true c8
        have c8b1 : decide (x7_1 ≤ (l0.length : Int)) = true := decide_eq_true c8
        clear c8
        replace H := Option.bind_eq_some_iff.mp H
        obtain ⟨t106, A90, H⟩ := H
        replace H : (if t106 = true then (some false) else (conf_names.l0 k1 l0 l0 (l0.length : Int) (wrap64 (x7_1 + 1)))) = some r := H
        have A9 := Aside0.mk A90
        clear A90
        by_cases c10 : t106 = true
        ·subst c10
         have H1 : (some false) = some r := by rw [if_pos rfl] at H; exact H
         clear H
         have H := H1
         clear H1
         obtain rfl := Option.some.inj H
         have p103 : 0 ≤ (x7_1 : Int) := of_decide_eq_true (by first | (with_reducible assumption) | assumption)
         have q103 : x7_1 < (l0.length : Int) := of_decide_eq_true (by first | (with_reducible assumption) | assumption)
         obtain ⟨ad103, e103, hx103_0⟩ := Kd.at_string HR0.out x7_1 p103 q103
         cases e103
         replace hx103_0 := (HB.out.cell (World.block_lt_of_cell? w _ hx103_0)).trans hx103_0
         replace p103 := eq_true p103
         replace q103 := eq_true q103
         go_wp2_with (first | ((with_reducible refine gate_callee (f := 55) rfl ?_); refine goesL_ (some 13) rfl rfl Tryd.func55 (by kernel_rfl) rfl #[.string (rdOf ByteArray.empty l0 x7_1)] rfl (by (try simp only [List.map_toArray, List.map_cons, List.map_nil]); first | done | rfl | (simp only [List.length_drop, List.length_take]; rfl)) ?_; (with_reducible refine (script_Name.calls (rdOf ByteArray.empty l0 x7_1) true _ ?side1 A5.out).mono ?_); (case side1 => exact Glob.below HG.out (by repeat (first | (with_reducible first | exact HB.out | apply below_alloc | apply pw_below_drewN | apply below_drew1) | exact HB.out))); rintro e w11 ⟨rfl, hb⟩; refine ⟨_, rfl, ?_⟩; have n0_ := Aside0.mk (below_step (by repeat (first | (with_reducible first | exact HB.out | apply below_alloc | apply pw_below_drewN | apply below_drew1) | exact HB.out)) hb); clear HB; have HB := n0_; clear n0_; (try clear hb); (try clear hb2); (try clear hk); (try clear hi); obtain ⟨i012, hi012, _, hsz12, _⟩ := info_parts info9; obtain ⟨hcut12, hA12, hC12⟩ := print_take_of (P := Tryd.prog) Value.string (⟨#[]⟩ : ByteArray) 131 9 .i64 Tryd.underlying131 hi012 hsz12 (some ad103) c0 l0 x7_1 (of_decide_eq_true (by first | (with_reducible assumption) | assumption)) (of_decide_eq_true (by first | (with_reducible assumption) | assumption)) HC0.out; have HR105 := Aside0.mk (Kd.C_of_reads (h1 := fun _ => rfl) (hA12 _ (Kd.reads_of_C HR0.out))); have HC105 := Aside0.mk hC12; clear hA12 hC12 hi012 hsz12) | (go_at_call 72; refine calls_of_args (args' := #[.slice _ (l0.take (x7_1 : Int).toNat).length _, .string (rdOf ByteArray.empty l0 x7_1)]) (by first | rfl | (have hl_ : (l0.take (x7_1 : Int).toNat).length = (x7_1 : Int).toNat := List.length_take_of_le (by have h_ : (x7_1 ≤ (l0.length : Int)) = True := (by assumption); have h2_ := of_eq_true h_; omega); rw [hl_])) ?_; (with_reducible refine (slices_Contains_string_string.calls k1 _ _ (l0.take (x7_1 : Int).toNat) (rdOf ByteArray.empty l0 x7_1) true _ ?side1 ?side2 A9.out).mono ?_); (case side1 => repeat (first | exact (Kd.C_below HR105.out HB.out) | (with_reducible refine Kd.C_alloc ?_ _) | (with_reducible refine Kd.C_drewN ?_ _) | (with_reducible refine Kd.C_drew ?_))); (case side2 => exact HC105.out); rintro e w' ⟨rfl, ⟨nd, rfl⟩⟩))
         go_ret
         exact ⟨by first | rfl | (simp [errW_none, errW_some] <;> rfl) | (simp [*, errW_none, errW_some] <;> rfl), by repeat (first | (with_reducible first | exact HB.out | apply below_alloc | apply pw_below_drewN | apply below_drew1) | exact HB.out)⟩
        ·replace c10 := Bool.eq_false_iff.mpr c10
         subst c10
         have H1 : (conf_names.l0 k1 l0 l0 (l0.length : Int) (wrap64 (x7_1 + 1))) = some r := by rw [if_neg (show ¬ (false = true) by decide)] at H; exact H
         clear H
         have H := H1
         clear H1
         have H' := Aside0.mk H
         clear H
         have p103 : 0 ≤ (x7_1 : Int) := of_decide_eq_true (by first | (with_reducible assumption) | assumption)
         have q103 : x7_1 < (l0.length : Int) := of_decide_eq_true (by first | (with_reducible assumption) | assumption)
         obtain ⟨ad103, e103, hx103_0⟩ := Kd.at_string HR0.out x7_1 p103 q103
         cases e103
         replace hx103_0 := (HB.out.cell (World.block_lt_of_cell? w _ hx103_0)).trans hx103_0
         replace p103 := eq_true p103
         replace q103 := eq_true q103
         go_wp2_with (first | ((with_reducible refine gate_callee (f := 55) rfl ?_); refine goesL_ (some 13) rfl rfl Tryd.func55 (by kernel_rfl) rfl #[.string (rdOf ByteArray.empty l0 x7_1)] rfl (by (try simp only [List.map_toArray, List.map_cons, List.map_nil]); first | done | rfl | (simp only [List.length_drop, List.length_take]; rfl)) ?_; (with_reducible refine (script_Name.calls (rdOf ByteArray.empty l0 x7_1) true _ ?side1 A5.out).mono ?_); (case side1 => exact Glob.below HG.out (by repeat (first | (with_reducible first | exact HB.out | apply below_alloc | apply pw_below_drewN | apply below_drew1) | exact HB.out))); rintro e w13 ⟨rfl, hb⟩; refine ⟨_, rfl, ?_⟩; have n0_ := Aside0.mk (below_step (by repeat (first | (with_reducible first | exact HB.out | apply below_alloc | apply pw_below_drewN | apply below_drew1) | exact HB.out)) hb); clear HB; have HB := n0_; clear n0_; (try clear hb); (try clear hb2); (try clear hk); (try clear hi); obtain ⟨i014, hi014, _, hsz14, _⟩ := info_parts info9; obtain ⟨hcut14, hA14, hC14⟩ := print_take_of (P := Tryd.prog) Value.string (⟨#[]⟩ : ByteArray) 131 9 .i64 Tryd.underlying131 hi014 hsz14 (some ad103) c0 l0 x7_1 (of_decide_eq_true (by first | (with_reducible assumption) | assumption)) (of_decide_eq_true (by first | (with_reducible assumption) | assumption)) HC0.out; have HR105 := Aside0.mk (Kd.C_of_reads (h1 := fun _ => rfl) (hA14 _ (Kd.reads_of_C HR0.out))); have HC105 := Aside0.mk hC14; clear hA14 hC14 hi014 hsz14) | (go_at_call 72; refine calls_of_args (args' := #[.slice _ (l0.take (x7_1 : Int).toNat).length _, .string (rdOf ByteArray.empty l0 x7_1)]) (by first | rfl | (have hl_ : (l0.take (x7_1 : Int).toNat).length = (x7_1 : Int).toNat := List.length_take_of_le (by have h_ : (x7_1 ≤ (l0.length : Int)) = True := (by assumption); have h2_ := of_eq_true h_; omega); rw [hl_])) ?_; (with_reducible refine (slices_Contains_string_string.calls k1 _ _ (l0.take (x7_1 : Int).toNat) (rdOf ByteArray.empty l0 x7_1) false _ ?side1 ?side2 A9.out).mono ?_); (case side1 => repeat (first | exact (Kd.C_below HR105.out HB.out) | (with_reducible refine Kd.C_alloc ?_ _) | (with_reducible refine Kd.C_drewN ?_ _) | (with_reducible refine Kd.C_drew ?_))); (case side2 => exact HC105.out); rintro e w' ⟨rfl, ⟨nd, rfl⟩⟩))
         go_roundg k1
         case measure => have := HK1.out; omega
         case rel => exact ⟨(wrap64 (x7_1 + 1)), (by first | rfl | (simp; done) | (simp [*]; done)), H', ⟨by have := HK1.out; omega⟩, ⟨by repeat (first | (with_reducible first | exact HB.out | apply below_alloc | apply pw_below_drewN | apply below_drew1) | exact HB.out)⟩⟩
       ·rw [if_neg c8] at H
        exact absurd H (by simp)
      ·replace c6 := Bool.eq_false_iff.mpr c6
       subst c6
       have H1 : (some false) = some r := by rw [if_neg (show ¬ (false = true) by decide)] at H; exact H
       clear H
       have H := H1
       clear H1
       obtain rfl := Option.some.inj H
       have p103 : 0 ≤ (x7_1 : Int) := of_decide_eq_true (by first | (with_reducible assumption) | assumption)
       have q103 : x7_1 < (l0.length : Int) := of_decide_eq_true (by first | (with_reducible assumption) | assumption)
       obtain ⟨ad103, e103, hx103_0⟩ := Kd.at_string HR0.out x7_1 p103 q103
       cases e103
       replace hx103_0 := (HB.out.cell (World.block_lt_of_cell? w _ hx103_0)).trans hx103_0
       replace p103 := eq_true p103
       replace q103 := eq_true q103
       go_wp2_with (first | ((with_reducible refine gate_callee (f := 55) rfl ?_); refine goesL_ (some 13) rfl rfl Tryd.func55 (by kernel_rfl) rfl #[.string (rdOf ByteArray.empty l0 x7_1)] rfl (by (try simp only [List.map_toArray, List.map_cons, List.map_nil]); first | done | rfl | (simp only [List.length_drop, List.length_take]; rfl)) ?_; (with_reducible refine (script_Name.calls (rdOf ByteArray.empty l0 x7_1) false _ ?side1 A5.out).mono ?_); (case side1 => exact Glob.below HG.out (by repeat (first | (with_reducible first | exact HB.out | apply below_alloc | apply pw_below_drewN | apply below_drew1) | exact HB.out))); rintro e w15 ⟨rfl, hb⟩; refine ⟨_, rfl, ?_⟩; have n0_ := Aside0.mk (below_step (by repeat (first | (with_reducible first | exact HB.out | apply below_alloc | apply pw_below_drewN | apply below_drew1) | exact HB.out)) hb); clear HB; have HB := n0_; clear n0_; (try clear hb); (try clear hb2); (try clear hk); (try clear hi)))
       go_ret
       exact ⟨by first | rfl | (simp [errW_none, errW_some] <;> rfl) | (simp [*, errW_none, errW_some] <;> rfl), by repeat (first | (with_reducible first | exact HB.out | apply below_alloc | apply pw_below_drewN | apply below_drew1) | exact HB.out)⟩
     ·rw [if_neg c4] at H
      exact absurd H (by simp)
    ·rw [if_neg c3] at H
     exact absurd H (by simp)
   ·rw [if_neg c2] at H
    have c2b0 : decide (x7_1 < (l0.length : Int)) = false := decide_eq_false c2
    clear c2
    obtain rfl := Option.some.inj H
    go_wp2
    go_ret
    exact ⟨by first | rfl | (simp [errW_none, errW_some] <;> rfl) | (simp [*, errW_none, errW_some] <;> rfl), by repeat (first | (with_reducible first | exact HB.out | apply below_alloc | apply pw_below_drewN | apply below_drew1) | exact HB.out)⟩
def conf_parts.l0 : Nat → List (S85) → List ByteArray → List (S85) → Int → Int → Option (Bool)
 | 0, _, _, _, _, _ => none
 | k + 1, x0, x3, x6, x7, x8 => if x8 < x7 then (if 0 ≤ x8 then (if x8 < (x6.length : Int) then ((conf_in.f ((rd_T85 x6 x8).f1) 0 10).bind fun t111 => (if t111 = true then ((conf_in.f ((rd_T85 x6 x8).f2) 0 1048576).bind fun t112 => (if t112 = true then ((conf_in.f ((rd_T85 x6 x8).f3) 1 1073741824).bind fun t113 => (if t113 = true then (if x3.length < 8796093022208 then (conf_parts.l0 k x0 (x3 ++ [(rd_T85 x6 x8).f0]) x6 x7 (wrap64 (x8 + 1))) else (none)) else (some false))) else (some false))) else (some false))) else (none)) else (none)) else ((conf_in.f (x0.length : Int) 1 8).bind fun t107 => (if t107 = true then ((conf_names.f k x3).bind fun t108 => (some t108)) else (some false)))
def conf_parts.f (k : Nat) (l0 : List (S85)) : Option (Bool) := conf_parts.l0 k l0 ([] : List ByteArray) l0 (l0.length : Int) 0
set_option maxHeartbeats 8000000 in
set_option maxRecDepth 100000 in
theorem conf_parts.calls (k : Nat) (A0 : Option Addr) (c0 : Nat) (l0 : List (S85)) (r : Bool) (w : World) (hG : Glob w) (hr0 : Kd.C k85 w A0 l0.length l0) (hc0 : l0.length ≤ c0) (h : conf_parts.f k l0 = some r) :
  Calls Tryd.prog 49 #[.slice A0 l0.length c0] w fun e w' => e = .returned (.bool r) ∧ Below w.heap.size w w' := by
 have hu85 := Tryd.underlying85
 have HG := Aside0.mk hG
 clear hG
 have HR0 := Aside0.mk hr0
 have HC0 := Aside0.mk hc0
 clear hr0 hc0
 have HB := Aside0.mk (Below.refl w.heap.size w)
 have H : (conf_parts.l0 k l0 ([] : List ByteArray) l0 (l0.length : Int) 0) = some r := h
 clear h
 have H' := Aside0.mk H
 clear H
 go_enter Tryd.func49, Tryd.ntmps49
 go_wp2
 go_loopg [3, 8] k (fun kq v3 v8 w' => ∃ (x3_1 : List ByteArray) (x8_1 : Int), v8 = .int .i64 x8_1 ∧ Aside0 (conf_parts.l0 kq l0 x3_1 l0 (l0.length : Int) x8_1 = some r) ∧ Aside0 (kq ≤ k) ∧ Aside0 (Kd.R Kd.string 9 w' w.heap.size (fun _ => True) v3 x3_1) ∧ Aside0 (Below w.heap.size w w'))
 case atStart => exact ⟨(([] : List ByteArray)), (0), (by first | rfl | (simp; done) | (simp [*]; done)), H', ⟨Nat.le_refl _⟩, ⟨by first | exact Kd.R_nil _ _ _ _ _ | exact Kd.N_nil _ _ _ _ _ | exact Kd.V_nil _ _ _ _ _ | exact Kd.Q_nil _ _ _ _ _ | exact Kd.S_nil _ _ _ _ _⟩, ⟨by repeat (first | (with_reducible first | exact HB.out | apply below_alloc | apply pw_below_drewN | apply below_drew1) | exact HB.out)⟩⟩
 case round =>
  clear H'
  obtain ⟨x3_1, x8_1, rfl, HA, HK1, HO_3, HB⟩ := hrel
  cases gk with
  | zero => exact absurd HA.out (by simp [conf_parts.l0])
  | succ k1 =>
   have H := HA.out
   clear HA
   simp only [conf_parts.l0] at H
   by_cases c2 : x8_1 < (l0.length : Int)
   ·rw [if_pos c2] at H
    have c2b0 : decide (x8_1 < (l0.length : Int)) = true := decide_eq_true c2
    clear c2
    by_cases c3 : 0 ≤ x8_1
    ·rw [if_pos c3] at H
     have c3b0 : decide (0 ≤ x8_1) = true := decide_eq_true c3
     clear c3
     by_cases c4 : x8_1 < (l0.length : Int)
     ·rw [if_pos c4] at H
      have c4b0 : decide (x8_1 < (l0.length : Int)) = true := decide_eq_true c4
      clear c4
      replace H := Option.bind_eq_some_iff.mp H
      obtain ⟨t111, A50, H⟩ := H
      replace H : (if t111 = true then ((conf_in.f ((rd_T85 l0 x8_1).f2) 0 1048576).bind fun t112 => (if t112 = true then ((conf_in.f ((rd_T85 l0 x8_1).f3) 1 1073741824).bind fun t113 => (if t113 = true then (if x3_1.length < 8796093022208 then (conf_parts.l0 k1 l0 (x3_1 ++ [(rd_T85 l0 x8_1).f0]) l0 (l0.length : Int) (wrap64 (x8_1 + 1))) else (none)) else (some false))) else (some false))) else (some false)) = some r := H
      have A5 := Aside0.mk A50
      clear A50
      by_cases c6 : t111 = true
      ·subst c6
       have H1 : ((conf_in.f ((rd_T85 l0 x8_1).f2) 0 1048576).bind fun t112 => (if t112 = true then ((conf_in.f ((rd_T85 l0 x8_1).f3) 1 1073741824).bind fun t113 => (if t113 = true then (if x3_1.length < 8796093022208 then (conf_parts.l0 k1 l0 (x3_1 ++ [(rd_T85 l0 x8_1).f0]) l0 (l0.length : Int) (wrap64 (x8_1 + 1))) else (none)) else (some false))) else (some false))) = some r := by rw [if_pos rfl] at H; exact H
       clear H
       have H := H1
       clear H1
       replace H := Option.bind_eq_some_iff.mp H
       obtain ⟨t112, A70, H⟩ := H
       replace H : (if t112 = true then ((conf_in.f ((rd_T85 l0 x8_1).f3) 1 1073741824).bind fun t113 => (if t113 = true then (if x3_1.length < 8796093022208 then (conf_parts.l0 k1 l0 (x3_1 ++ [(rd_T85 l0 x8_1).f0]) l0 (l0.length : Int) (wrap64 (x8_1 + 1))) else (none)) else (some false))) else (some false)) = some r := H
       have A7 := Aside0.mk A70
       clear A70
       by_cases c8 : t112 = true
       ·subst c8
        have H1 : ((conf_in.f ((rd_T85 l0 x8_1).f3) 1 1073741824).bind fun t113 => (if t113 = true then (if x3_1.length < 8796093022208 then (conf_parts.l0 k1 l0 (x3_1 ++ [(rd_T85 l0 x8_1).f0]) l0 (l0.length : Int) (wrap64 (x8_1 + 1))) else (none)) else (some false))) = some r := by rw [if_pos rfl] at H; exact H
        clear H
        have H := H1
        clear H1
        replace H := Option.bind_eq_some_iff.mp H
        obtain ⟨t113, A90, H⟩ := H
        replace H : (if t113 = true then (if x3_1.length < 8796093022208 then (conf_parts.l0 k1 l0 (x3_1 ++ [(rd_T85 l0 x8_1).f0]) l0 (l0.length : Int) (wrap64 (x8_1 + 1))) else (none)) else (some false)) = some r := H
        have A9 := Aside0.mk A90
        clear A90
        by_cases c10 : t113 = true
        ·subst c10
         have H1 : (if x3_1.length < 8796093022208 then (conf_parts.l0 k1 l0 (x3_1 ++ [(rd_T85 l0 x8_1).f0]) l0 (l0.length : Int) (wrap64 (x8_1 + 1))) else (none)) = some r := by rw [if_pos rfl] at H; exact H
         clear H
         have H := H1
         clear H1
         by_cases c11 : x3_1.length < 8796093022208
         ·rw [if_pos c11] at H
          have LMc11 := Aside0.mk c11
          clear c11
          obtain ⟨y114, hy114⟩ : ∃ y_ : List ByteArray, y_ = (x3_1 ++ [(rd_T85 l0 x8_1).f0]) := ⟨_, rfl⟩
          replace H : (conf_parts.l0 k1 l0 y114 l0 (l0.length : Int) (wrap64 (x8_1 + 1))) = some r := by first | (rw [hy114]; with_reducible exact H) | (have H2_ := (Option.bind_some _ _).symm.trans H; rw [hy114]; with_reducible exact H2_) | (have H2_ := (Option.bind_some _ _).symm.trans H; with_reducible exact H2_) | with_reducible exact H | (rw [hy114]; exact H) | exact H
          have Ny114 := Aside0.mk hy114
          clear hy114
          have H' := Aside0.mk H
          clear H
          have p109 : 0 ≤ (x8_1 : Int) := of_decide_eq_true (by first | (with_reducible assumption) | assumption)
          have q109 : x8_1 < (l0.length : Int) := of_decide_eq_true (by first | (with_reducible assumption) | assumption)
          obtain ⟨ad109, e109, hx109_0, hx109_1, hx109_2, hx109_3⟩ := at_T85 HR0.out x8_1 p109 q109
          cases e109
          replace hx109_0 := (HB.out.cell (World.block_lt_of_cell? w _ hx109_0)).trans hx109_0
          replace hx109_1 := (HB.out.cell (World.block_lt_of_cell? w _ hx109_1)).trans hx109_1
          replace hx109_2 := (HB.out.cell (World.block_lt_of_cell? w _ hx109_2)).trans hx109_2
          replace hx109_3 := (HB.out.cell (World.block_lt_of_cell? w _ hx109_3)).trans hx109_3
          replace p109 := eq_true p109
          replace q109 := eq_true q109
          go_wp2_with (first | ((with_reducible refine gate_dst (N := 5) rfl ?_); refine box_event ?hg (N := 5) ?hd (cs := #[.string (⟨#[]⟩ : ByteArray), .int .i64 0, .int .i64 0, .int .i64 0]) (t := 85) ?hr ?_; (case hd => rfl); (case hg => rfl); (case hr => first | (go_simp; done) | (go_simp; rfl)); intro gb110 hg w12 hbox hb; have n0_ := Aside0.mk (Kd.R_below (by (with_reducible repeat (first | apply Kd.R_alloc | apply Kd.R_drewN | apply Kd.R_drew)); exact HO_3.out) hb); have n1_ := Aside0.mk (below_step (by repeat (first | (with_reducible first | exact HB.out | apply below_alloc | apply pw_below_drewN | apply below_drew1) | exact HB.out)) hb); have n2_ := Aside0.mk (hbox); have n3_ := Aside0.mk ((by rw [hg]; exact (below_size (by repeat (first | (with_reducible first | exact HB.out | apply below_alloc | apply pw_below_drewN | apply below_drew1) | exact HB.out))) : w.heap.size ≤ gb110)); have n4_ := Aside0.mk ((by rw [hg]; exact (below_size (by repeat (first | (with_reducible first | exact HB.out | apply below_alloc | apply pw_below_drewN | apply below_drew1) | exact HB.out))) : w.heap.size ≤ gb110)); clear HO_3; clear HB; have HO_3 := n0_; have HB := n1_; have BK110 := n2_; have GW110 := n3_; have GE110 := n4_; clear n0_ n1_ n2_ n3_ n4_; clear hb hbox hg; have hcz13_0 : w12.cell? ⟨gb110, 0, none⟩ = some (.string (⟨#[]⟩ : ByteArray)) := (blk_cell BK110.out 0).trans rfl; have hcz13_1 : w12.cell? ⟨gb110, 1, none⟩ = some (.int .i64 0) := (blk_cell BK110.out 1).trans rfl; have hcz13_2 : w12.cell? ⟨gb110, 2, none⟩ = some (.int .i64 0) := (blk_cell BK110.out 2).trans rfl; have hcz13_3 : w12.cell? ⟨gb110, 3, none⟩ = some (.int .i64 0) := (blk_cell BK110.out 3).trans rfl; have hfz13_0 := blk_frozen BK110.out 0; have hfz13_1 := blk_frozen BK110.out 1; have hfz13_2 := blk_frozen BK110.out 2; have hfz13_3 := blk_frozen BK110.out 3) | ((with_reducible refine gate_callee (f := 48) rfl ?_); refine goesL_ (some 14) rfl rfl Tryd.func48 (by kernel_rfl) rfl #[.int .i64 ((rd_T85 l0 x8_1).f1), .int .i64 0, .int .i64 10] rfl (by (try simp only [List.map_toArray, List.map_cons, List.map_nil]); first | done | rfl | (simp only [List.length_drop, List.length_take]; rfl)) ?_; (with_reducible refine (conf_in.calls ((rd_T85 l0 x8_1).f1) 0 10 true _ A5.out).mono ?_); rintro e w' ⟨rfl, ⟨nd, rfl⟩⟩; refine ⟨_, rfl, ?_⟩) | (go_at_call 48; (with_reducible refine (conf_in.calls ((rd_T85 l0 x8_1).f2) 0 1048576 true _ A7.out).mono ?_); rintro e w' ⟨rfl, ⟨nd, rfl⟩⟩) | (go_at_call 48; (with_reducible refine (conf_in.calls ((rd_T85 l0 x8_1).f3) 1 1073741824 true _ A9.out).mono ?_); rintro e w' ⟨rfl, ⟨nd, rfl⟩⟩) | ((with_reducible refine gate_builtin (b := .append) (xs := #[.tmp 28, .tmp 31]) rfl ?_); at_builtin; refine Kd.R_append Kd.string (w0 := w) w.heap.size rfl (.tmp 28) (.tmp 31) 131 9 (.string ⟨#[]⟩) 16 rfl Tryd.underlying131 info9 rfl (by decide) (by omega) u3 x3_1 ((rd_T85 l0 x8_1).f0) [.string ((rd_T85 l0 x8_1).f0)] (fun _ => True) (fun _ => False) rfl (by first | (go_simp; done) | (go_simp; rfl)) ?aP (fun _ hk => hk.elim) ?aF ?aO ?aB ?aS ?aL ?_; (case aP => exact rfl); (case aB => exact (by repeat (first | (with_reducible first | exact HB.out | apply below_alloc | apply pw_below_drewN | apply below_drew1 | refine below_set ?_ GE110.out) | exact HB.out))); (case aF => exact (fun _ _ => trivial)); (case aO => exact (by (with_reducible repeat (first | apply Kd.R_alloc | apply Kd.R_drewN | apply Kd.R_drew)); exact Kd.R_mono (Kd.R_far (p := ⟨gb110, 3, none⟩) (Kd.R_far (p := ⟨gb110, 2, none⟩) (Kd.R_far (p := ⟨gb110, 1, none⟩) (Kd.R_far (p := ⟨gb110, 0, none⟩) (Kd.R_types HO_3.out BK110.out (by decide)) (fun _ hk => hk.2) (.string ((rd_T85 l0 x8_1).f0))) (fun _ hk => hk.2) (.int .i64 ((rd_T85 l0 x8_1).f1))) (fun _ hk => hk.2) (.int .i64 ((rd_T85 l0 x8_1).f2))) (fun _ hk => hk.2) (.int .i64 ((rd_T85 l0 x8_1).f3))) (fun _ hk => trivial))); (case aS => exact (below_size (by repeat (first | (with_reducible first | exact HB.out | apply below_alloc | apply pw_below_drewN | apply below_drew1 | refine below_set ?_ GE110.out) | exact HB.out)))); (case aL => have := LMc11.out; omega); intro v115 w14 ho hb hg hat; rw [← Ny114.out] at ho; have n0_ := Aside0.mk (blk_grown (g := gb110) (o := .cells #[.string ((rd_T85 l0 x8_1).f0), .int .i64 ((rd_T85 l0 x8_1).f1), .int .i64 ((rd_T85 l0 x8_1).f2), .int .i64 ((rd_T85 l0 x8_1).f3)] 85 (0, 0)) (by (with_reducible repeat (first | refine blk_drewN ?_ _ | refine blk_drew ?_ | refine blk_alloc ?_ _)); refine blk_put (cs := #[.string ((rd_T85 l0 x8_1).f0), .int .i64 ((rd_T85 l0 x8_1).f1), .int .i64 ((rd_T85 l0 x8_1).f2), .int .i64 0]) ?_ 3 _ rfl; (with_reducible repeat (first | refine blk_drewN ?_ _ | refine blk_drew ?_ | refine blk_alloc ?_ _)); refine blk_put (cs := #[.string ((rd_T85 l0 x8_1).f0), .int .i64 ((rd_T85 l0 x8_1).f1), .int .i64 0, .int .i64 0]) ?_ 2 _ rfl; (with_reducible repeat (first | refine blk_drewN ?_ _ | refine blk_drew ?_ | refine blk_alloc ?_ _)); refine blk_put (cs := #[.string ((rd_T85 l0 x8_1).f0), .int .i64 0, .int .i64 0, .int .i64 0]) ?_ 1 _ rfl; (with_reducible repeat (first | refine blk_drewN ?_ _ | refine blk_drew ?_ | refine blk_alloc ?_ _)); refine blk_put (cs := #[.string (⟨#[]⟩ : ByteArray), .int .i64 0, .int .i64 0, .int .i64 0]) ?_ 0 _ rfl; (with_reducible repeat (first | refine blk_drewN ?_ _ | refine blk_drew ?_ | refine blk_alloc ?_ _)); exact BK110.out) hg (Kd.R_ne HO_3.out BK110.out (by decide))); have n1_ := Aside0.mk (hb); have n2_ := Aside0.mk (ho); clear BK110; clear HB; clear HO_3; have BK110 := n0_; have HB := n1_; have HO116 := n2_; clear n0_ n1_ n2_; clear ho hb hg hat))
          go_roundg k1
          case measure => have := HK1.out; omega
          case rel => exact ⟨(y114), (wrap64 (x8_1 + 1)), (by first | rfl | (simp; done) | (simp [*]; done)), H', ⟨by have := HK1.out; omega⟩, ⟨by (with_reducible repeat (first | apply Kd.R_alloc | apply Kd.R_drewN | apply Kd.R_drew)); exact HO116.out⟩, ⟨by repeat (first | (with_reducible first | exact HB.out | apply below_alloc | apply pw_below_drewN | apply below_drew1 | refine below_set ?_ GE110.out) | exact HB.out)⟩⟩
         ·rw [if_neg c11] at H
          exact absurd H (by simp)
        ·replace c10 := Bool.eq_false_iff.mpr c10
         subst c10
         have H1 : (some false) = some r := by rw [if_neg (show ¬ (false = true) by decide)] at H; exact H
         clear H
         have H := H1
         clear H1
         obtain rfl := Option.some.inj H
         have p109 : 0 ≤ (x8_1 : Int) := of_decide_eq_true (by first | (with_reducible assumption) | assumption)
         have q109 : x8_1 < (l0.length : Int) := of_decide_eq_true (by first | (with_reducible assumption) | assumption)
         obtain ⟨ad109, e109, hx109_0, hx109_1, hx109_2, hx109_3⟩ := at_T85 HR0.out x8_1 p109 q109
         cases e109
         replace hx109_0 := (HB.out.cell (World.block_lt_of_cell? w _ hx109_0)).trans hx109_0
         replace hx109_1 := (HB.out.cell (World.block_lt_of_cell? w _ hx109_1)).trans hx109_1
         replace hx109_2 := (HB.out.cell (World.block_lt_of_cell? w _ hx109_2)).trans hx109_2
         replace hx109_3 := (HB.out.cell (World.block_lt_of_cell? w _ hx109_3)).trans hx109_3
         replace p109 := eq_true p109
         replace q109 := eq_true q109
         go_wp2_with (first | ((with_reducible refine gate_dst (N := 5) rfl ?_); refine box_event ?hg (N := 5) ?hd (cs := #[.string (⟨#[]⟩ : ByteArray), .int .i64 0, .int .i64 0, .int .i64 0]) (t := 85) ?hr ?_; (case hd => rfl); (case hg => rfl); (case hr => first | (go_simp; done) | (go_simp; rfl)); intro gb110 hg w15 hbox hb; have n0_ := Aside0.mk (Kd.R_below (by (with_reducible repeat (first | apply Kd.R_alloc | apply Kd.R_drewN | apply Kd.R_drew)); exact HO_3.out) hb); have n1_ := Aside0.mk (below_step (by repeat (first | (with_reducible first | exact HB.out | apply below_alloc | apply pw_below_drewN | apply below_drew1) | exact HB.out)) hb); have n2_ := Aside0.mk (hbox); have n3_ := Aside0.mk ((by rw [hg]; exact (below_size (by repeat (first | (with_reducible first | exact HB.out | apply below_alloc | apply pw_below_drewN | apply below_drew1) | exact HB.out))) : w.heap.size ≤ gb110)); have n4_ := Aside0.mk ((by rw [hg]; exact (below_size (by repeat (first | (with_reducible first | exact HB.out | apply below_alloc | apply pw_below_drewN | apply below_drew1) | exact HB.out))) : w.heap.size ≤ gb110)); clear HO_3; clear HB; have HO_3 := n0_; have HB := n1_; have BK110 := n2_; have GW110 := n3_; have GE110 := n4_; clear n0_ n1_ n2_ n3_ n4_; clear hb hbox hg; have hcz16_0 : w15.cell? ⟨gb110, 0, none⟩ = some (.string (⟨#[]⟩ : ByteArray)) := (blk_cell BK110.out 0).trans rfl; have hcz16_1 : w15.cell? ⟨gb110, 1, none⟩ = some (.int .i64 0) := (blk_cell BK110.out 1).trans rfl; have hcz16_2 : w15.cell? ⟨gb110, 2, none⟩ = some (.int .i64 0) := (blk_cell BK110.out 2).trans rfl; have hcz16_3 : w15.cell? ⟨gb110, 3, none⟩ = some (.int .i64 0) := (blk_cell BK110.out 3).trans rfl; have hfz16_0 := blk_frozen BK110.out 0; have hfz16_1 := blk_frozen BK110.out 1; have hfz16_2 := blk_frozen BK110.out 2; have hfz16_3 := blk_frozen BK110.out 3) | ((with_reducible refine gate_callee (f := 48) rfl ?_); refine goesL_ (some 14) rfl rfl Tryd.func48 (by kernel_rfl) rfl #[.int .i64 ((rd_T85 l0 x8_1).f1), .int .i64 0, .int .i64 10] rfl (by (try simp only [List.map_toArray, List.map_cons, List.map_nil]); first | done | rfl | (simp only [List.length_drop, List.length_take]; rfl)) ?_; (with_reducible refine (conf_in.calls ((rd_T85 l0 x8_1).f1) 0 10 true _ A5.out).mono ?_); rintro e w' ⟨rfl, ⟨nd, rfl⟩⟩; refine ⟨_, rfl, ?_⟩) | (go_at_call 48; (with_reducible refine (conf_in.calls ((rd_T85 l0 x8_1).f2) 0 1048576 true _ A7.out).mono ?_); rintro e w' ⟨rfl, ⟨nd, rfl⟩⟩) | (go_at_call 48; (with_reducible refine (conf_in.calls ((rd_T85 l0 x8_1).f3) 1 1073741824 false _ A9.out).mono ?_); rintro e w' ⟨rfl, ⟨nd, rfl⟩⟩))
         go_ret
         exact ⟨by first | rfl | (simp [errW_none, errW_some] <;> rfl) | (simp [*, errW_none, errW_some] <;> rfl), by repeat (first | (with_reducible first | exact HB.out | apply below_alloc | apply pw_below_drewN | apply below_drew1 | refine below_set ?_ GE110.out) | exact HB.out)⟩
       ·replace c8 := Bool.eq_false_iff.mpr c8
        subst c8
        have H1 : (some false) = some r := by rw [if_neg (show ¬ (false = true) by decide)] at H; exact H
        clear H
        have H := H1
        clear H1
        obtain rfl := Option.some.inj H
        have p109 : 0 ≤ (x8_1 : Int) := of_decide_eq_true (by first | (with_reducible assumption) | assumption)
        have q109 : x8_1 < (l0.length : Int) := of_decide_eq_true (by first | (with_reducible assumption) | assumption)
        obtain ⟨ad109, e109, hx109_0, hx109_1, hx109_2, hx109_3⟩ := at_T85 HR0.out x8_1 p109 q109
        cases e109
        replace hx109_0 := (HB.out.cell (World.block_lt_of_cell? w _ hx109_0)).trans hx109_0
        replace hx109_1 := (HB.out.cell (World.block_lt_of_cell? w _ hx109_1)).trans hx109_1
        replace hx109_2 := (HB.out.cell (World.block_lt_of_cell? w _ hx109_2)).trans hx109_2
        replace hx109_3 := (HB.out.cell (World.block_lt_of_cell? w _ hx109_3)).trans hx109_3
        replace p109 := eq_true p109
        replace q109 := eq_true q109
        go_wp2_with (first | ((with_reducible refine gate_dst (N := 5) rfl ?_); refine box_event ?hg (N := 5) ?hd (cs := #[.string (⟨#[]⟩ : ByteArray), .int .i64 0, .int .i64 0, .int .i64 0]) (t := 85) ?hr ?_; (case hd => rfl); (case hg => rfl); (case hr => first | (go_simp; done) | (go_simp; rfl)); intro gb110 hg w17 hbox hb; have n0_ := Aside0.mk (Kd.R_below (by (with_reducible repeat (first | apply Kd.R_alloc | apply Kd.R_drewN | apply Kd.R_drew)); exact HO_3.out) hb); have n1_ := Aside0.mk (below_step (by repeat (first | (with_reducible first | exact HB.out | apply below_alloc | apply pw_below_drewN | apply below_drew1) | exact HB.out)) hb); have n2_ := Aside0.mk (hbox); have n3_ := Aside0.mk ((by rw [hg]; exact (below_size (by repeat (first | (with_reducible first | exact HB.out | apply below_alloc | apply pw_below_drewN | apply below_drew1) | exact HB.out))) : w.heap.size ≤ gb110)); have n4_ := Aside0.mk ((by rw [hg]; exact (below_size (by repeat (first | (with_reducible first | exact HB.out | apply below_alloc | apply pw_below_drewN | apply below_drew1) | exact HB.out))) : w.heap.size ≤ gb110)); clear HO_3; clear HB; have HO_3 := n0_; have HB := n1_; have BK110 := n2_; have GW110 := n3_; have GE110 := n4_; clear n0_ n1_ n2_ n3_ n4_; clear hb hbox hg; have hcz18_0 : w17.cell? ⟨gb110, 0, none⟩ = some (.string (⟨#[]⟩ : ByteArray)) := (blk_cell BK110.out 0).trans rfl; have hcz18_1 : w17.cell? ⟨gb110, 1, none⟩ = some (.int .i64 0) := (blk_cell BK110.out 1).trans rfl; have hcz18_2 : w17.cell? ⟨gb110, 2, none⟩ = some (.int .i64 0) := (blk_cell BK110.out 2).trans rfl; have hcz18_3 : w17.cell? ⟨gb110, 3, none⟩ = some (.int .i64 0) := (blk_cell BK110.out 3).trans rfl; have hfz18_0 := blk_frozen BK110.out 0; have hfz18_1 := blk_frozen BK110.out 1; have hfz18_2 := blk_frozen BK110.out 2; have hfz18_3 := blk_frozen BK110.out 3) | ((with_reducible refine gate_callee (f := 48) rfl ?_); refine goesL_ (some 14) rfl rfl Tryd.func48 (by kernel_rfl) rfl #[.int .i64 ((rd_T85 l0 x8_1).f1), .int .i64 0, .int .i64 10] rfl (by (try simp only [List.map_toArray, List.map_cons, List.map_nil]); first | done | rfl | (simp only [List.length_drop, List.length_take]; rfl)) ?_; (with_reducible refine (conf_in.calls ((rd_T85 l0 x8_1).f1) 0 10 true _ A5.out).mono ?_); rintro e w' ⟨rfl, ⟨nd, rfl⟩⟩; refine ⟨_, rfl, ?_⟩) | (go_at_call 48; (with_reducible refine (conf_in.calls ((rd_T85 l0 x8_1).f2) 0 1048576 false _ A7.out).mono ?_); rintro e w' ⟨rfl, ⟨nd, rfl⟩⟩))
        go_ret
        exact ⟨by first | rfl | (simp [errW_none, errW_some] <;> rfl) | (simp [*, errW_none, errW_some] <;> rfl), by repeat (first | (with_reducible first | exact HB.out | apply below_alloc | apply pw_below_drewN | apply below_drew1 | refine below_set ?_ GE110.out) | exact HB.out)⟩
      ·replace c6 := Bool.eq_false_iff.mpr c6
       subst c6
       have H1 : (some false) = some r := by rw [if_neg (show ¬ (false = true) by decide)] at H; exact H
       clear H
       have H := H1
       clear H1
       obtain rfl := Option.some.inj H
       have p109 : 0 ≤ (x8_1 : Int) := of_decide_eq_true (by first | (with_reducible assumption) | assumption)
       have q109 : x8_1 < (l0.length : Int) := of_decide_eq_true (by first | (with_reducible assumption) | assumption)
       obtain ⟨ad109, e109, hx109_0, hx109_1, hx109_2, hx109_3⟩ := at_T85 HR0.out x8_1 p109 q109
       cases e109
       replace hx109_0 := (HB.out.cell (World.block_lt_of_cell? w _ hx109_0)).trans hx109_0
       replace hx109_1 := (HB.out.cell (World.block_lt_of_cell? w _ hx109_1)).trans hx109_1
       replace hx109_2 := (HB.out.cell (World.block_lt_of_cell? w _ hx109_2)).trans hx109_2
       replace hx109_3 := (HB.out.cell (World.block_lt_of_cell? w _ hx109_3)).trans hx109_3
       replace p109 := eq_true p109
       replace q109 := eq_true q109
       go_wp2_with (first | ((with_reducible refine gate_dst (N := 5) rfl ?_); refine box_event ?hg (N := 5) ?hd (cs := #[.string (⟨#[]⟩ : ByteArray), .int .i64 0, .int .i64 0, .int .i64 0]) (t := 85) ?hr ?_; (case hd => rfl); (case hg => rfl); (case hr => first | (go_simp; done) | (go_simp; rfl)); intro gb110 hg w19 hbox hb; have n0_ := Aside0.mk (Kd.R_below (by (with_reducible repeat (first | apply Kd.R_alloc | apply Kd.R_drewN | apply Kd.R_drew)); exact HO_3.out) hb); have n1_ := Aside0.mk (below_step (by repeat (first | (with_reducible first | exact HB.out | apply below_alloc | apply pw_below_drewN | apply below_drew1) | exact HB.out)) hb); have n2_ := Aside0.mk (hbox); have n3_ := Aside0.mk ((by rw [hg]; exact (below_size (by repeat (first | (with_reducible first | exact HB.out | apply below_alloc | apply pw_below_drewN | apply below_drew1) | exact HB.out))) : w.heap.size ≤ gb110)); have n4_ := Aside0.mk ((by rw [hg]; exact (below_size (by repeat (first | (with_reducible first | exact HB.out | apply below_alloc | apply pw_below_drewN | apply below_drew1) | exact HB.out))) : w.heap.size ≤ gb110)); clear HO_3; clear HB; have HO_3 := n0_; have HB := n1_; have BK110 := n2_; have GW110 := n3_; have GE110 := n4_; clear n0_ n1_ n2_ n3_ n4_; clear hb hbox hg; have hcz20_0 : w19.cell? ⟨gb110, 0, none⟩ = some (.string (⟨#[]⟩ : ByteArray)) := (blk_cell BK110.out 0).trans rfl; have hcz20_1 : w19.cell? ⟨gb110, 1, none⟩ = some (.int .i64 0) := (blk_cell BK110.out 1).trans rfl; have hcz20_2 : w19.cell? ⟨gb110, 2, none⟩ = some (.int .i64 0) := (blk_cell BK110.out 2).trans rfl; have hcz20_3 : w19.cell? ⟨gb110, 3, none⟩ = some (.int .i64 0) := (blk_cell BK110.out 3).trans rfl; have hfz20_0 := blk_frozen BK110.out 0; have hfz20_1 := blk_frozen BK110.out 1; have hfz20_2 := blk_frozen BK110.out 2; have hfz20_3 := blk_frozen BK110.out 3) | ((with_reducible refine gate_callee (f := 48) rfl ?_); refine goesL_ (some 14) rfl rfl Tryd.func48 (by kernel_rfl) rfl #[.int .i64 ((rd_T85 l0 x8_1).f1), .int .i64 0, .int .i64 10] rfl (by (try simp only [List.map_toArray, List.map_cons, List.map_nil]); first | done | rfl | (simp only [List.length_drop, List.length_take]; rfl)) ?_; (with_reducible refine (conf_in.calls ((rd_T85 l0 x8_1).f1) 0 10 false _ A5.out).mono ?_); rintro e w' ⟨rfl, ⟨nd, rfl⟩⟩; refine ⟨_, rfl, ?_⟩))
       go_ret
       exact ⟨by first | rfl | (simp [errW_none, errW_some] <;> rfl) | (simp [*, errW_none, errW_some] <;> rfl), by repeat (first | (with_reducible first | exact HB.out | apply below_alloc | apply pw_below_drewN | apply below_drew1 | refine below_set ?_ GE110.out) | exact HB.out)⟩
     ·rw [if_neg c4] at H
      exact absurd H (by simp)
    ·rw [if_neg c3] at H
     exact absurd H (by simp)
   ·rw [if_neg c2] at H
    have c2b0 : decide (x8_1 < (l0.length : Int)) = false := decide_eq_false c2
    clear c2
    replace H := Option.bind_eq_some_iff.mp H
    obtain ⟨t107, A210, H⟩ := H
    replace H : (if t107 = true then ((conf_names.f k1 x3_1).bind fun t108 => (some t108)) else (some false)) = some r := H
    have A21 := Aside0.mk A210
    clear A210
    by_cases c22 : t107 = true
    ·subst c22
     have H1 : ((conf_names.f k1 x3_1).bind fun t108 => (some t108)) = some r := by rw [if_pos rfl] at H; exact H
     clear H
     have H := H1
     clear H1
     replace H := Option.bind_eq_some_iff.mp H
     obtain ⟨t108, A230, H⟩ := H
     replace H : (some t108) = some r := H
     have A23 := Aside0.mk A230
     clear A230
     obtain rfl := Option.some.inj H
     go_wp2_with (first | ((with_reducible refine gate_callee (f := 48) rfl ?_); refine goesL_ (some 36) rfl rfl Tryd.func48 (by kernel_rfl) rfl #[.int .i64 (l0.length : Int), .int .i64 1, .int .i64 8] rfl (by (try simp only [List.map_toArray, List.map_cons, List.map_nil]); first | done | rfl | (simp only [List.length_drop, List.length_take]; rfl)) ?_; (with_reducible refine (conf_in.calls (l0.length : Int) 1 8 true _ A21.out).mono ?_); rintro e w' ⟨rfl, ⟨nd, rfl⟩⟩; refine ⟨_, rfl, ?_⟩; obtain ⟨Ao24, co24, eo24⟩ := Kd.R_slice HO_3.out; subst eo24) | (go_at_call 71; (with_reducible refine (conf_names.calls k1 _ _ x3_1 t108 _ ?side1 ?side2 ?side3 A23.out).mono ?_); (case side1 => exact Glob.below HG.out (by repeat (first | (with_reducible first | exact HB.out | apply below_alloc | apply pw_below_drewN | apply below_drew1) | exact HB.out))); (case side2 => repeat (first | exact (Kd.R_reads' HO_3.out).2.2 | (with_reducible refine Kd.C_alloc ?_ _) | (with_reducible refine Kd.C_drewN ?_ _) | (with_reducible refine Kd.C_drew ?_))); (case side3 => exact (Kd.R_reads' HO_3.out).2.1); rintro e w25 ⟨rfl, hb⟩; have n0_ := Aside0.mk (Kd.R_below (by (with_reducible repeat (first | apply Kd.R_alloc | apply Kd.R_drewN | apply Kd.R_drew)); exact HO_3.out) hb); have n1_ := Aside0.mk (below_step (by repeat (first | (with_reducible first | exact HB.out | apply below_alloc | apply pw_below_drewN | apply below_drew1) | exact HB.out)) hb); clear HO_3; clear HB; have HO_3 := n0_; have HB := n1_; clear n0_ n1_; (try clear hb); (try clear hb2); (try clear hk); (try clear hi)))
     go_ret
     exact ⟨by first | rfl | (simp [errW_none, errW_some] <;> rfl) | (simp [*, errW_none, errW_some] <;> rfl), by repeat (first | (with_reducible first | exact HB.out | apply below_alloc | apply pw_below_drewN | apply below_drew1) | exact HB.out)⟩
    ·replace c22 := Bool.eq_false_iff.mpr c22
     subst c22
     have H1 : (some false) = some r := by rw [if_neg (show ¬ (false = true) by decide)] at H; exact H
     clear H
     have H := H1
     clear H1
     obtain rfl := Option.some.inj H
     go_wp2_with (first | ((with_reducible refine gate_callee (f := 48) rfl ?_); refine goesL_ (some 36) rfl rfl Tryd.func48 (by kernel_rfl) rfl #[.int .i64 (l0.length : Int), .int .i64 1, .int .i64 8] rfl (by (try simp only [List.map_toArray, List.map_cons, List.map_nil]); first | done | rfl | (simp only [List.length_drop, List.length_take]; rfl)) ?_; (with_reducible refine (conf_in.calls (l0.length : Int) 1 8 false _ A21.out).mono ?_); rintro e w' ⟨rfl, ⟨nd, rfl⟩⟩; refine ⟨_, rfl, ?_⟩))
     go_ret
     exact ⟨by first | rfl | (simp [errW_none, errW_some] <;> rfl) | (simp [*, errW_none, errW_some] <;> rfl), by repeat (first | (with_reducible first | exact HB.out | apply below_alloc | apply pw_below_drewN | apply below_drew1) | exact HB.out)⟩
end Go.Proofs.YtgkedamhicemiaaDoor.P
