/- The machine's side of the laws of this seat: each function's plain form and its contract, written by a program of this session out of Lean's print of the loaded functions; no condition beyond what each statement says. -/
import Derived.Test.YtjgfdilikbeofaaDoorP0
namespace Go.Proofs.YtjgfdilikbeofaaDoor.P
open Go.RowKit Go.Proofs.YtjgfdilikbeofaaDoorW.PrintWords Go.Proofs.YtjgfdilikbeofaaDoorW.PrintLast Go.Proofs.YtjgfdilikbeofaaDoorW.PrintMore
attribute [local go_sem] max2_int min2_int max_two min_two max_three min_three max_four min_four   -- for this text's walks alone
set_option linter.unusedVariables false
set_option linter.unusedSimpArgs false

attribute [local go_sem] isSome_setCell
-- NOT PRINTED: function 45 (bytealg_IndexByteString)

-- NOT PRINTED: function 36 (stringslite_IndexByte)

-- NOT PRINTED: function 37 (bytealg_IndexString)

-- NOT PRINTED: function 38 (bytealg_Cutover)

-- NOT PRINTED: function 46 (bytealg_hashStr_string)

-- NOT PRINTED: function 39 (bytealg_IndexRabinKarp_string)

-- NOT PRINTED: function 33 (stringslite_Index)

-- NOT PRINTED: function 27 (stringslite_Cut)

/-! ### strings_Cut: function 18 -/
def strings_Cut.f (a0 a1 : ByteArray) : Option (ByteArray × ByteArray × Bool) := if a0.size < 4294967281 then some ((⟨(Lib.cut a0.data.toList a1.data.toList).1.toArray⟩ : ByteArray), (⟨(Lib.cut a0.data.toList a1.data.toList).2.1.toArray⟩ : ByteArray), (Lib.cut a0.data.toList a1.data.toList).2.2) else none
theorem strings_Cut.calls (a0 a1 : ByteArray) (r1 r2 : ByteArray) (r3 : Bool) (w : World) (hG : Glob w) (h : strings_Cut.f a0 a1 = some (r1, r2, r3)) :
    Calls Tryd.prog 18 #[.string a0, .string a1] w fun e w' => e = .returned (.tuple #[.string r1, .string r2, .bool r3]) ∧ Below w.heap.size w w' := by
  obtain ⟨m, hm⟩ := hG.maxlen
  unfold strings_Cut.f at h
  split at h
  · simp only [Option.some.injEq, Prod.mk.injEq] at h
    obtain ⟨rfl, rfl, rfl⟩ := h
    refine (Tryd.strings_Cut a0 a1 m w (by assumption) hm).mono ?_
    rintro e w' ⟨rfl, n, rfl⟩
    exact ⟨rfl, pw_below_drewN (Below.refl _ _) n⟩
  · cases h

/-! ### clock_part: function 19 -/
/-- a number of digits; none: it has another sign -/
def digs : Nat → ByteArray → Nat → Int → Option Int
  | 0, _, _, _ => none
  | k + 1, s, i, n => if h : i < s.size then (if (s[i]'h).toNat < 48 ∨ 57 < (s[i]'h).toNat then none else digs k s (i + 1) (wrap64 (wrap64 (10 * n) + (((s[i]'h).toNat : Int) - 48)))) else some n
def clock_part.f (a0 : ByteArray) : Option (Int × Bool) := some (match digs (a0.size + 1) a0 0 0 with | none => (0, false) | some n => (n, !a0.toList.isEmpty && decide ((a0.size : Int) ≤ 6)))
set_option maxHeartbeats 4000000 in
set_option maxRecDepth 1000000 in
theorem clock_part.calls (a0 : ByteArray) (r1 : Int) (r2 : Bool) (w : World) (h : clock_part.f a0 = some (r1, r2)) :
    Calls Tryd.prog 19 #[.string a0] w fun e w' => e = .returned (.tuple #[.int .i64 r1, .bool r2]) ∧ Below w.heap.size w w' := by
  have H : (match digs (a0.size + 1) a0 0 0 with | none => (0, false) | some n => (n, !a0.toList.isEmpty && decide ((a0.size : Int) ≤ 6))) = (r1, r2) := by injection h
  have HH := Aside0.mk H
  clear H h
  have hres : ∀ pos, Below w.heap.size w (w.iter a0 pos) := fun pos => below_alloc (Below.refl _ _) _
  have HR := Aside0.mk hres
  clear hres
  go_enter Tryd.func19, Tryd.ntmps19
  go_wp2
  go_loopg [4] (a0.size + 1) (fun gk s4 wr => ∃ (pos : Nat) (n : Int), s4 = .int .i64 n ∧ wr = w.iter a0 pos ∧ pos ≤ a0.size ∧ a0.size + 1 = pos + gk ∧ Aside0 (digs gk a0 pos n = digs (a0.size + 1) a0 0 0))
  case atStart => exact ⟨0, 0, rfl, rfl, Nat.zero_le _, by omega, ⟨rfl⟩⟩
  case round =>
    obtain ⟨pos, n, rfl, rfl, hp, hk, HD⟩ := hrel
    obtain ⟨k, rfl⟩ : ∃ k, gk = k + 1 := ⟨gk - 1, by omega⟩
    by_cases hlt : pos < a0.size
    · have hD := HD.out
      rw [digs, dif_pos hlt] at hD
      by_cases ha : (a0[pos]'hlt).toNat < 128
      · have hnx : ∀ ty, (Instr.next (.pointer (some ⟨w.heap.size, 0, none⟩)) true ty).run Tryd.prog (w.iter a0 pos) = _ := fun ty => run_next_ascii w a0 pos ty hlt ha
        obtain ⟨c, hc⟩ : ∃ c : Nat, (a0[pos]'hlt).toNat = c := ⟨_, rfl⟩
        rw [hc] at hD ha hnx
        clear hc
        by_cases hd : c < 48 ∨ 57 < c
        · rw [if_pos hd] at hD
          have HE := HH.out
          rw [← hD] at HE
          simp only [Prod.mk.injEq] at HE
          obtain ⟨rfl, rfl⟩ := HE
          rcases hd with hd | hd
          · have hd1 : (c : Int) < 48 := by omega
            clear hD
            go_wp2
            go_ret2
            exact ⟨rfl, HR.out _⟩
          · have hd1 : ¬ (c : Int) < 48 := by omega
            have hd2 : (57 : Int) < c := by omega
            clear hD
            go_wp2
            go_ret2
            exact ⟨rfl, HR.out _⟩
        · rw [if_neg hd] at hD
          have HD2 := Aside0.mk hD
          have hd1 : ¬ (c : Int) < 48 := by omega
          have hd2 : ¬ (57 : Int) < c := by omega
          have hw : IntKind.i32.wrap ((c : Int) - 48) = (c : Int) - 48 := by rw [IntKind.wrap_i32]; omega
          clear hD
          go_wp2
          go_roundg k
          case measure => omega
          case rel => exact ⟨pos + 1, _, rfl, rfl, by omega, by omega, HD2⟩
      · have hnx : ∀ ty, (Instr.next (.pointer (some ⟨w.heap.size, 0, none⟩)) true ty).run Tryd.prog (w.iter a0 pos) = _ := fun ty => run_next_any w a0 pos ty hlt
        have hh := decode_high a0 pos hlt (by omega)
        obtain ⟨c, hc⟩ : ∃ c : Nat, (Utf8.decode a0 pos).1 = c := ⟨_, rfl⟩
        obtain ⟨p2, hp2⟩ : ∃ c : Nat, pos + (Utf8.decode a0 pos).2 = c := ⟨_, rfl⟩
        rw [hc, hp2] at hnx
        rw [hc] at hh
        rw [if_pos (by omega)] at hD
        have HE := HH.out
        rw [← hD] at HE
        simp only [Prod.mk.injEq] at HE
        obtain ⟨rfl, rfl⟩ := HE
        have hd1 : ¬ (c : Int) < 48 := by omega
        have hd2 : (57 : Int) < c := by omega
        clear hD hc hp2 hh
        go_wp2
        go_ret2
        exact ⟨rfl, HR.out _⟩
    · have hnx : ∀ ty, (Instr.next (.pointer (some ⟨w.heap.size, 0, none⟩)) true ty).run Tryd.prog (w.iter a0 pos) = _ := fun ty => run_next_end w a0 pos ty hlt
      have hD := HD.out
      rw [digs, dif_neg hlt] at hD
      have HE := HH.out
      rw [← hD] at HE
      simp only [Prod.mk.injEq] at HE
      obtain ⟨rfl, rfl⟩ := HE
      clear hD
      go_wp2
      all_goals go_ret2
      all_goals exact ⟨by first | rfl | simp [*], HR.out _⟩

-- NOT PRINTED: function 29 (utf8_RuneCountInString)

-- NOT PRINTED: function 30 (bytealg_CountString)

-- NOT PRINTED: function 31 (strings_Index)

/-! ### strings_Count: function 21 -/
def strings_Count.f (a0 a1 : ByteArray) : Option Int := if a0.size < 4294967281 then (if 1 ≤ a1.size then some (Lib.countB a0 a1 : Int) else none) else none
theorem strings_Count.calls (a0 a1 : ByteArray) (r : Int) (w : World) (hG : Glob w) (h : strings_Count.f a0 a1 = some r) :
    Calls Tryd.prog 21 #[.string a0, .string a1] w fun e w' => e = .returned (.int .i64 r) ∧ Below w.heap.size w w' := by
  obtain ⟨m, hm⟩ := hG.maxlen
  unfold strings_Count.f at h
  split at h
  · split at h
    · obtain rfl := Option.some.inj h
      refine (Tryd.strings_Count_any a0 a1 m w (by assumption) hm (by assumption)).mono ?_
      rintro e w' ⟨rfl, rfl⟩
      exact ⟨rfl, Below.refl _ _⟩
    · cases h
  · cases h

-- NOT PRINTED: function 47 (utf8_decodeRuneInStringSlow)

-- NOT PRINTED: function 40 (utf8_DecodeRuneInString)

-- NOT PRINTED: function 34 (strings_explode)

-- NOT PRINTED: function 28 (strings_genSplit)

/-! ### strings_Split: function 20 -/
def strings_Split.f (a0 a1 : ByteArray) : Option (List ByteArray) := if a0.size < 4294967281 then (if 1 ≤ a1.size then some (Lib.splitB a1 0 (Lib.countB a0 a1) a0) else none) else none
theorem strings_Split.calls (a0 a1 : ByteArray) (r : List ByteArray) (w : World) (hG : Glob w) (h : strings_Split.f a0 a1 = some r) :
    Calls Tryd.prog 20 #[.string a0, .string a1] w fun e w' => ∃ v0_ : Value, e = .returned (v0_) ∧ Kd.R Kd.string 9 w' w.heap.size (fun _ => True) v0_ r ∧ Below w.heap.size w w' := by
  obtain ⟨m, hm⟩ := hG.maxlen
  unfold strings_Split.f at h
  split at h
  · split at h
    · rename_i hs h1
      obtain rfl := Option.some.inj h
      have hlen := Lib.splitB_all a1 h1 0 _ a0 rfl
      have hle := Lib.countB_le a1 h1 a0.size a0 (Nat.le_refl _)
      refine (Tryd.strings_Split a0 a1 m w hs hm h1).mono ?_
      rintro e w' ⟨rfl, rfl⟩
      refine ⟨_, rfl, ?_, below_alloc (Below.refl _ _) _⟩
      have ho := World.ownsRow_lit (base := w.heap.size) (e := 9) (size := 1) w (((Lib.splitB a1 0 (Lib.countB a0 a1) a0).map Value.string).toArray) (Lib.splitB a1 0 (Lib.countB a0 a1) a0).length (Nat.le_refl _) (by rw [hlen]; unfold maxLen; omega) (by simp)
      rw [← hlen]
      exact Kd.R_of_own (enc := Value.string) (by simpa [encs] using ho) (fun _ _ => trivial)
    · cases h
  · cases h

end Go.Proofs.YtjgfdilikbeofaaDoor.P
