/- NumCuts: a number that is cut lies between the ends, is the nearest one there, and is the same cut again; of each of four types. Conditions: none beyond an int's range. -/
import Derived.Test.YtlcdlfnmofopgaaNumCore
import Derived.Test.YtlcdlfnmofopgaaP0
import Derived.Test.YtlcdlfnmofopgaaP3
import Derived.Test.YtlcdlfnmofopgaaP8
import Derived.Test.YtlcdlfnmofopgaaP9
namespace Go.Proofs.Ytlcdlfnmofopgaa.Pure
open Go.RowKit Go.Proofs.YtlcdlfnmofopgaaW.PrintWords Go.Proofs.YtlcdlfnmofopgaaW.PrintLast Go.Proofs.YtlcdlfnmofopgaaW.PrintMore Go.Proofs.Ytlcdlfnmofopgaa.P Go.Proofs.Ytlcdlfnmofopgaa.NumM
set_option linter.unusedVariables false
/-- cut -/
def cut (n a b : Int) : Int := if n < a ∨ a > b then a else if n > b then b else n
theorem cut_between (n a b : Int) : gangerlaw01_between.f 1 n a b (cut n a b) = some true := by
  unfold gangerlaw01_between.f cut
  simp only [gangerlaw01_between.j0]
  by_cases c : a > b
  · rw [if_pos c, if_pos (by trivial), if_pos (.inr c)]; simp
  · rw [if_neg c]
    by_cases d : n < a
    · rw [if_pos (decide_eq_true d), if_pos (.inl d)]; simp
    · rw [if_neg (by simpa using d), if_neg (c := n < a ∨ a > b) (by omega)]
      by_cases e : n > b
      · rw [if_pos e, if_pos e]; simp
      · rw [if_neg e, if_neg e]; simp
theorem between_ev (n a b : Int) : Ev (fun k => gangerlaw01_between.f k n a b (cut n a b)) true := Ev.of (fun k => gangerlaw01_between.mono _ _ _ _ k) (cut_between n a b)
theorem cut_int (n a b : Int) : num_Cut_int.f 1 n a b = some (cut n a b) := by
  unfold num_Cut_int.f cut
  simp only [num_Cut_int.j0]
  by_cases d : n < a
  · rw [if_pos d, if_pos (by trivial), if_pos (.inl d)]
  · rw [if_neg d]
    by_cases c : a > b
    · rw [if_pos (decide_eq_true c), if_pos (.inr c)]
    · rw [if_neg (by simpa using c), if_neg (c := n < a ∨ a > b) (by omega)]
      by_cases e : n > b
      · rw [if_pos e, if_pos e]
      · rw [if_neg e, if_neg e]
theorem cut_int32 (n a b : Int) (ha : -2147483648 ≤ a ∧ a ≤ 2147483647) (hb : -2147483648 ≤ b ∧ b ≤ 2147483647) : num_Cut_int32.f 1 n a b = some (cut n a b) := by
  unfold num_Cut_int32.f cut
  simp only [num_Cut_int32.j0]
  rw [w64 (x := a) (by omega), w64 (x := b) (by omega)]
  by_cases d : n < a
  · rw [if_pos d, if_pos (by trivial), if_pos (.inl d)]
  · rw [if_neg d]
    by_cases c : a > b
    · rw [if_pos (decide_eq_true c), if_pos (.inr c)]
    · rw [if_neg (by simpa using c), if_neg (c := n < a ∨ a > b) (by omega)]
      by_cases e : n > b
      · rw [if_pos e, if_pos e]
      · rw [if_neg e, if_neg e, show wrap32 n = n by unfold wrap32; omega]
theorem i16w (n : Int) : IntKind.i16.wrap n = (n + 32768) % 65536 - 32768 := by
  simp only [IntKind.wrap, IntKind.bits, IntKind.signed]; simp; split <;> omega
theorem i8w (n : Int) : IntKind.i8.wrap n = (n + 128) % 256 - 128 := by
  simp only [IntKind.wrap, IntKind.bits, IntKind.signed]; simp; split <;> omega
theorem cut_int16 (n a b : Int) (ha : -32768 ≤ a ∧ a ≤ 32767) (hb : -32768 ≤ b ∧ b ≤ 32767) : num_Cut_int16.f 1 n a b = some (cut n a b) := by
  unfold num_Cut_int16.f cut
  simp only [num_Cut_int16.j0]
  rw [w64 (x := a) (by omega), w64 (x := b) (by omega)]
  by_cases d : n < a
  · rw [if_pos d, if_pos (by trivial), if_pos (.inl d)]
  · rw [if_neg d]
    by_cases c : a > b
    · rw [if_pos (decide_eq_true c), if_pos (.inr c)]
    · rw [if_neg (by simpa using c), if_neg (c := n < a ∨ a > b) (by omega)]
      by_cases e : n > b
      · rw [if_pos e, if_pos e]
      · rw [if_neg e, if_neg e, show IntKind.i16.wrap n = n by rw [i16w]; omega]
theorem cut_int8 (n a b : Int) (ha : -128 ≤ a ∧ a ≤ 127) (hb : -128 ≤ b ∧ b ≤ 127) : num_Cut_int8.f 1 n a b = some (cut n a b) := by
  unfold num_Cut_int8.f cut
  simp only [num_Cut_int8.j0]
  rw [w64 (x := a) (by omega), w64 (x := b) (by omega)]
  by_cases d : n < a
  · rw [if_pos d, if_pos (by trivial), if_pos (.inl d)]
  · rw [if_neg d]
    by_cases c : a > b
    · rw [if_pos (decide_eq_true c), if_pos (.inr c)]
    · rw [if_neg (by simpa using c), if_neg (c := n < a ∨ a > b) (by omega)]
      by_cases e : n > b
      · rw [if_pos e, if_pos e]
      · rw [if_neg e, if_neg e, show IntKind.i8.wrap n = n by rw [i8w]; omega]
theorem cut_range (n a b lo hi : Int) (ha : lo ≤ a ∧ a ≤ hi) (hb : lo ≤ b ∧ b ≤ hi) : lo ≤ cut n a b ∧ cut n a b ≤ hi := by
  unfold cut; split
  · exact ha
  · split
    · exact hb
    · omega
theorem cut_cut (n a b : Int) : cut (cut n a b) a b = cut n a b := by
  unfold cut
  by_cases c : n < a ∨ a > b
  · rw [if_pos c]; split
    · rfl
    · rw [if_neg (by omega)]
  · rw [if_neg c]
    by_cases d : n > b
    · rw [if_pos d, if_neg (by omega), if_neg (by omega)]
    · rw [if_neg d, if_neg (by omega), if_neg (by omega)]
theorem NumCuts : gangerlaw01_NumCuts.Pure := by
  intro n a b hn ha hb
  have hn := wf64 hn
  have ha := wf64 ha
  have hb := wf64 hb
  apply Ev.rounds (g := fun k => gangerlaw01_NumCuts.f k n a b)
  have a32 : -2147483648 ≤ wrap32 a ∧ wrap32 a ≤ 2147483647 := by unfold wrap32; omega
  have b32 : -2147483648 ≤ wrap32 b ∧ wrap32 b ≤ 2147483647 := by unfold wrap32; omega
  have a16 : -32768 ≤ IntKind.i16.wrap a ∧ IntKind.i16.wrap a ≤ 32767 := by rw [i16w]; omega
  have b16 : -32768 ≤ IntKind.i16.wrap b ∧ IntKind.i16.wrap b ≤ 32767 := by rw [i16w]; omega
  have a8 : -128 ≤ IntKind.i8.wrap a ∧ IntKind.i8.wrap a ≤ 127 := by rw [i8w]; omega
  have b8 : -128 ≤ IntKind.i8.wrap b ∧ IntKind.i8.wrap b ≤ 127 := by rw [i8w]; omega
  unfold gangerlaw01_NumCuts.f
  generalize wrap32 a = p at *
  generalize wrap32 b = p' at *
  generalize IntKind.i16.wrap a = q at *
  generalize IntKind.i16.wrap b = q' at *
  generalize IntKind.i8.wrap a = r at *
  generalize IntKind.i8.wrap b = r' at *
  have c32 := cut_range n p p' _ _ a32 b32
  have c16 := cut_range n q q' _ _ a16 b16
  have c8 := cut_range n r r' _ _ a8 b8
  refine Ev.bind (Ev.of (fun k => num_Cut_int.mono _ _ _ k) (cut_int n a b)) ?_
  refine Ev.bind (Ev.of (fun k => num_Cut_int32.mono _ _ _ k) (cut_int32 n _ _ a32 b32)) ?_
  refine Ev.bind (Ev.of (fun k => num_Cut_int16.mono _ _ _ k) (cut_int16 n _ _ a16 b16)) ?_
  refine Ev.bind (Ev.of (fun k => num_Cut_int8.mono _ _ _ k) (cut_int8 n _ _ a8 b8)) ?_
  rw [w64 (x := p) (by omega), w64 (x := p') (by omega), w64 (x := q) (by omega), w64 (x := q') (by omega), w64 (x := r) (by omega), w64 (x := r') (by omega), w64 (x := cut n p p') (by omega), w64 (x := cut n q q') (by omega), w64 (x := cut n r r') (by omega)]
  refine Ev.bind (between_ev _ _ _) ?_
  simp only [if_true]
  refine Ev.bind (between_ev _ _ _) ?_
  simp only [if_true]
  refine Ev.bind (between_ev _ _ _) ?_
  simp only [if_true]
  refine Ev.bind (between_ev _ _ _) ?_
  simp only [if_true]
  refine Ev.bind (Ev.of (fun k => num_Cut_int.mono _ _ _ k) (cut_int _ a b)) ?_
  rw [cut_cut]
  simp only [if_true]
  exact Ev.bind known_ev (Ev.now _)
end Go.Proofs.Ytlcdlfnmofopgaa.Pure
