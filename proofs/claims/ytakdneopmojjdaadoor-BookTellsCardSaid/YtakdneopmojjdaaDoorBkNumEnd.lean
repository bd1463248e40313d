/- cut to what one law reaches -/
import Derived.Test.YtakdneopmojjdaaDoorBkNumCut
import Derived.Test.YtakdneopmojjdaaDoorBkP0
import Derived.Test.YtakdneopmojjdaaDoorBkP15
namespace Go.Proofs.YtakdneopmojjdaaDoor.NumM
open Go.RowKit Go.Proofs.YtakdneopmojjdaaDoorW.PrintWords Go.Proofs.YtakdneopmojjdaaDoorW.PrintLast Go.Proofs.YtakdneopmojjdaaDoorW.PrintMore Go.Proofs.YtakdneopmojjdaaDoor.P
set_option linter.unusedVariables false
/-- the value of a wide number -/
def sv (m : Bool) (h l : Int) : Int:=if m = true then -(h * 18446744073709551616 + l) else h * 18446744073709551616 + l
theorem of_f (a : Int) (ha : fits a) : gangerref01_Of.f a = some (decide (a < 0),0,(a.natAbs : Int)):=by
  unfold gangerref01_Of.f gangerref01_size.f
  unfold fits at ha
  by_cases h : a < 0
  · rw [if_pos h,w64 (x:=a + 1) (by omega),w64 (x:=-(a + 1)) (by omega),u64 (x:=-(a + 1)) (by omega),u64 (by omega)]
    simp only [Option.bind_some]
    congr 3
    omega
  · rw [if_neg h,u64 (by omega)]
    simp only [Option.bind_some]
    congr 3
    omega
theorem sv_of (a : Int) : sv (decide (a < 0)) 0 (a.natAbs : Int) = a:=by
  unfold sv;by_cases h : a < 0
  · rw [if_pos (by simpa using h)];omega
  · rw [if_neg (by simpa using h)];omega
theorem narrow_at (m : Bool) (h l : Int) (hh : 0≤h) (hl : 0≤l) (hl' : l < 18446744073709551616) (k : Nat) :
    gangerref01_Wide_Narrow.f (k + 1 + 1) m h l = some (if fits (sv m h l) then (sv m h l,true) else (0,false)):=by
  unfold gangerref01_Wide_Narrow.f
  simp only [gangerref01_Wide_Narrow.j0,gangerref01_Wide_Narrow.j1]
  by_cases c : h > 0
  · rw [if_pos c,if_pos trivial,if_neg (c:=fits _)]
    unfold fits sv;split <;> omega
  · obtain rfl : h = 0:=by omega
    rw [if_neg c]
    by_cases c2 : l > 9223372036854775808
    · rw [if_pos (c:=decide _ = true) (by simpa using c2),if_neg (c:=fits _)]
      unfold fits sv;split <;> omega
    · rw [if_neg (c:=decide _ = true) (by simpa using c2)]
      cases m with
      | true =>
        have e : sv true 0 l = -l:=by unfold sv;simp
        rw [e]
        by_cases c3 : l = 9223372036854775808
        · subst c3;simp;decide
        · rw [if_pos rfl,if_neg (by simpa using c3),if_neg (by omega),if_pos rfl,w64 (x:=l) (by omega),w64 (x:=-l) (by omega)]
          rw [if_pos (by unfold fits;omega)]
      | false =>
        rw [if_neg (by simp),if_neg (by simp)]
        have e : sv false 0 l = l:=by unfold sv;simp
        rw [e]
        by_cases c3 : l > 9223372036854775807
        · rw [if_pos c3,if_neg (by unfold fits;omega)]
        · rw [if_neg c3,if_neg (by simp),w64 (by omega),if_pos (by unfold fits;omega)]
theorem narrow_ev (m : Bool) (h l : Int) (hh : 0≤h) (hl : 0≤l) (hl' : l < 18446744073709551616) :
    Ev (fun k=>gangerref01_Wide_Narrow.f k m h l) (if fits (sv m h l) then (sv m h l,true) else (0,false)) :=
  ev_at 2 (narrow_at m h l hh hl hl')
theorem end_ev (m : Bool) (h l : Int) (hh : 0≤h) (hl : 0≤l) (hl' : l < 18446744073709551616) :
    Ev (fun k=>gangerref01_End.f k m h l) (cutoff (sv m h l)):=by
  unfold gangerref01_End.f
  refine Ev.bind (narrow_ev m h l hh hl hl') ?_
  by_cases c : fits (sv m h l)
  · simp only [if_pos c,if_true]
    have e : cutoff (sv m h l) = sv m h l:=by unfold cutoff;unfold fits at c;rw [if_neg (by omega),if_neg (by omega)]
    rw [e];exact Ev.now _
  · simp only [if_neg c]
    have e : cutoff (sv m h l) = if m = true then -9223372036854775808 else 9223372036854775807:=by
      unfold cutoff;unfold fits at c;unfold sv at c ⊢
      cases m
      · simp only [Bool.false_eq_true,if_false] at c ⊢;rw [if_neg (by omega),if_pos (by omega)]
      · simp only [if_true] at c ⊢;rw [if_pos (by omega)]
    rw [e]
    cases m
    · exact Ev.now _
    · exact Ev.now _
theorem plus_f (m m' : Bool) (h l h' l' : Int) (hh : 0≤h∧h < 18446744073709551616) (hl : 0≤l∧l < 18446744073709551616) (hh' : 0≤h'∧h' < 18446744073709551616) (hl' : 0≤l'∧l' < 18446744073709551616) :
    gangerref01_plus.f m h l m' h' l' = some (m,((h * 18446744073709551616 + l + (h' * 18446744073709551616 + l')) / 18446744073709551616) % 18446744073709551616,(h * 18446744073709551616 + l + (h' * 18446744073709551616 + l')) % 18446744073709551616):=by
  unfold gangerref01_plus.f
  simp only [IntKind.wrap_u64]
  by_cases c : (l + l') % 18446744073709551616 < l
  · rw [if_pos c]
    refine congrArg some (Prod.ext rfl (Prod.ext ?_ ?_)) <;> simp only [] <;> omega
  · rw [if_neg c]
    refine congrArg some (Prod.ext rfl (Prod.ext ?_ ?_)) <;> simp only [] <;> omega
theorem less_f (m m' : Bool) (h l h' l' : Int) (hl : 0≤l∧l < 18446744073709551616) (hl' : 0≤l'∧l' < 18446744073709551616) :
    gangerref01_less.f m h l m' h' l' = some (decide (h * 18446744073709551616 + l < h' * 18446744073709551616 + l')):=by
  unfold gangerref01_less.f
  by_cases c : h < h'
  · rw [if_pos c];refine congrArg some ?_;symm;rw [decide_eq_true_iff];omega
  · rw [if_neg c]
    by_cases d : h = h'
    · rw [if_pos d];refine congrArg some ?_;rw [decide_eq_decide];omega
    · rw [if_neg d];refine congrArg some ?_;symm;rw [decide_eq_false_iff_not];omega
theorem minus_f (m m' : Bool) (h l h' l' : Int) (hh : h < 18446744073709551616) (hl : 0≤l∧l < 18446744073709551616) (hh' : 0≤h') (hl' : 0≤l'∧l' < 18446744073709551616) (hle : h' * 18446744073709551616 + l'≤h * 18446744073709551616 + l) :
    gangerref01_minus.f m h l m' h' l' = some (m,((h * 18446744073709551616 + l) - (h' * 18446744073709551616 + l')) / 18446744073709551616,((h * 18446744073709551616 + l) - (h' * 18446744073709551616 + l')) % 18446744073709551616):=by
  unfold gangerref01_minus.f
  simp only [IntKind.wrap_u64]
  by_cases c : l < l'
  · rw [if_pos c]
    refine congrArg some (Prod.ext rfl (Prod.ext ?_ ?_)) <;> simp only [] <;> omega
  · rw [if_neg c]
    refine congrArg some (Prod.ext rfl (Prod.ext ?_ ?_)) <;> simp only [] <;> omega
/-- a sum of wide numbers that don't come near 2^128 -/
theorem Plus_f (m m' : Bool) (h l h' l' : Int) (hh : 0≤h∧h < 9223372036854775808) (hl : 0≤l∧l < 18446744073709551616) (hh' : 0≤h'∧h' < 9223372036854775808) (hl' : 0≤l'∧l' < 18446744073709551616) :
    ∃ n a b,gangerref01_Plus.f m h l m' h' l' = some (n,a,b)∧0≤a∧a < 18446744073709551616∧0≤b∧b < 18446744073709551616∧sv n a b = sv m h l + sv m' h' l':=by
  unfold gangerref01_Plus.f
  by_cases c : (m == m') = true
  · obtain rfl : m = m':=by simpa using c
    rw [if_pos c,plus_f m m h l h' l' (by omega) hl (by omega) hl']
    simp only [Option.bind_some]
    refine ⟨_,_,_,rfl,by omega,by omega,by omega,by omega,?_⟩
    unfold sv;split <;> omega
  · rw [if_neg c,less_f m m' h l h' l' hl hl']
    simp only [Option.bind_some]
    by_cases d : h * 18446744073709551616 + l < h' * 18446744073709551616 + l'
    · rw [if_pos (by simpa using d),minus_f m' m h' l' h l (by omega) hl' (by omega) hl (by omega)]
      simp only [Option.bind_some]
      refine ⟨_,_,_,rfl,by omega,by omega,by omega,by omega,?_⟩
      unfold sv;revert c;cases m <;> cases m' <;> simp <;> omega
    · rw [if_neg (by simpa using d),minus_f m m' h l h' l' (by omega) hl (by omega) hl' (by omega)]
      simp only [Option.bind_some]
      refine ⟨_,_,_,rfl,by omega,by omega,by omega,by omega,?_⟩
      unfold sv;revert c;cases m <;> cases m' <;> simp <;> omega
end Go.Proofs.YtakdneopmojjdaaDoor.NumM
