/- cut to what one law reaches -/
import Derived.Test.YtakdneopmojjdaaDoorBfNumCut
import Derived.Test.YtakdneopmojjdaaDoorBfP0
import Derived.Test.YtakdneopmojjdaaDoorBfP7
namespace Go.Proofs.YtakdneopmojjdaaDoor.NumM
open Go.RowKit Go.Proofs.YtakdneopmojjdaaDoorW.PrintWords Go.Proofs.YtakdneopmojjdaaDoorW.PrintLast Go.Proofs.YtakdneopmojjdaaDoorW.PrintMore Go.Proofs.YtakdneopmojjdaaDoor.P
set_option linter.unusedVariables false
/-- one behind the other, cut off -/
def csum (l : List Int) : Int:=l.foldl (fun s n=>cutoff (s + n)) 0
theorem cut_fits (v : Int) : fits (cutoff v):=by unfold fits cutoff;split <;> (try split) <;> omega
theorem csum_fits (l : List Int) : fits (csum l):=by
  unfold csum
  have : ∀ (l : List Int) (s : Int),fits s→fits (l.foldl (fun s n=>cutoff (s + n)) s):=by
    intro l
    induction l with
    | nil=>intro s h;exact h
    | cons x l ih=>intro s h;exact ih _ (cut_fits _)
  exact this l 0 (by unfold fits;omega)
theorem csum_snoc (l : List Int) (x : Int) : csum (l ++ [x]) = cutoff (csum l + x):=by unfold csum;rw [List.foldl_append];rfl
theorem rd_at (l : List Int) (i : Nat) (h : i < l.length) : rd l (i : Int) = l[i]:=by
  unfold rd;rw [Int.toNat_natCast,List.getD_eq_getElem?_getD,List.getElem?_eq_getElem h];rfl
theorem csum_step (l : List Int) (i : Nat) (h : i < l.length) : csum (l.take (i + 1)) = cutoff (csum (l.take i) + rd l i):=by
  rw [List.take_succ_eq_append_getElem h,csum_snoc,rd_at l i h]
theorem sum_l (l : List Int) (hl : ∀ x ∈ l,fits x) (hb : l.length < 4611686018427387904) (d : Nat) : ∀ (i : Nat),i + d = l.length→∀ k,d < k →
    num_Sum.l0 k (csum (l.take i)) l l.length i = some (csum l):=by
  induction d with
  | zero =>
    intro i hi k hk
    obtain ⟨k,rfl⟩ : ∃ j,k = j + 1:=⟨k - 1,by omega⟩
    simp only [num_Sum.l0]
    rw [if_neg (by omega),List.take_of_length_le (by omega)]
  | succ d ih =>
    intro i hi k hk
    obtain ⟨k,rfl⟩ : ∃ j,k = j + 1:=⟨k - 1,by omega⟩
    have hlt : i < l.length:=by omega
    have hx : fits (rd l i):=by rw [rd_at l i hlt];exact hl _ (List.getElem_mem hlt)
    have hs:=csum_fits (l.take i)
    have hst:=csum_step l i hlt
    simp only [num_Sum.l0]
    rw [if_pos (by omega),if_pos (by omega),if_pos (by omega),add_f _ _ hs hx,Option.bind_some]
    have ih':=ih (i + 1) (by omega) k (by omega)
    rw [hst] at ih'
    have hw : wrap64 ((i : Int) + 1) = ((i + 1 : Nat) : Int):=by rw [w64 (by omega)];omega
    rw [hw]
    by_cases c : fits (csum (l.take i) + rd l i)
    · rw [if_pos c,if_pos rfl]
      have e : cutoff (csum (l.take i) + rd l i) = csum (l.take i) + rd l i:=by
        unfold fits at c;unfold cutoff;rw [if_neg (by omega),if_neg (by omega)]
      rw [e] at ih'
      exact ih'
    · rw [if_neg c,if_neg (by decide)]
      unfold fits at c hs hx
      by_cases p : rd l i > 0
      · rw [if_pos p]
        have e : cutoff (csum (l.take i) + rd l i) = 9223372036854775807:=by unfold cutoff;rw [if_neg (by omega),if_pos (by omega)]
        rw [e] at ih';exact ih'
      · rw [if_neg p]
        have e : cutoff (csum (l.take i) + rd l i) = -9223372036854775808:=by unfold cutoff;rw [if_pos (by omega)]
        rw [e] at ih';exact ih'
theorem sum_ev (l : List Int) (hl : ∀ x ∈ l,fits x) (hb : l.length < 4611686018427387904) : Ev (fun k=>num_Sum.f k l) (csum l):=by
  refine Ev.of (fun k=>num_Sum.mono _ k) (k:=l.length + 1) ?_
  unfold num_Sum.f
  have h:=sum_l l hl hb l.length 0 (by omega) (l.length + 1) (by omega)
  rw [List.take_zero] at h
  exact h
end Go.Proofs.YtakdneopmojjdaaDoor.NumM
