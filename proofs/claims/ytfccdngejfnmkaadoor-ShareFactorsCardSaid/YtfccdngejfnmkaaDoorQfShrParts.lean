/- cut to what one law reaches -/
import Derived.Test.YtfccdngejfnmkaaDoorQfShrSums
import Derived.Test.YtfccdngejfnmkaaDoorQfP0
import Derived.Test.YtfccdngejfnmkaaDoorQfP5
import Derived.Test.YtfccdngejfnmkaaDoorQfP6
namespace Go.Proofs.YtfccdngejfnmkaaDoor.Shr
open Go.RowKit Go.Proofs.YtfccdngejfnmkaaDoorW.PrintWords Go.Proofs.YtfccdngejfnmkaaDoorW.PrintLast Go.Proofs.YtfccdngejfnmkaaDoorW.PrintMore Go.Proofs.YtfccdngejfnmkaaDoor.P Go.Proofs.YtfccdngejfnmkaaDoor.NumM
set_option linter.unusedVariables false
set_option linter.unusedSimpArgs false
theorem sm_drop (us : List Int) : ∀ (t : Nat) (os : List Int) (i : Nat), (sm us os i).drop t = sm us (os.drop t) (i + t)
  | 0, os, i => by simp
  | t + 1, [], i => by simp [sm]
  | t + 1, o :: os, i => by
    rw [sm, List.drop_succ_cons, List.drop_succ_cons, sm_drop us t os (i + 1), show i + 1 + t = i + (t + 1) by omega]
theorem sm_at (us own : List Int) (i : Nat) (h : i < own.length) : (sm us own 0)[i]? = some (inn (i : Int) (us.drop (i + 1)) ((sm us own 0).drop (i + 1)) own[i]) := by
  have hd := sm_drop us i own 0
  rw [Nat.zero_add, List.drop_eq_getElem_cons h, sm] at hd
  have h2 := sm_drop us (i + 1) own 0
  rw [Nat.zero_add] at h2
  rw [h2]
  have : ((sm us own 0).drop i)[0]? = (sm us own 0)[i]? := by rw [List.getElem?_drop]; simp
  rw [← this, hd]; rfl
theorem sums_facts {l : List S37} {own : List Int} (h : OOK l own) : (sums l own).length = l.length ∧ NN (sums l own) ∧ (∀ (i : Nat) (o w : Int), own[i]? = some o → (sums l own)[i]? = some w → o ≤ w) ∧ (∀ (i j : Nat) (v w : Int), (ups l)[j]? = some (i : Int) → (sums l own)[j]? = some v → (sums l own)[i]? = some w → v ≤ w) := by
  obtain ⟨h1, h2, h3⟩ := h
  have hN : NN (sums l own) := sm_nn _ _ _ h3
  have hlen : (sums l own).length = l.length := by unfold sums; rw [sm_len]; exact h2
  have hat : ∀ (i : Nat) (w : Int), (sums l own)[i]? = some w → ∃ hi : i < own.length, w = inn (i : Int) ((ups l).drop (i + 1)) ((sums l own).drop (i + 1)) own[i] := by
    intro i w hw
    have hi : i < own.length := by
      rcases Nat.lt_or_ge i own.length with q | q
      · exact q
      · rw [List.getElem?_eq_none (by omega)] at hw; cases hw
    refine ⟨hi, ?_⟩
    have := sm_at (ups l) own i hi
    unfold sums at hw
    rw [this] at hw
    exact (Option.some.inj hw).symm
  have hdr : ∀ i, NN ((sums l own).drop i) := fun i x hx => hN x (List.mem_of_mem_drop hx)
  refine ⟨hlen, hN, fun i o w ho hw => ?_, fun i j v w hu hv hw => ?_⟩
  · obtain ⟨hi, e⟩ := hat i w hw
    have : o = own[i] := by rw [List.getElem?_eq_getElem hi] at ho; exact (Option.some.inj ho).symm
    rw [e, this]
    exact (inn_nn _ _ _ _ (hdr _) (h3 _ (List.getElem_mem hi))).2.1
  · obtain ⟨hi, e⟩ := hat i w hw
    have hjl : j < l.length := by
      rw [← ups_len h1]
      rcases Nat.lt_or_ge j (ups l).length with q | q
      · exact q
      · rw [List.getElem?_eq_none q] at hu; cases hu
    obtain ⟨u, g1, g2, g3⟩ := ups_at h1 j l[j] (List.getElem?_eq_getElem hjl)
    rw [hu] at g1
    have gu := Option.some.inj g1
    have hij : i < j := by
      rcases Nat.eq_zero_or_pos j with q | q
      · have := g2 q; omega
      · obtain ⟨j', b, k1, k2, _⟩ := g3 q
        omega
    rw [e]
    refine (inn_nn _ _ _ _ (hdr _) (h3 _ (List.getElem_mem hi))).2.2 (j - (i + 1)) v ?_ ?_
    · rw [List.getElem?_drop, show i + 1 + (j - (i + 1)) = j by omega]; exact hu
    · rw [List.getElem?_drop, show i + 1 + (j - (i + 1)) = j by omega]; exact hv
theorem sums_first {l : List S37} {own : List Int} (h : OOK l own) {w0 : Int} (h0 : (sums l own)[0]? = some w0) : ∀ (j : Nat) (v : Int), (sums l own)[j]? = some v → v ≤ w0 := by
  intro j
  induction j using Nat.strongRecOn with
  | ind j ih =>
    intro v hv
    obtain ⟨f1, f2, f3, f4⟩ := sums_facts h
    rcases Nat.eq_zero_or_pos j with q | q
    · subst q
      rw [h0] at hv
      have := Option.some.inj hv
      omega
    · have hjl : j < l.length := by
        rw [← f1]
        rcases Nat.lt_or_ge j (sums l own).length with q | q
        · exact q
        · rw [List.getElem?_eq_none q] at hv; cases hv
      obtain ⟨u, g1, g2, g3⟩ := ups_at h.1 j l[j] (List.getElem?_eq_getElem hjl)
      obtain ⟨i, b, k1, k2, k3, _⟩ := g3 q
      rw [k1] at g1
      have hil : i < (sums l own).length := by omega
      have hw := List.getElem?_eq_getElem hil
      have a1 := f4 i j v _ g1 hv hw
      have a2 := ih i k2 _ hw
      omega
/-- what of all one has had -/
def partOf (w0 n : Int) : Int := if 0 < w0 then n * 65536 / w0 else 0
def parts (W : List Int) : List Int := W.map (partOf (rd W 0))
theorem part_md {w0 n : Int} (h0 : 0 < w0) (hw : w0 ≤ 9223372036854775807) (hn : 0 ≤ n) (hle : n ≤ w0) : Ev (fun k => num_MulDiv.f k n 65536 w0) (partOf w0 n, 0) ∧ 0 ≤ partOf w0 n ∧ partOf w0 n ≤ 65536 := by
  have e1 : 0 ≤ n * 65536 / w0 := Int.ediv_nonneg (by omega) (by omega)
  have e2 : n * 65536 / w0 ≤ 65536 := Int.ediv_le_of_le_mul h0 (by omega)
  have h := muldiv_ev n 65536 w0 (by unfold fits; omega) (by unfold fits; omega) (by unfold fits; omega)
  rw [if_neg (by omega), if_pos (by unfold fits; omega)] at h
  unfold partOf
  rw [if_pos h0]
  exact ⟨h, e1, e2⟩
theorem parts_l0 (W : List Int) (hW : W.length ≤ 1000) (hN : NN W) (hmax : ∀ x ∈ W, x ≤ rd W 0) : ∀ (m j : Nat), j + m = W.length →
    Ev (fun k => share_Parts.l0 k W ((parts W).take j ++ List.replicate m 0) W (W.length : Int) (j : Int)) (parts W, 0)
  | 0, j, hj => by
    refine Ev.step (fun k => by rw [share_Parts.l0]) ?_
    refine ev_neg (by omega) ?_
    have : (parts W).take j ++ List.replicate 0 0 = parts W := by
      rw [List.take_of_length_le (by unfold parts; simp; omega)]; simp
    rw [this]
    exact Ev.now _
  | m + 1, j, hj => by
    have ih := parts_l0 W hW hN hmax m (j + 1) (by omega)
    have hjW : j < W.length := by omega
    have hr : rd W (j : Int) = W[j] := rd_get? (List.getElem?_eq_getElem hjW)
    have hmem := List.getElem_mem hjW
    have hn := hN _ hmem
    have hm := hmax _ hmem
    have hpl : (parts W).length = W.length := by unfold parts; simp
    have hpj : (parts W)[j]? = some (partOf (rd W 0) W[j]) := by unfold parts; rw [List.getElem?_map, List.getElem?_eq_getElem hjW]; rfl
    have htk : (parts W).take (j + 1) = (parts W).take j ++ [partOf (rd W 0) W[j]] := by
      rw [List.take_add_one, hpj]; rfl
    have hlen : ((parts W).take j ++ List.replicate (m + 1) 0).length = W.length := by
      rw [List.length_append, List.length_take, List.length_replicate]; omega
    have hlt : ((parts W).take j).length = j := by rw [List.length_take]; omega
    have hset : ∀ z, ((parts W).take j ++ List.replicate (m + 1) 0).set j z = (parts W).take j ++ z :: List.replicate m 0 := by
      intro z
      rw [List.set_append, if_neg (by omega), hlt, Nat.sub_self, List.replicate_succ, List.set_cons_zero]
    have heq : (parts W).take (j + 1) ++ List.replicate m 0 = (parts W).take j ++ partOf (rd W 0) W[j] :: List.replicate m 0 := by rw [htk]; simp
    rw [heq] at ih
    refine Ev.step (fun k => by rw [share_Parts.l0]) ?_
    refine ev_pos (by omega) (ev_pos (by omega) (ev_pos (by omega) (ev_pos (by omega) ?_)))
    rw [hr, wnat j (by omega)]
    by_cases h0 : rd W 0 > 0
    · have hw0 : rd W 0 ≤ 9223372036854775807 := by
        have h1 := rd_in (l := W) (u := 0) (by omega) (by omega)
        exact (rd_nn hN h1).2
      refine ev_pos h0 (Ev.bind (part_md h0 hw0 hn.1 hm).1 (ev_pos (by omega) ?_))
      rw [Int.toNat_natCast, hset]
      exact ih
    · refine ev_neg h0 ?_
      have hz : partOf (rd W 0) W[j] = 0 := by unfold partOf; rw [if_neg h0]
      rw [hz] at ih
      rw [List.replicate_succ]
      exact ih
theorem parts_ev {l : List S37} {own : List Int} (hs : Small l own) : Ev (fun k => share_Parts.f k l own) (if rightE l own = 0 then (parts (sums l own), 0) else ([], rightE l own)) := by
  have hv := sums_ev hs
  unfold share_Parts.f
  obtain ⟨h1, h2, h3, h4⟩ := hs
  by_cases h : rightE l own = 0
  · rw [if_pos h] at hv ⊢
    have ho := (rightE_ok h4).1 h
    obtain ⟨f1, f2, f3, f4⟩ := sums_facts ho
    refine Ev.bind hv (ev_pos rfl (ev_pos (by omega) (ev_pos (by omega) ?_)))
    have hn := (tok_parts ho.1).2.1
    have hm : ∀ x ∈ sums l own, x ≤ rd (sums l own) 0 := by
      intro x hx
      obtain ⟨j, hj⟩ := List.mem_iff_getElem?.1 hx
      have h0 := rd_in (l := sums l own) (u := 0) (by omega) (by omega)
      exact sums_first ho h0 j x hj
    have := parts_l0 (sums l own) (by omega) f2 hm (sums l own).length 0 (by omega)
    rw [List.take_zero, List.nil_append, f1] at this
    rw [Int.toNat_natCast, f1]
    exact this
  · rw [if_neg h] at hv ⊢
    refine Ev.bind hv (ev_neg h (Ev.now _))
/-- the one against the other -/
def fac (n p : Int) : Int := if 0 < n + p then 65536 * n / (n + p) else 0
def facs : List Int → List Int → List Int
  | n :: r, p :: s => fac n p :: facs r s
  | _, _ => []
theorem facs_len : ∀ (N P : List Int), N.length = P.length → (facs N P).length = N.length
  | [], P, h => by simp [facs]
  | a :: N, [], h => by simp at h
  | a :: N, b :: P, h => by rw [facs, List.length_cons, List.length_cons, facs_len N P (by simpa using h)]
theorem factors_l0 (N P : List Int) (hl : N.length = P.length) (hN1 : N.length ≤ 1000) (hN : Unit01 N) (hP : Unit01 P) : ∀ (m j : Nat) (out : List Int), j + m = N.length → out.length = j →
    Ev (fun k => share_Factors.l0 k P out N (N.length : Int) (j : Int)) (out ++ facs (N.drop j) (P.drop j), 0)
  | 0, j, out, hj, ho => by
    refine Ev.step (fun k => by rw [share_Factors.l0]) ?_
    refine ev_neg (by omega) ?_
    rw [List.drop_eq_nil_of_le (by omega), facs, List.append_nil]
    · exact Ev.now _
    · intro _ _ _ _ q _; cases q
  | m + 1, j, out, hj, ho => by
    have hjN : j < N.length := by omega
    have hjP : j < P.length := by omega
    have hrN : rd N (j : Int) = N[j] := rd_get? (List.getElem?_eq_getElem hjN)
    have hrP : rd P (j : Int) = P[j] := rd_get? (List.getElem?_eq_getElem hjP)
    have hn := hN _ (List.getElem_mem hjN)
    have hp := hP _ (List.getElem_mem hjP)
    have ih := factors_l0 N P hl hN1 hN hP m (j + 1) (out ++ [fac N[j] P[j]]) (by omega) (by simp [ho])
    rw [List.drop_eq_getElem_cons hjN, List.drop_eq_getElem_cons hjP, facs]
    rw [List.append_assoc, List.singleton_append] at ih
    have e1 : wrap64 (N[j] + P[j]) = N[j] + P[j] := w64 (by omega)
    have e2 : wrap64 (65536 * N[j]) = 65536 * N[j] := w64 (by omega)
    refine Ev.step (fun k => by rw [share_Factors.l0]) ?_
    refine ev_pos (by omega) (ev_pos (by omega) (ev_pos (by omega) (ev_pos (by omega) ?_)))
    rw [hrN, hrP, wnat j (by omega), e1, e2]
    clear e1 e2
    by_cases h0 : N[j] + P[j] > 0
    · have q1 : 0 ≤ 65536 * N[j] / (N[j] + P[j]) := Int.ediv_nonneg (by omega) (by omega)
      have q2 : 65536 * N[j] / (N[j] + P[j]) ≤ 65536 * N[j] := Int.ediv_le_self _ (by omega)
      have hf : fac N[j] P[j] = 65536 * N[j] / (N[j] + P[j]) := by unfold fac; rw [if_pos h0]
      rw [hf] at ih ⊢
      refine ev_pos h0 (ev_neg (by omega) (ev_pos (by omega) ?_))
      rw [Int.tdiv_eq_ediv_of_nonneg (by omega), w64 (by omega)]
      exact ih
    · have hf : fac N[j] P[j] = 0 := by unfold fac; rw [if_neg h0]
      rw [hf] at ih ⊢
      exact ev_neg h0 (ev_pos (by omega) ih)
theorem parts_unit {l : List S37} {own : List Int} (h : OOK l own) : (parts (sums l own)).length = l.length ∧ Unit01 (parts (sums l own)) := by
  obtain ⟨f1, f2, f3, f4⟩ := sums_facts h
  have hn := (tok_parts h.1).2.1
  refine ⟨by unfold parts; rw [List.length_map, f1], fun x hx => ?_⟩
  unfold parts at hx
  obtain ⟨n, hm, rfl⟩ := List.mem_map.1 hx
  have h0 := rd_in (l := sums l own) (u := 0) (by omega) (by omega)
  obtain ⟨j, hj⟩ := List.mem_iff_getElem?.1 hm
  have hle := sums_first h h0 j n hj
  have hnn := f2 n hm
  have hw := (rd_nn f2 h0).2
  by_cases q : 0 < rd (sums l own) 0
  · exact (part_md q hw hnn.1 hle).2
  · unfold partOf; rw [if_neg q]; omega
def factors (l : List S37) (own : List Int) : List Int := facs (norms l) (parts (sums l own))
theorem factors_ev {l : List S37} {own : List Int} (hs : Small l own) : Ev (fun k => share_Factors.f k l own) (if rightE l own = 0 then (factors l own, 0) else ([], rightE l own)) := by
  have hv := parts_ev hs
  unfold share_Factors.f
  obtain ⟨h1, h2, h3, h4⟩ := hs
  by_cases h : rightE l own = 0
  · rw [if_pos h] at hv ⊢
    have ho := (rightE_ok h4).1 h
    obtain ⟨n1, n2, n3, n4⟩ := norms_facts ho.1
    obtain ⟨p1, p2⟩ := parts_unit ho
    have hN := norms_ev l h1 h3
    rw [if_pos ho.1] at hN
    refine Ev.bind hv (ev_pos rfl (Ev.bind hN ?_))
    have := factors_l0 (norms l) (parts (sums l own)) (by omega) (by omega) n2 p2 (norms l).length 0 [] (by omega) rfl
    unfold factors
    simpa using this
  · rw [if_neg h] at hv ⊢
    refine Ev.bind hv (ev_neg h (Ev.now _))
end Go.Proofs.YtfccdngejfnmkaaDoor.Shr
