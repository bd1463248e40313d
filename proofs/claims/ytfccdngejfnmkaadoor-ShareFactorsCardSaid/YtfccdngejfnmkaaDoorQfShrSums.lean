/- cut to what one law reaches -/
import Derived.Test.YtfccdngejfnmkaaDoorQfShrNorms
import Derived.Test.YtfccdngejfnmkaaDoorQfNumSum
import Derived.Test.YtfccdngejfnmkaaDoorQfP0
import Derived.Test.YtfccdngejfnmkaaDoorQfP3
import Derived.Test.YtfccdngejfnmkaaDoorQfP4
namespace Go.Proofs.YtfccdngejfnmkaaDoor.Shr
open Go.RowKit Go.Proofs.YtfccdngejfnmkaaDoorW.PrintWords Go.Proofs.YtfccdngejfnmkaaDoorW.PrintLast Go.Proofs.YtfccdngejfnmkaaDoorW.PrintMore Go.Proofs.YtfccdngejfnmkaaDoor.P Go.Proofs.YtfccdngejfnmkaaDoor.NumM
set_option linter.unusedVariables false
set_option linter.unusedSimpArgs false
/-- one account's own, and what its children have used -/
def inn (i : Int) : List Int → List Int → Int → Int
  | v :: us, o :: os, acc => inn i us os (if v = i then cutoff (acc + o) else acc)
  | _, _, acc => acc
/-- from the last one up -/
def sm (us : List Int) : List Int → Nat → List Int
  | [], _ => []
  | o :: os, i => inn (i : Int) (us.drop (i + 1)) (sm us os (i + 1)) o :: sm us os (i + 1)
theorem sm_len (us : List Int) : ∀ (os : List Int) (i : Nat), (sm us os i).length = os.length
  | [], i => rfl
  | o :: os, i => by rw [sm, List.length_cons, List.length_cons, sm_len us os (i + 1)]
def NN (l : List Int) : Prop := ∀ x ∈ l, 0 ≤ x ∧ x ≤ 9223372036854775807
theorem cut_nn {a b : Int} (ha : 0 ≤ a ∧ a ≤ 9223372036854775807) (hb : 0 ≤ b ∧ b ≤ 9223372036854775807) : (0 ≤ cutoff (a + b) ∧ cutoff (a + b) ≤ 9223372036854775807) ∧ a ≤ cutoff (a + b) ∧ b ≤ cutoff (a + b) := by
  unfold cutoff
  split
  · omega
  · split <;> omega
theorem inn_nn (i : Int) : ∀ (us os : List Int) (acc : Int), NN os → (0 ≤ acc ∧ acc ≤ 9223372036854775807) → (0 ≤ inn i us os acc ∧ inn i us os acc ≤ 9223372036854775807) ∧ acc ≤ inn i us os acc ∧ ∀ (j : Nat) (o : Int), us[j]? = some i → os[j]? = some o → o ≤ inn i us os acc
  | [], os, acc, ho, ha => ⟨by simpa [inn] using ha, by simp [inn], fun j o hj _ => by simp at hj⟩
  | v :: us, [], acc, ho, ha => ⟨by simpa [inn] using ha, by simp [inn], fun j o _ hj => by simp at hj⟩
  | v :: us, o :: os, acc, ho, ha => by
    have h0 := ho o (List.mem_cons_self ..)
    have hr : NN os := fun x hx => ho x (List.mem_cons_of_mem _ hx)
    have hc := cut_nn ha h0
    rw [inn]
    by_cases hv : v = i
    · rw [if_pos hv]
      obtain ⟨i1, i2, i3⟩ := inn_nn i us os (cutoff (acc + o)) hr hc.1
      refine ⟨i1, by omega, fun j x hj hx => ?_⟩
      cases j with
      | zero =>
        simp only [List.getElem?_cons_zero, Option.some.injEq] at hx
        subst hx; omega
      | succ j =>
        rw [List.getElem?_cons_succ] at hj hx
        exact i3 j x hj hx
    · rw [if_neg hv]
      obtain ⟨i1, i2, i3⟩ := inn_nn i us os acc hr ha
      refine ⟨i1, i2, fun j x hj hx => ?_⟩
      cases j with
      | zero =>
        simp only [List.getElem?_cons_zero, Option.some.injEq] at hj
        exact absurd hj hv
      | succ j =>
        rw [List.getElem?_cons_succ] at hj hx
        exact i3 j x hj hx
theorem sm_nn (us : List Int) : ∀ (os : List Int) (i : Nat), NN os → NN (sm us os i)
  | [], i, h => by intro x hx; cases hx
  | o :: os, i, h => by
    have ih := sm_nn us os (i + 1) (fun x hx => h x (List.mem_cons_of_mem _ hx))
    intro x hx
    rw [sm] at hx
    rcases List.mem_cons.1 hx with e | e
    · rw [e]; exact (inn_nn _ _ _ _ ih (h o (List.mem_cons_self ..))).1
    · exact ih x e
theorem wnat (j : Nat) (h : j ≤ 1000000) : wrap64 ((j : Int) + 1) = ((j + 1 : Nat) : Int) := by rw [w64 (by omega)]; omega
theorem wpred (j : Nat) (h : j ≤ 1000000) : wrap64 (((j + 1 : Nat) : Int) - 1) = (j : Int) := by rw [w64 (by omega)]; omega
theorem sum2 {a b : Int} (ha : 0 ≤ a ∧ a ≤ 9223372036854775807) (hb : 0 ≤ b ∧ b ≤ 9223372036854775807) : Ev (fun k => num_Sum.f k [a, b]) (cutoff (a + b)) := by
  have h := sum_ev [a, b] (by intro x hx; unfold fits; simp at hx; omega) (by simp)
  have e : csum [a, b] = cutoff (a + b) := by
    unfold csum
    simp only [List.foldl_cons, List.foldl_nil]
    have : cutoff (0 + a) = a := by unfold cutoff; split <;> (try split) <;> omega
    rw [this]
  rwa [e] at h
theorem rd_nn {l : List Int} (h : NN l) {i : Nat} {x : Int} (hx : l[i]? = some x) : 0 ≤ x ∧ x ≤ 9223372036854775807 := h x (List.mem_of_getElem? hx)
/-- the walk over an account's followers -/
theorem sums_l1 (l : List S37) (own us out : List Int) (i : Nat) (R : List Int × Int) (hul : us.length = l.length) (hol : out.length = l.length) (hl : l.length ≤ 1000) (hi : i < l.length) (hO : NN out) :
    ∀ (m j : Nat) (acc : Int), j + m = l.length → (0 ≤ acc ∧ acc ≤ 9223372036854775807) →
    Ev (fun k => share_Sums.l0 k l own us (out.set i (inn (i : Int) (us.drop j) (out.drop j) acc)) (wrap64 ((i : Int) - 1))) R →
    Ev (fun k => share_Sums.l1 k l own us out (i : Int) acc (j : Int)) R
  | 0, j, acc, hj, ha, h => by
    refine Ev.step (fun k => by rw [share_Sums.l1]) ?_
    refine ev_neg (by omega) (ev_pos (by omega) (ev_pos (by omega) ?_))
    rw [Int.toNat_natCast]
    rw [List.drop_eq_nil_of_le (by omega), inn] at h
    · exact h
    · intro _ _ _ _ q _; cases q
  | m + 1, j, acc, hj, ha, h => by
    have hju : j < us.length := by omega
    have hjo : j < out.length := by omega
    have hru : rd us (j : Int) = us[j] := rd_get? (List.getElem?_eq_getElem hju)
    have hro : rd out (j : Int) = out[j] := rd_get? (List.getElem?_eq_getElem hjo)
    have hon := hO _ (List.getElem_mem hjo)
    rw [List.drop_eq_getElem_cons hju, List.drop_eq_getElem_cons hjo, inn] at h
    refine Ev.step (fun k => by rw [share_Sums.l1]) ?_
    refine ev_pos (by omega) (ev_pos (by omega) (ev_pos (by omega) ?_))
    rw [hru, hro, wnat j (by omega)]
    by_cases hv : us[j] = (i : Int)
    · rw [if_pos hv] at h
      refine ev_pos hv (ev_pos (by omega) (Ev.bind (sum2 ha hon) ?_))
      exact sums_l1 l own us out i R hul hol hl hi hO m (j + 1) _ (by omega) (cut_nn ha hon).1 h
    · rw [if_neg hv] at h
      refine ev_neg hv ?_
      exact sums_l1 l own us out i R hul hol hl hi hO m (j + 1) acc (by omega) ha h
theorem rep_succ (n : Nat) (z : Int) : List.replicate (n + 1) z = List.replicate n z ++ [z] := List.replicate_succ'
theorem sums_l0 (l : List S37) (own us : List Int) (hul : us.length = l.length) (how : own.length = l.length) (hl : l.length ≤ 1000) (hO : NN own) : ∀ (i : Nat), i ≤ l.length →
    Ev (fun k => share_Sums.l0 k l own us (List.replicate i 0 ++ sm us (own.drop i) i) (wrap64 ((i : Int) - 1))) (sm us own 0, 0)
  | 0, hi => by
    refine Ev.step (fun k => by rw [share_Sums.l0]) ?_
    rw [w64 (by omega)]
    refine ev_neg (by omega) ?_
    rw [List.drop_zero]
    exact Ev.now _
  | i + 1, hi => by
    have ih := sums_l0 l own us hul how hl hO i (by omega)
    have hio : i < own.length := by omega
    have hr : rd own (i : Int) = own[i] := rd_get? (List.getElem?_eq_getElem hio)
    have hNs : NN (sm us (own.drop (i + 1)) (i + 1)) := sm_nn _ _ _ (fun x hx => hO x (List.mem_of_mem_drop hx))
    have hlen : (List.replicate (i + 1) (0 : Int) ++ sm us (own.drop (i + 1)) (i + 1)).length = l.length := by
      rw [List.length_append, List.length_replicate, sm_len, List.length_drop]; omega
    have hN : NN (List.replicate (i + 1) (0 : Int) ++ sm us (own.drop (i + 1)) (i + 1)) := by
      intro x hx
      rcases List.mem_append.1 hx with q | q
      · rw [List.eq_of_mem_replicate q]; omega
      · exact hNs x q
    rw [wpred i (by omega)]
    refine Ev.step (fun k => by rw [share_Sums.l0]) ?_
    refine ev_pos (by omega) (ev_pos (by omega) (ev_pos (by omega) ?_))
    rw [wnat i (by omega), hr]
    refine sums_l1 l own us _ i _ hul hlen hl (by omega) hN (l.length - (i + 1)) (i + 1) own[i] (by omega) (hO _ (List.getElem_mem hio)) ?_
    have hd : (List.replicate (i + 1) (0 : Int) ++ sm us (own.drop (i + 1)) (i + 1)).drop (i + 1) = sm us (own.drop (i + 1)) (i + 1) := by
      rw [List.drop_append_of_le_length (by simp)]
      simp
    rw [hd]
    have hset : ∀ z, (List.replicate (i + 1) (0 : Int) ++ sm us (own.drop (i + 1)) (i + 1)).set i z = List.replicate i 0 ++ z :: sm us (own.drop (i + 1)) (i + 1) := by
      intro z
      rw [rep_succ, List.append_assoc, List.set_append, if_neg (by simp)]
      simp
    rw [hset]
    rw [List.drop_eq_getElem_cons hio, sm] at ih
    exact ih
/-- what accounts that may be have used -/
def sums (l : List S37) (own : List Int) : List Int := sm (ups l) own 0
/-- accounts, and what they used, that may be -/
def OOK (l : List S37) (own : List Int) : Prop := TOK l = true ∧ own.length = l.length ∧ NN own
theorem rightE_ok {l : List S37} {own : List Int} (hw : ∀ x ∈ own, x ≤ 9223372036854775807) : rightE l own = 0 ↔ OOK l own := by
  unfold rightE OOK
  by_cases h1 : TOK l = true
  · rw [if_pos h1]
    by_cases h2 : own.length = l.length
    · rw [if_pos h2]
      by_cases h3 : own.all (fun x => decide (0 ≤ x)) = true
      · rw [if_pos h3]
        refine ⟨fun _ => ⟨h1, h2, fun x hx => ⟨?_, hw x hx⟩⟩, fun _ => rfl⟩
        simpa using List.all_eq_true.1 h3 x hx
      · rw [if_neg h3]
        refine ⟨fun q => (by omega), fun q => absurd ?_ h3⟩
        rw [List.all_eq_true]
        intro x hx
        exact decide_eq_true (q.2.2 x hx).1
    · rw [if_neg h2]
      exact ⟨fun q => (by omega), fun q => absurd q.2.1 h2⟩
  · rw [if_neg h1]
    exact ⟨fun q => (by omega), fun q => absurd q.1 h1⟩
def Small (l : List S37) (own : List Int) : Prop := l.length ≤ 60 ∧ own.length ≤ 100 ∧ (∀ x ∈ l, x.f0.size ≤ 300 ∧ x.f1.size ≤ 300) ∧ ∀ x ∈ own, x ≤ 9223372036854775807
theorem sums_ev {l : List S37} {own : List Int} (hs : Small l own) : Ev (fun k => share_Sums.f k l own) (if rightE l own = 0 then (sums l own, 0) else ([], rightE l own)) := by
  obtain ⟨h1, h2, h3, h4⟩ := hs
  unfold share_Sums.f
  refine Ev.bind (right_ev l own (by omega) (by omega) (fun x hx => (h3 x hx).1)) ?_
  by_cases h : rightE l own = 0
  · rw [if_pos h]
    obtain ⟨g1, g2, g3⟩ := (rightE_ok h4).1 h
    refine ev_pos h ?_
    rw [places_f h3 h1]
    refine Ev.bind (Ev.now _) (ev_pos (by omega) (ev_pos (by omega) ?_))
    have := sums_l0 l own (ups l) (ups_len g1) g2 (by omega) g3 l.length (Nat.le_refl _)
    rw [List.drop_eq_nil_of_le (by omega), sm, List.append_nil] at this
    rw [Int.toNat_natCast]
    exact this
  · rw [if_neg h]
    exact ev_neg h (Ev.now _)
end Go.Proofs.YtfccdngejfnmkaaDoor.Shr
