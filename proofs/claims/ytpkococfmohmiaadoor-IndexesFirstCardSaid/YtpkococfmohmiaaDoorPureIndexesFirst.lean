import Derived.Test.YtpkococfmohmiaaDoorIdxFacts
import Derived.Test.YtpkococfmohmiaaDoorP0
import Derived.Test.YtpkococfmohmiaaDoorP14
namespace Go.Proofs.YtpkococfmohmiaaDoor.Pure
open Go.RowKit Go.Proofs.YtpkococfmohmiaaDoorW.PrintWords Go.Proofs.YtpkococfmohmiaaDoorW.PrintLast Go.Proofs.YtpkococfmohmiaaDoorW.PrintMore Go.Proofs.YtpkococfmohmiaaDoor.P Go.Proofs.YtpkococfmohmiaaDoor.Idx
set_option linter.unusedVariables false
set_option linter.unusedSimpArgs false
theorem econs_ok {x : S53} {e : Except Nat (List S53)} {l : List S53} (h : econs x e = .ok l) : ∃ l', e = .ok l' := by
  cases e with
  | error q => cases h
  | ok l' => exact ⟨l', rfl⟩
/-- the place of a text's error, if it is wrong -/
def From (n : Nat) : Except Nat (List S53) → Prop
  | .error e => n ≤ e
  | .ok _ => True
def Only (n : Nat) : Except Nat (List S53) → Prop
  | .error e => e = n
  | .ok _ => True
theorem From.econs {n : Nat} {x : S53} {e : Except Nat (List S53)} (h : From n e) : From n (econs x e) := by
  cases e <;> exact h
theorem Only.econs {n : Nat} {x : S53} {e : Except Nat (List S53)} (h : Only n e) : Only n (econs x e) := by
  cases e <;> exact h
/-- whatever follows the first part of a text that is right: the error is not in that part -/
theorem scan_put (c : List UInt8) : ∀ (a b : List UInt8) (pos : Nat) (x : S53) (p d n : Nat) (la : List S53), scan (a ++ b) pos x p d n = .ok la →
    From (pos + a.length) (scan (a ++ c) pos x p d n) ∧ (c = [] → Only (pos + a.length) (scan (a ++ c) pos x p d n)) ∧ (∀ g t, c = g :: t → isD g = false → g ≠ 44 → g ≠ 45 → g ≠ 58 → g ≠ 37 → scan (a ++ c) pos x p d n = .error (pos + a.length))
  | [], b, pos, x, p, d, n, la, h => by
    simp only [List.nil_append, List.length_nil, Nat.add_zero]
    have hp : ∀ (c : List UInt8), From pos (scan c pos x p d n) := by
      intro c
      have : ∀ (r : List UInt8) (pos : Nat) (x : S53) (p d n : Nat), From pos (scan r pos x p d n) := by
        intro r
        induction r with
        | nil =>
          intro pos x p d n
          rw [scan]
          split
          · exact Nat.le_refl _
          · trivial
        | cons g r ih =>
          intro pos x p d n
          have up : ∀ e, From (pos + 1) e → From pos e := by
            intro e he
            cases e with
            | error q => exact Nat.le_of_succ_le he
            | ok l => trivial
          rw [scan]
          split
          · split
            · exact Nat.le_refl _
            · exact up _ (ih _ _ _ _ _)
          · split
            · exact Nat.le_refl _
            · split
              · exact up _ (ih _ _ _ _ _)
              · split
                · exact up _ (ih _ _ _ _ _)
                · split
                  · exact (up _ (ih _ _ _ _ _)).econs
                  · exact Nat.le_refl _
      exact this c pos x p d n
    refine ⟨hp c, ?_, ?_⟩
    · rintro rfl
      rw [scan]
      split
      · exact rfl
      · trivial
    · rintro g t rfl h1 h2 h3 h4 h5
      rw [scan, if_neg (by rw [h1]; simp)]
      simp only [h2, h3, h4, h5, false_and, or_self, if_false]
      split <;> rfl
  | g :: a, b, pos, x, p, d, n, la, h => by
    have e : pos + (g :: a).length = pos + 1 + a.length := by simp; omega
    rw [List.cons_append, scan] at h
    rw [List.cons_append, scan, e]
    split
    · rename_i c1
      rw [if_pos c1] at h
      split
      · rename_i c2
        rw [if_pos c2] at h; cases h
      · rename_i c2
        rw [if_neg c2] at h
        exact scan_put c a b _ _ _ _ _ la h
    · rename_i c1
      rw [if_neg c1] at h
      split
      · rename_i c2
        rw [if_pos c2] at h; cases h
      · rename_i c2
        rw [if_neg c2] at h
        split
        · rename_i c3
          rw [if_pos c3] at h
          exact scan_put c a b _ _ _ _ _ la h
        · rename_i c3
          rw [if_neg c3] at h
          split
          · rename_i c4
            rw [if_pos c4] at h
            exact scan_put c a b _ _ _ _ _ la h
          · rename_i c4
            rw [if_neg c4] at h
            split
            · rename_i c5
              rw [if_pos c5] at h
              obtain ⟨l', hl'⟩ := econs_ok h
              obtain ⟨i1, i2, i3⟩ := scan_put c a b _ _ _ _ _ l' hl'
              refine ⟨i1.econs, fun q => (i2 q).econs, fun g t q q1 q2 q3 q4 q5 => ?_⟩
              rw [i3 g t q q1 q2 q3 q4 q5]; rfl
            · rename_i c5
              rw [if_neg c5] at h; cases h
/-- an error of text is the scan's -/
theorem PR_60 {s : List UInt8} (h : (PR s).2.2.2 = 60) : ∃ e : Nat, scan s 0 x0 0 0 0 = .error e ∧ (PR s).2.2.1 = (e : Int) := by
  unfold PR at h ⊢
  cases e : scan s 0 x0 0 0 0 with
  | error q => exact ⟨q, rfl, rfl⟩
  | ok l =>
    rw [e] at h
    simp only [say, List.nil_append] at h
    unfold final at h
    cases hf : l.find? bad with
    | some x => rw [hf] at h; simp at h
    | none => rw [hf] at h; simp at h
theorem ev_ite {α : Type} {c : Prop} [Decidable c] {f g : Nat → Option α} {r : α} (h1 : c → Ev f r) (h2 : ¬ c → Ev g r) : Ev (fun k => if c then f k else g k) r := by
  by_cases h : c
  · exact ev_pos h (h1 h)
  · exact ev_neg h (h2 h)
theorem first_j1 (k n e : Int) (h : e = 60 → n ≥ k) : Ev (fun r => gangerlaw06_IndexesFirst.j1 r k n e false) true := by
  refine Ev.step (fun k => by rw [gangerlaw06_IndexesFirst.j1]) ?_
  refine ev_neg (by simp) (ev_ite (fun h60 => ev_pos (h h60) ?_) (fun _ => ?_))
  · exact hk
  · exact hk
theorem first_j2 (k n e : Int) (h : e = 60 → n ≥ k) : Ev (fun r => gangerlaw06_IndexesFirst.j2 r k n e false) true := by
  refine Ev.step (fun k => by rw [gangerlaw06_IndexesFirst.j2]) ?_
  refine ev_neg (by simp) (ev_ite (fun h60 => ev_pos (h h60) ?_) (fun _ => ?_))
  · exact hk
  · exact hk
theorem first_j0 (s : List UInt8) (hs : s.length ≤ 5000) (la : List S53) (ha : scan s 0 x0 0 0 0 = .ok la) (k : Nat) (hk : k ≤ s.length) (g : Int) (hg : 0 ≤ g ∧ g ≤ 255) : Ev (fun r => gangerlaw06_IndexesFirst.j0 r g (mk s) (k : Int) false) true := by
  refine Ev.step (fun k => by rw [gangerlaw06_IndexesFirst.j0]) ?_
  refine ev_neg (by simp) (ev_pos (by omega) (ev_pos (by rw [mk_size]; omega) (Ev.bind (Ev.now _) ?_)))
  have x1 : (mk s).extract 0 ((k : Nat) : Int).toNat = mk (s.take k) := by rw [Int.toNat_natCast, mk_extract]; simp
  have x2 : (mk s).extract ((k : Nat) : Int).toNat (mk s).size = mk (s.drop k) := by
    rw [Int.toNat_natCast, mk_extract, mk_size, List.take_of_length_le (by rw [List.length_drop]; omega)]
  have x3 : strOfNums [g] = mk [UInt8.ofNat g.toNat] := rfl
  rw [x1, x2, x3, mk_append, mk_append]
  refine ev_pos (by simp only [mk_size, List.length_take, List.length_cons, List.length_nil]; omega) (ev_pos (by simp only [mk_size, List.length_append, List.length_take, List.length_drop, List.length_cons, List.length_nil]; omega) ?_)
  rw [List.append_assoc, parse_PR _ (by simp; omega)]
  refine Ev.bind (Ev.now _) ?_
  have hb : (UInt8.ofNat g.toNat).toNat = g.toNat := by simp [UInt8.toNat_ofNat]; omega
  have hcut : scan (s.take k ++ s.drop k) 0 x0 0 0 0 = .ok la := by rw [List.take_append_drop]; exact ha
  obtain ⟨i1, i2, i3⟩ := scan_put ([UInt8.ofNat g.toNat] ++ s.drop k) (s.take k) (s.drop k) 0 x0 0 0 0 la hcut
  have hlk : 0 + (s.take k).length = k := by rw [List.length_take]; omega
  rw [hlk] at i1 i3
  generalize hR : s.take k ++ ([UInt8.ofNat g.toNat] ++ s.drop k) = R at i1 i3 ⊢
  have c1 : (PR R).2.2.2 = 60 → (PR R).2.2.1 ≥ (k : Int) := by
    intro h
    obtain ⟨e, he, hp⟩ := PR_60 h
    rw [he] at i1
    rw [hp]
    have : k ≤ e := i1
    omega
  have c2 : (PR R).2.2.2 = 60 → ¬ (g ≥ 48 ∧ g ≤ 57) → g ≠ 44 → g ≠ 45 → g ≠ 58 → g ≠ 37 → (PR R).2.2.1 = (k : Int) := by
    intro h h1 h2 h3 h4 h5
    obtain ⟨e, he, hp⟩ := PR_60 h
    have hD : isD (UInt8.ofNat g.toNat) = false := by
      simp only [isD, hb]
      by_cases q : 48 ≤ g.toNat
      · rw [decide_eq_false (by omega : ¬ g.toNat ≤ 57)]; simp
      · rw [decide_eq_false q]; simp
    have ne : ∀ v : Nat, v < 256 → g ≠ v → UInt8.ofNat g.toNat ≠ UInt8.ofNat v := by
      intro v hv hne q
      have := congrArg UInt8.toNat q
      rw [hb] at this
      simp [UInt8.toNat_ofNat] at this
      omega
    rw [i3 _ _ rfl hD (ne 44 (by omega) h2) (ne 45 (by omega) h3) (ne 58 (by omega) h4) (ne 37 (by omega) h5)] at he
    cases he
    exact hp
  have J1 := first_j1 k (PR R).2.2.1 (PR R).2.2.2 c1
  have J2 := first_j2 k (PR R).2.2.1 (PR R).2.2.2 c1
  refine ev_ite (fun h48 => ?_) (fun h48 => ?_)
  · refine ev_ite (fun h60 => ?_) (fun _ => J1)
    refine ev_ite (fun _ => J1) (fun h57 => ev_ite (fun _ => J1) (fun q1 => ev_ite (fun _ => J1) (fun q2 => ev_ite (fun _ => J1) (fun q3 => ev_ite (fun _ => J1) (fun q4 => ?_)))))
    rw [c2 h60 (fun q => h57 q.2) q1 q2 q3 q4] at J1 ⊢
    simpa using J1
  · refine ev_ite (fun h60 => ?_) (fun _ => J2)
    refine ev_ite (fun _ => J2) (fun q1 => ev_ite (fun _ => J2) (fun q2 => ev_ite (fun _ => J2) (fun q3 => ev_ite (fun _ => J2) (fun q4 => ?_))))
    rw [c2 h60 (fun q => h48 q.1) q1 q2 q3 q4] at J2 ⊢
    simpa using J2
theorem IndexesFirst : gangerlaw06_IndexesFirst.Pure := by
  intro l m a1 a2 hw h1 h2
  refine Ev.rounds ?_
  have hg : 0 ≤ a2 ∧ a2 ≤ 255 := by
    simp [Lit.wf, IntKind.min, IntKind.max, IntKind.signed, IntKind.bits] at h2; omega
  unfold gangerlaw06_IndexesFirst.f
  refine ev_ite (fun _ => ?_) (fun h => ?_)
  · exact hk
  have hp := print_eq l m (by omega)
  refine Ev.bind hp ?_
  by_cases ho : okA l m
  · rw [if_pos ho]
    refine ev_pos rfl ?_
    dsimp only
    have hlen : (text l m).length ≤ 5000 := by
      obtain ⟨g1, g2, g3, g4⟩ := ok_parts ho
      have hb := tailT_len (runs l) (runs_ok (good_small l (-1) (by omega) g4))
      have hr : (runs l).length ≤ l.length := by
        clear hp hb ho g1 g4 hw h
        induction l with
        | nil => simp [runs]
        | cons x r ih =>
          have : (addRun x (runs r)).length ≤ (runs r).length + 1 := by
            cases runs r with
            | nil => simp [addRun]
            | cons a q =>
              obtain ⟨a, b⟩ := a
              rw [addRun]
              split <;> simp
          rw [runs, List.length_cons]; omega
      have hm := dec_len4 g3
      have hl : (limT m).length ≤ 5 := by
        unfold limT
        split
        · simp; omega
        · simp
      rw [text, List.length_append]
      cases e : runs l with
      | nil => exact absurd e (runs_ne g1)
      | cons a q =>
        rw [e] at hb hr
        rw [body_cons]
        simp [tailT] at hb hr ⊢; omega
    obtain ⟨la, hla⟩ : ∃ la, scan (text l m) 0 x0 0 0 0 = .ok la := by
      have h0 := PR_text ho
      unfold PR at h0
      cases e : scan (text l m) 0 x0 0 0 0 with
      | ok la => exact ⟨la, rfl⟩
      | error q => rw [e] at h0; simp [say] at h0
    generalize text l m = s at hlen hla
    have es : wrap64 (((mk s).size : Int) + 1) = ((s.length + 1 : Nat) : Int) := by rw [mk_size, w64 (by omega)]; omega
    have eu : IntKind.u64.wrap ((s.length + 1 : Nat) : Int) = ((s.length + 1 : Nat) : Int) := by rw [IntKind.wrap_u64]; omega
    obtain ⟨k, hk1, hk2⟩ : ∃ k : Nat, k ≤ s.length ∧ wrap64 (Int.tmod (IntKind.u64.wrap a1) ((s.length + 1 : Nat) : Int)) = (k : Int) := by
      have hu : 0 ≤ IntKind.u64.wrap a1 := by rw [IntKind.wrap_u64]; omega
      rw [Int.tmod_eq_emod_of_nonneg hu]
      have q1 : 0 ≤ IntKind.u64.wrap a1 % ((s.length + 1 : Nat) : Int) := Int.emod_nonneg _ (by omega)
      have q2 : IntKind.u64.wrap a1 % ((s.length + 1 : Nat) : Int) < ((s.length + 1 : Nat) : Int) := Int.emod_lt_of_pos _ (by omega)
      generalize IntKind.u64.wrap a1 % ((s.length + 1 : Nat) : Int) = y at q1 q2
      exact ⟨y.toNat, by omega, by rw [w64 (by omega)]; omega⟩
    rw [es, eu, hk2]
    refine ev_neg (by omega) (ev_pos (by omega) (ev_pos (by rw [mk_size]; omega) ?_))
    have x1 : (mk s).extract 0 ((k : Nat) : Int).toNat = mk (s.take k) := by rw [Int.toNat_natCast, mk_extract]; simp
    rw [x1, parse_PR _ (by rw [List.length_take]; omega)]
    refine Ev.bind (Ev.now _) ?_
    have J0 := first_j0 s hlen la hla k hk1 a2 hg
    refine ev_ite (fun h60 => ?_) (fun _ => J0)
    obtain ⟨e, he, hpl⟩ := PR_60 h60
    have hcut : scan (s.take k ++ s.drop k) 0 x0 0 0 0 = .ok la := by rw [List.take_append_drop]; exact hla
    obtain ⟨i1, i2, i3⟩ := scan_put [] (s.take k) (s.drop k) 0 x0 0 0 0 la hcut
    have i2' := i2 rfl
    rw [List.append_nil, he] at i2'
    have hek : e = 0 + (s.take k).length := i2'
    have : e = k := by rw [hek, List.length_take]; omega
    rw [hpl, this]
    simpa using J0
  · rw [if_neg ho]
    refine ev_neg (by simp) ?_
    exact hk
end Go.Proofs.YtpkococfmohmiaaDoor.Pure
