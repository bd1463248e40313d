/- cut to what one law reaches -/
import Derived.Test.YtfccdngejfnmkaaDoorQfShrSums
import Derived.Test.YtfccdngejfnmkaaDoorQfRefName
import Derived.Test.YtfccdngejfnmkaaDoorQfP0
import Derived.Test.YtfccdngejfnmkaaDoorQfP3
import Derived.Test.YtfccdngejfnmkaaDoorQfP7
import Derived.Test.YtfccdngejfnmkaaDoorQfP9
import Derived.Test.YtfccdngejfnmkaaDoorQfP10
import Derived.Test.YtfccdngejfnmkaaDoorQfP11
import Derived.Test.YtfccdngejfnmkaaDoorQfP12
namespace Go.Proofs.YtfccdngejfnmkaaDoor.Shr
open Go.RowKit Go.Proofs.YtfccdngejfnmkaaDoorW.PrintWords Go.Proofs.YtfccdngejfnmkaaDoorW.PrintLast Go.Proofs.YtfccdngejfnmkaaDoorW.PrintMore Go.Proofs.YtfccdngejfnmkaaDoor.P Go.Proofs.YtfccdngejfnmkaaDoor.NumM
set_option linter.unusedVariables false
set_option linter.unusedSimpArgs false
theorem refname {s : ByteArray} (h : s.size ≤ 300) : Ev (fun k => gangerref09_Name.f k s) (NameOk s) := RefName.name_ev s (by omega)
theorem refout (n lo hi : Int) (h : lo ≤ hi) : gangerref10_out.f n lo hi = some (!inB n lo hi) := by
  unfold gangerref10_out.f inB
  by_cases q : n < lo
  · rw [if_pos q, decide_eq_false (show ¬ lo ≤ n by omega)]; rfl
  · rw [if_neg q, decide_eq_true (show lo ≤ n by omega), Bool.true_and]
    congr 1
    rw [← decide_not]
    exact decide_eq_decide.2 (by omega)
/-- the reference's tree -/
def treeR : List S37 → List S37 → Bool
  | p, [] => true
  | p, a :: r => (NameOk a.f0 && inB a.f2 1 1048576) && (!hasT (p.map (·.f0)) a.f0 && ((p.isEmpty && a.f1.toList == []) || hasT (p.map (·.f0)) a.f1)) && treeR (p ++ [a]) r
theorem tree_l1 (p s : List S37) (a : S37) (hp : (p ++ a :: s).length < 1000000) (r : Int) : ∀ (q t : List S37) (has : Bool), p = q ++ t →
    (hasT (t.map (·.f0)) a.f0 = false → (has || hasT (t.map (·.f0)) a.f1) = true → Ev (fun k => gangerref10_tree.l0 k (p ++ a :: s) ((p.length : Int) + 1)) r) →
    Ev (fun k => gangerref10_tree.l1 k (p ++ a :: s) (p.length : Int) has (q.length : Int)) (if hasT (t.map (·.f0)) a.f0 = false ∧ (has || hasT (t.map (·.f0)) a.f1) = true then r else 100)
  | q, [], has, e, h => by
    refine Ev.step (fun k => by rw [gangerref10_tree.l1]) ?_
    have : q = p := by rw [e]; simp
    subst this
    refine ev_neg (by omega) ?_
    have h0 : ∀ x, hasT (([] : List S37).map (·.f0)) x = false := fun x => rfl
    simp only [h0, Bool.or_false, true_and] at h ⊢
    cases has with
    | true =>
      refine ev_pos rfl ?_
      rw [if_pos rfl, w64 (by simp at hp; omega)]
      exact h trivial rfl
    | false => refine ev_neg (by simp) ?_; exact Ev.now _
  | q, b :: t, has, e, h => by
    have hpl : p.length = q.length + t.length + 1 := by rw [e]; simp; omega
    have ea : rd_T37 (p ++ a :: s) (p.length : Int) = a := rd37_mid p a s
    have eb : rd_T37 (p ++ a :: s) (q.length : Int) = b := by rw [e, List.append_assoc]; exact rd37_mid q b _
    have hll : (p ++ a :: s).length = p.length + s.length + 1 := by simp; omega
    have hc : ∀ x, hasT ((b :: t).map (·.f0)) x = (decide (x.toList = b.f0.toList) || hasT (t.map (·.f0)) x) := fun x => rfl
    have ih := fun has' => tree_l1 p s a hp r (q ++ [b]) t has' (by rw [e]; simp)
    have ew : wrap64 ((q.length : Int) + 1) = ((q ++ [b]).length : Int) := wsucc q b (by omega)
    refine Ev.step (fun k => by rw [gangerref10_tree.l1]) ?_
    refine ev_pos (by omega) (ev_pos (by omega) (ev_pos (by omega) (ev_pos (by omega) (ev_pos (by omega) ?_))))
    rw [ea, eb, hc, hc, ew]
    simp only [hc] at h
    by_cases g : b.f0.toList = a.f0.toList
    · refine ev_pos g ?_
      rw [decide_eq_true g.symm, if_neg (by simp)]
      exact Ev.now _
    · refine ev_neg g ?_
      rw [decide_eq_false (fun x => g x.symm), Bool.false_or] at h ⊢
      cases has with
      | true =>
        refine ev_pos rfl ?_
        have := ih true (fun x _ => h x rfl)
        simpa using this
      | false =>
        refine ev_neg (by simp) ?_
        have e2 : (b.f0.toList == a.f1.toList) = decide (a.f1.toList = b.f0.toList) := by
          by_cases w : a.f1.toList = b.f0.toList
          · rw [decide_eq_true w, w]; simp
          · rw [decide_eq_false w]; simp; exact fun x => w x.symm
        rw [e2]
        have := ih (decide (a.f1.toList = b.f0.toList)) (fun x y => h x (by rw [Bool.false_or]; exact y))
        simpa using this
theorem tree_l0 : ∀ (s p : List S37), (p ++ s).length < 1000000 → (∀ x ∈ s, x.f0.size ≤ 300) →
    Ev (fun k => gangerref10_tree.l0 k (p ++ s) (p.length : Int)) (if treeR p s = true then 0 else 100)
  | [], p, h, hs => by
    refine Ev.step (fun k => by rw [gangerref10_tree.l0]) ?_
    refine ev_neg (by simp) ?_
    exact Ev.now _
  | a :: s, p, h, hs => by
    have hl : (p ++ a :: s).length = p.length + s.length + 1 := by simp; omega
    have ih := tree_l0 s (p ++ [a]) (by simpa using h) (fun y hy => hs y (List.mem_cons_of_mem _ hy))
    have ea : rd_T37 (p ++ a :: s) (p.length : Int) = a := rd37_mid p a s
    refine Ev.step (fun k => by rw [gangerref10_tree.l0]) ?_
    refine ev_pos (by omega) (ev_pos (by omega) ?_)
    rw [ea, treeR]
    have bad : Ev (fun k => gangerref10_tree.j1 k (p ++ a :: s) (p.length : Int) true) 100 := by
      refine Ev.step (fun k => by rw [gangerref10_tree.j1]) ?_
      exact ev_pos rfl (Ev.now _)
    refine Ev.bind (refname (hs a (List.mem_cons_self ..))) ?_
    cases hn : NameOk a.f0 with
    | false => refine ev_neg (by simp) ?_; simpa using bad
    | true =>
      refine ev_pos rfl ?_
      rw [refout _ _ _ (by omega)]
      refine Ev.bind (Ev.now _) ?_
      cases hb : inB a.f2 1 1048576 with
      | false => simpa using bad
      | true =>
        refine Ev.step (fun k => by rw [gangerref10_tree.j1]) ?_
        refine ev_neg (by simp) ?_
        have fin : ∀ has, has = (p.isEmpty && a.f1.toList == []) → Ev (fun k => gangerref10_tree.j2 k (p ++ a :: s) (p.length : Int) has) (if ((true && true) && (!hasT (p.map (·.f0)) a.f0 && ((p.isEmpty && a.f1.toList == []) || hasT (p.map (·.f0)) a.f1)) && treeR (p ++ [a]) s) = true then 0 else 100) := by
          intro has e
          refine Ev.step (fun k => by rw [gangerref10_tree.j2]) ?_
          have := tree_l1 p s a h (if treeR (p ++ [a]) s = true then 0 else 100) [] p has rfl (fun _ _ => by
            have e1 : ((p ++ [a]).length : Int) = (p.length : Int) + 1 := by simp
            rw [e1] at ih
            simpa using ih)
          rw [← e]
          have e5 : (if ((true && true) && (!hasT (p.map (·.f0)) a.f0 && (has || hasT (p.map (·.f0)) a.f1)) && treeR (p ++ [a]) s) = true then (0 : Int) else 100) = (if hasT (p.map (·.f0)) a.f0 = false ∧ (has || hasT (p.map (·.f0)) a.f1) = true then (if treeR (p ++ [a]) s = true then 0 else 100) else 100) := by
            cases hasT (p.map (·.f0)) a.f0 <;> cases (has || hasT (p.map (·.f0)) a.f1) <;> simp
          rw [e5]
          exact this
        by_cases g : (p.length : Int) = 0
        · refine ev_pos g (ev_pos (by omega) (ev_pos (by omega) ?_))
          rw [ea]
          have : p = [] := List.length_eq_zero_iff.1 (by omega)
          exact fin _ (by rw [this]; rfl)
        · refine ev_neg g (fin _ ?_)
          cases p with
          | nil => simp at g
          | cons _ _ => rfl
theorem hasT_ne {p : List S37} (hp : ∀ x ∈ p, NameOk x.f0 = true) {a : ByteArray} (h : hasT (p.map (·.f0)) a = true) : a.toList ≠ [] := by
  obtain ⟨x, hx, e⟩ := (hasT_iff _ _).1 h
  obtain ⟨y, hy, rfl⟩ := List.mem_map.1 hx
  rw [tl, e]
  exact nameOk_ne (hp y hy)
theorem treeR_eq : ∀ (s p : List S37), (∀ x ∈ p, NameOk x.f0 = true) → treeR p s = (accOk p s && namesOk (p.map (·.f0)) (s.map (·.f0)))
  | [], p, hp => rfl
  | a :: s, p, hp => by
    rw [treeR, accOk, List.map_cons, namesOk]
    cases hn : NameOk a.f0 with
    | false => simp
    | true =>
      have ih := treeR_eq s (p ++ [a]) (by
        intro x hx
        rcases List.mem_append.1 hx with q | q
        · exact hp x q
        · rw [List.mem_singleton.1 q]; exact hn)
      rw [ih, List.map_append, List.map_cons, List.map_nil]
      cases hb : inB a.f2 1 1048576 with
      | false => simp
      | true =>
        cases hd : hasT (p.map (·.f0)) a.f0 with
        | true => simp
        | false =>
          have key : ((p.isEmpty && a.f1.toList == []) || hasT (p.map (·.f0)) a.f1) = ((((p.length : Int) == 0) == (a.f1.toList == [])) && (p.isEmpty || hasT (p.map (·.f0)) a.f1)) := by
            cases p with
            | nil => cases (a.f1.toList == []) <;> rfl
            | cons b p =>
              have e0 : (((b :: p).length : Int) == 0) = false := by simp; omega
              rw [e0]
              cases hc : hasT ((b :: p).map (·.f0)) a.f1 with
              | false => simp
              | true =>
                have := hasT_ne hp hc
                simp [this]
          rw [key]
          simp only [Bool.true_and, Bool.not_false, Bool.and_assoc]
theorem refcheck_ev (l : List S37) (h : l.length < 1000000) (hs : ∀ x ∈ l, x.f0.size ≤ 300) :
    Ev (fun k => gangerref10_Check.f k 2 9 9 0 0 0 0 0 0 ([(⟨(⟨#[112]⟩ : ByteArray), 0, 0, 9⟩ : S56)]) ([(⟨(⟨#[113]⟩ : ByteArray), 0, 9⟩ : S59)]) l) (if TOK l = true then 0 else 100) := by
  have ht := tree_l0 l [] (by simpa using h) hs
  rw [treeR_eq l [] (fun x hx => by cases hx)] at ht
  refine Ev.congr (f := fun k => if l.length = 0 ∨ 50 < l.length then some 100 else gangerref10_tree.f k l) (fun k => by unfold gangerref10_Check.f; rw [if_pos (c := _ ∧ _)]; exact ⟨⟨⟨rfl, rfl, rfl, rfl, rfl⟩, rfl, rfl, rfl, rfl⟩, ⟨rfl, rfl, rfl, rfl, rfl⟩, ⟨rfl, rfl, rfl, rfl⟩⟩) ?_
  unfold TOK inB
  by_cases g : l.length = 0 ∨ 50 < l.length
  · refine ev_pos g ?_
    have hb : (decide ((1 : Int) ≤ (l.length : Int)) && decide ((l.length : Int) ≤ 50)) = false := by
      rcases g with g | g
      · rw [decide_eq_false (by omega), Bool.false_and]
      · rw [decide_eq_false (p := (l.length : Int) ≤ 50) (by omega), Bool.and_false]
    rw [hb, Bool.and_false, Bool.false_and, if_neg (by simp)]
    exact Ev.now _
  · refine ev_neg g ?_
    have hb : (decide ((1 : Int) ≤ (l.length : Int)) && decide ((l.length : Int) ≤ 50)) = true := by
      rw [decide_eq_true (by omega), decide_eq_true (by omega)]; rfl
    rw [hb, Bool.and_true]
    exact ht
theorem refown_l0 : ∀ (s p : List Int), (p ++ s).length < 1000000 → Ev (fun k => gangerref11_Check.l0 k (p ++ s) (p.length : Int)) (if s.all (fun x => decide (0 ≤ x)) = true then 0 else 2)
  | [], p, h => by
    refine Ev.step (fun k => by rw [gangerref11_Check.l0]) ?_
    exact ev_neg (by simp) (Ev.now _)
  | x :: s, p, h => by
    refine Ev.step (fun k => by rw [gangerref11_Check.l0]) ?_
    have e : rd (p ++ x :: s) (p.length : Int) = x := by unfold rd; simp [List.getD]
    refine ev_pos (by simp; omega) (ev_pos (by omega) ?_)
    rw [e]
    by_cases g : x < 0
    · refine ev_pos g ?_
      rw [if_neg (by simp; omega)]
      exact Ev.now _
    · refine ev_neg g ?_
      have ih := refown_l0 s (p ++ [x]) (by simpa using h)
      rw [wsucc p x (by simp at h; omega)]
      have e2 : (x :: s).all (fun x => decide (0 ≤ x)) = s.all (fun x => decide (0 ≤ x)) := by
        rw [List.all_cons, decide_eq_true (by omega), Bool.true_and]
      rw [e2]
      simpa using ih
theorem refright_ev (l : List S37) (own : List Int) (h : l.length < 1000000) (ho : own.length < 1000000) (hs : ∀ x ∈ l, x.f0.size ≤ 300) : Ev (fun k => gangerref11_Check.f k l own) (rightE l own) := by
  unfold gangerref11_Check.f rightE
  refine Ev.bind (refcheck_ev l h hs) ?_
  by_cases t : TOK l = true
  · rw [if_pos t, if_pos t]
    refine ev_pos rfl ?_
    by_cases g : own.length = l.length
    · rw [if_pos g]
      refine ev_pos (by omega) ?_
      exact refown_l0 own [] (by simpa using ho)
    · rw [if_neg g]
      exact ev_neg (by omega) (Ev.now _)
  · rw [if_neg t, if_neg t]
    exact ev_neg (by omega) (Ev.now _)
end Go.Proofs.YtfccdngejfnmkaaDoor.Shr
