/- cut to what one law reaches -/
import Derived.Test.YtgidipomfbikiaaDoorQfCnfForm
import Derived.Test.YtgidipomfbikiaaDoorQfP0
import Derived.Test.YtgidipomfbikiaaDoorQfP9
import Derived.Test.YtgidipomfbikiaaDoorQfP10
import Derived.Test.YtgidipomfbikiaaDoorQfP11
namespace Go.Proofs.YtgidipomfbikiaaDoor.Cnf
open Go.RowKit Go.Proofs.YtgidipomfbikiaaDoorW.PrintWords Go.Proofs.YtgidipomfbikiaaDoorW.PrintLast Go.Proofs.YtgidipomfbikiaaDoorW.PrintMore Go.Proofs.YtgidipomfbikiaaDoor.P Go.Proofs.YtgidipomfbikiaaDoor.NumM
set_option linter.unusedVariables false
set_option linter.unusedSimpArgs false
def cnt (c : UInt8) (qs : List (List UInt8)) : Nat:=(qs.filter fun q=>decide (q = [c])).length
theorem formP_cnt : ∀ (qs ws : List (List UInt8)) (y : List Int × List (List UInt8)),formP qs ws = some y→y.1.length = cnt 35 qs∧y.2.length = cnt 64 qs
  | [],[],y,h=>by rw [formP] at h;cases h;exact ⟨rfl,rfl⟩
  | q :: qs,[],y,h=>by simp [formP] at h
  | [],w :: ws,y,h=>by simp [formP] at h
  | q :: qs,w :: ws,y,h=>by
    rw [formP] at h
    unfold cnt
    by_cases g1 : q = [35]
    · rw [if_pos g1] at h
      subst g1
      cases hn : numP w with
      | none=>rw [hn] at h;cases h
      | some x =>
        rw [hn] at h
        cases hf : formP qs ws with
        | none=>rw [hf] at h;cases h
        | some z =>
          rw [hf] at h
          have e:=Option.some.inj h
          have ih:=formP_cnt qs ws z hf
          rw [← e]
          unfold cnt at ih
          simp [ih.1,ih.2]
    · rw [if_neg g1] at h
      by_cases g2 : q = [64]
      · rw [if_pos g2] at h
        subst g2
        split at h
        · cases hf : formP qs ws with
          | none=>rw [hf] at h;cases h
          | some z =>
            rw [hf] at h
            have e:=Option.some.inj h
            have ih:=formP_cnt qs ws z hf
            rw [← e]
            unfold cnt at ih
            simp [ih.1,ih.2]
        · cases h
      · rw [if_neg g2] at h
        split at h
        · have ih:=formP_cnt qs ws y h
          unfold cnt at ih
          simp [ih.1,ih.2,g1,g2]
        · cases h
theorem mk_list (a : ByteArray) : mk a.data.toList = a:=(mk_self a).symm
/-- one of the first five lines -/
def firstP (ki : Int) (line : List UInt8) (c : Hd) : Option Hd :=
  if ki = 0 then (if 0 < polF (mk line) polW 0 c.f0 then some { c with f0:=polF (mk line) polW 0 c.f0 } else none)
  else if ki = 1 then (formL line halfL.data.toList).map fun y=>{ c with f1:=rd y.1 0 }
  else if ki = 2 then (formL line quantL.data.toList).map fun y=>{ c with f2:=rd y.1 0 }
  else if ki = 3 then (formL line requL.data.toList).map fun y=>{ c with f3:=rd y.1 0 }
  else (formL line weigL.data.toList).map fun y=>{ c with f4:=rd y.1 0,f5:=rd y.1 1,f6:=rd y.1 2,f7:=rd y.1 3,f8:=rd y.1 4 }
theorem first_ev (ki : Int) (h0 : 0≤ki) (h4 : ki≤4) (line : List UInt8) (hl : line.length≤1000000) (c : Hd) : ∃ b d,Ev (fun k=>conf_first.f k ki (mk line) c) (b,d)∧firstP ki line c = if b = true then some d else none:=by
  unfold conf_first.f firstP
  by_cases k0 : ki = 0
  · refine ⟨decide (0 < polF (mk line) polW 0 c.f0),{ c with f0:=polF (mk line) polW 0 c.f0 },ev_pos k0 (Ev.now _),?_⟩
    rw [if_pos k0]
    by_cases g : 0 < polF (mk line) polW 0 c.f0
    · rw [if_pos g,decide_eq_true g,if_pos rfl]
    · rw [if_neg g,decide_eq_false g,if_neg (by simp)]
  · have one : ∀ (like : ByteArray) (u : List Int→Hd),like.size≤1000→cnt 35 (spl 32 like.data.toList) = 1→∃ b d,Ev (fun k=>(conf_form.f k (mk line) like).bind fun x=>if x.2.2 = true then (if 0 < x.1.length then some (true,u x.1) else none) else some (false,c)) (b,d)∧(formL line like.data.toList).map (fun y=>u y.1) = if b = true then some d else none:=by
      intro like u hlk hc
      have hf:=form_ev (mk line) like hl hlk
      rw [mk_data] at hf
      cases he : formL line like.data.toList with
      | none=>rw [he] at hf;exact ⟨false,c,Ev.bind hf (ev_neg (by simp [formR]) (Ev.now _)),rfl⟩
      | some y =>
        rw [he] at hf
        have hcnt:=formP_cnt _ _ y he
        refine ⟨true,u y.1,Ev.bind hf (ev_pos rfl (ev_pos ?_ (Ev.now _))),rfl⟩
        simp only [formR,List.nil_append];omega
    by_cases k1 : ki = 1
    · obtain ⟨b,d,e1,e2⟩:=one halfL (fun n=>{ c with f1:=rd n 0 }) (by decide) (by decide)
      exact ⟨b,d,ev_neg k0 (ev_pos k1 e1),by rw [if_neg k0,if_pos k1];exact e2⟩
    · by_cases k2 : ki = 2
      · obtain ⟨b,d,e1,e2⟩:=one quantL (fun n=>{ c with f2:=rd n 0 }) (by decide) (by decide)
        exact ⟨b,d,ev_neg k0 (ev_neg k1 (ev_pos k2 e1)),by rw [if_neg k0,if_neg k1,if_pos k2];exact e2⟩
      · by_cases k3 : ki = 3
        · obtain ⟨b,d,e1,e2⟩:=one requL (fun n=>{ c with f3:=rd n 0 }) (by decide) (by decide)
          exact ⟨b,d,ev_neg k0 (ev_neg k1 (ev_neg k2 (ev_pos k3 e1))),by rw [if_neg k0,if_neg k1,if_neg k2,if_pos k3];exact e2⟩
        · have k4 : ki = 4:=by omega
          have hf:=form_ev (mk line) weigL hl (by decide)
          rw [mk_data] at hf
          rw [if_neg k0,if_neg k1,if_neg k2,if_neg k3]
          cases he : formL line weigL.data.toList with
          | none=>rw [he] at hf;exact ⟨false,c,ev_neg k0 (ev_neg k1 (ev_neg k2 (ev_neg k3 (ev_pos k4 (Ev.bind hf (ev_neg (by simp [formR]) (Ev.now _))))))),rfl⟩
          | some y =>
            rw [he] at hf
            have hcnt:=formP_cnt _ _ y he
            have h5 : cnt 35 (spl 32 weigL.data.toList) = 5:=by decide
            refine ⟨true,_,ev_neg k0 (ev_neg k1 (ev_neg k2 (ev_neg k3 (ev_pos k4 (Ev.bind hf (ev_pos rfl (ev_pos ?_ (Ev.now _)))))))),rfl⟩
            simp only [formR,List.nil_append];omega
/-- a line behind the first five: its kind, and what it adds -/
def laterP (line : List UInt8) (P : List S50) (Q : List S52) (A : List S48) : Int × List S50 × List S52 × List S48 :=
  match formL line partL.data.toList with
  | some x=>(1,P ++ [⟨rdOf ByteArray.empty (x.2.map mk) 0,rd x.1 0,rd x.1 1,rd x.1 2⟩],Q,A)
  | none=>match formL line classL.data.toList with
    | some x=>(2,P,Q ++ [⟨rdOf ByteArray.empty (x.2.map mk) 0,rd x.1 0,rd x.1 1⟩],A)
    | none=>match (if 0 < A.length then formL line accL.data.toList else none) with
      | some x=>(3,P,Q,A ++ [⟨rdOf ByteArray.empty (x.2.map mk) 0,rdOf ByteArray.empty (x.2.map mk) 1,rd x.1 0⟩])
      | none=>match (if A.length = 0 then formL line rootL.data.toList else none) with
        | some x=>(3,P,Q,A ++ [⟨rdOf ByteArray.empty (x.2.map mk) 0,⟨#[]⟩,rd x.1 0⟩])
        | none=>(0,P,Q,A)
theorem later_ev (line : List UInt8) (hl : line.length≤1000000) (P : List S50) (Q : List S52) (A : List S48) (hP : P.length < 1000000) (hQ : Q.length < 1000000) (hA : A.length < 1000000) : Ev (fun k=>conf_later.f k (mk line) P Q A) (laterP line P Q A):=by
  have f1:=form_ev (mk line) partL hl (by decide)
  have f2:=form_ev (mk line) classL hl (by decide)
  have f3:=form_ev (mk line) accL hl (by decide)
  have f4:=form_ev (mk line) rootL hl (by decide)
  rw [mk_data] at f1 f2 f3 f4
  unfold conf_later.f laterP
  refine Ev.bind f1 ?_
  cases h1 : formL line partL.data.toList with
  | some x =>
    have hc:=formP_cnt _ _ x h1
    have n1 : cnt 35 (spl 32 partL.data.toList) = 3:=by decide
    have n2 : cnt 64 (spl 32 partL.data.toList) = 1:=by decide
    refine ev_pos rfl (ev_pos ?_ (Ev.now _))
    simp only [formR,List.nil_append,List.length_map];omega
  | none =>
  refine ev_neg (by simp [formR]) (Ev.bind f2 ?_)
  cases h2 : formL line classL.data.toList with
  | some x =>
    have hc:=formP_cnt _ _ x h2
    have n1 : cnt 35 (spl 32 classL.data.toList) = 2:=by decide
    have n2 : cnt 64 (spl 32 classL.data.toList) = 1:=by decide
    refine ev_pos rfl (ev_pos ?_ (Ev.now _))
    simp only [formR,List.nil_append,List.length_map];omega
  | none =>
  refine ev_neg (by simp [formR]) (Ev.bind f3 ?_)
  have last : ¬ (0 < A.length∧(formL line accL.data.toList).isSome = true)→Ev (fun k=>(conf_form.f k (mk line) rootL).bind fun u=>if u.2.2 = true∧A.length = 0 then (if 0 < u.2.1.length∧0 < u.1.length∧A.length < 1000000 then some ((3 : Int),P,Q,A ++ [(⟨rdOf ByteArray.empty u.2.1 0,⟨#[]⟩,rd u.1 0⟩ : S48)]) else none) else some (0,P,Q,A)) (match (if A.length = 0 then formL line rootL.data.toList else none) with
        | some x=>(3,P,Q,A ++ [⟨rdOf ByteArray.empty (x.2.map mk) 0,⟨#[]⟩,rd x.1 0⟩])
        | none=>(0,P,Q,A)):=by
    intro _
    refine Ev.bind f4 ?_
    by_cases g : A.length = 0
    · rw [if_pos g]
      cases h4 : formL line rootL.data.toList with
      | none=>exact ev_neg (by simp [formR]) (Ev.now _)
      | some x =>
        have hc:=formP_cnt _ _ x h4
        have n1 : cnt 35 (spl 32 rootL.data.toList) = 1:=by decide
        have n2 : cnt 64 (spl 32 rootL.data.toList) = 1:=by decide
        refine ev_pos ⟨rfl,g⟩ (ev_pos ?_ (Ev.now _))
        simp only [formR,List.nil_append,List.length_map];omega
    · rw [if_neg g]
      exact ev_neg (fun z=>g z.2) (Ev.now _)
  by_cases g : 0 < A.length
  · rw [if_pos g]
    cases h3 : formL line accL.data.toList with
    | some x =>
      have hc:=formP_cnt _ _ x h3
      have n1 : cnt 35 (spl 32 accL.data.toList) = 1:=by decide
      have n2 : cnt 64 (spl 32 accL.data.toList) = 2:=by decide
      refine ev_pos ⟨rfl,g⟩ (ev_pos ?_ (Ev.now _))
      simp only [formR,List.nil_append,List.length_map];omega
    | none=>exact ev_neg (by simp [formR]) (last (by rw [h3];simp))
  · rw [if_neg g]
    exact ev_neg (fun z=>g z.2) (last (fun z=>g z.1))
end Go.Proofs.YtgidipomfbikiaaDoor.Cnf
