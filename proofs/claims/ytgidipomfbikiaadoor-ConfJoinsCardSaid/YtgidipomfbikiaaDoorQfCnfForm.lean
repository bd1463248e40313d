/- cut to what one law reaches -/
import Derived.Test.YtgidipomfbikiaaDoorQfCnfSplit
import Derived.Test.YtgidipomfbikiaaDoorQfP0
import Derived.Test.YtgidipomfbikiaaDoorQfP6
import Derived.Test.YtgidipomfbikiaaDoorQfP9
namespace Go.Proofs.YtgidipomfbikiaaDoor.Cnf
open Go.RowKit Go.Proofs.YtgidipomfbikiaaDoorW.PrintWords Go.Proofs.YtgidipomfbikiaaDoorW.PrintLast Go.Proofs.YtgidipomfbikiaaDoorW.PrintMore Go.Proofs.YtgidipomfbikiaaDoor.P Go.Proofs.YtgidipomfbikiaaDoor.NumM
set_option linter.unusedVariables false
set_option linter.unusedSimpArgs false
theorem szl (a : ByteArray) : a.data.toList.length = a.size:=rfl
theorem get_list (s : ByteArray) (i : Nat) (h : i < s.size) : s.data.toList.drop i = s[i]'h :: s.data.toList.drop (i + 1):=by
  have : i < s.data.toList.length:=by simpa using h
  rw [List.drop_eq_getElem_cons this]
  rfl
theorem isD_iff (c : UInt8) : isD c = true ↔ 48≤c.toNat∧c.toNat≤57:=by unfold isD;simp
theorem digs_ok (s : ByteArray) (hs : s.size≤10) : ∀ (m i n : Nat),i + m = s.size→(s.data.toList.drop i).all isD = true→n < 10 ^ i→digsN (m + 1) s i (n : Int) = some ((val (s.data.toList.drop i) n : Nat) : Int)
  | 0,i,n,hm,hd,hn=>by
    rw [digsN,dif_neg (by omega),List.drop_eq_nil_of_le (by rw [szl];omega),val]
  | m + 1,i,n,hm,hd,hn=>by
    have hi : i < s.size:=by omega
    rw [get_list s i hi,List.all_cons,Bool.and_eq_true,isD_iff] at hd
    have h10 : 10 ^ i≤10 ^ 9:=Nat.pow_le_pow_right (by omega) (by omega)
    have hn2 : 10 * n + ((s[i]'hi).toNat - 48) < 10 ^ (i + 1):=by rw [Nat.pow_succ];omega
    have e : wrap64 (wrap64 (10 * (n : Int)) + (((s[i]'hi).toNat : Int) - 48)) = ((10 * n + ((s[i]'hi).toNat - 48) : Nat) : Int):=by
      rw [w64 (x:=10 * (n : Int)) (by omega),w64 (by omega)];omega
    rw [digsN,dif_pos hi,if_neg (by omega),e,digs_ok s hs m (i + 1) _ (by omega) hd.2 hn2,get_list s i hi,val]
theorem digs_bad (s : ByteArray) : ∀ (m i : Nat) (n : Int),i + m = s.size→((s.data.toList.drop i).all isD = false ∨ (10 < s.size∧0 < m))→digsN (m + 1) s i n = none
  | 0,i,n,hm,hd=>by
    rw [List.drop_eq_nil_of_le (by rw [szl];omega)] at hd
    rcases hd with q|q
    · cases q
    · omega
  | m + 1,i,n,hm,hd=>by
    have hi : i < s.size:=by omega
    rw [get_list s i hi,List.all_cons] at hd
    rw [digsN,dif_pos hi]
    by_cases g : (s[i]'hi).toNat < 48 ∨ 57 < (s[i]'hi).toNat ∨ 10 < s.size
    · rw [if_pos g]
    · rw [if_neg g]
      have hc : isD (s[i]'hi) = true:=by rw [isD_iff];omega
      rw [hc,Bool.true_and] at hd
      refine digs_bad s m (i + 1) _ (by omega) ?_
      rcases hd with q|q
      · exact Or.inl q
      · omega
theorem number_f (s : ByteArray) : ∃ x,conf_number.f s = some (x,(numP s.data.toList).isSome)∧∀ y,numP s.data.toList = some y→x = y:=by
  unfold conf_number.f
  have hl : s.data.toList.length = s.size:=rfl
  by_cases g : s.data.toList.all isD = true∧s.size≤10
  · have hd:=digs_ok s g.2 s.size 0 0 (by omega) (by simpa using g.1) (by decide)
    rw [List.drop_zero] at hd
    have hd' : digsN (s.size + 1) s 0 0 = some ((val s.data.toList 0 : Nat) : Int):=hd
    rw [hd']
    refine ⟨((val s.data.toList 0 : Nat) : Int),?_,?_⟩
    · show some (((val s.data.toList 0 : Nat) : Int),numB s) = _
      congr 2
      unfold numB numP
      rw [tl]
      by_cases h0 : s.data.toList = []
      · rw [if_pos h0,if_neg (fun q=>q.1 h0)];rfl
      · rw [if_neg h0]
        by_cases h1 : s.data.toList = [48]
        · rw [if_pos h1,if_pos ⟨h0,by omega,g.1,Or.inl h1⟩];rfl
        · rw [if_neg h1]
          by_cases h2 : s.data.toList[0]? = some 48
          · rw [decide_eq_true h2,if_neg (fun q=>q.2.2.2.elim h1 (fun z=>z h2))];rfl
          · rw [decide_eq_false h2,if_pos ⟨h0,by omega,g.1,Or.inr h2⟩];rfl
    · intro y hy
      unfold numP at hy
      split at hy
      · exact Option.some.inj hy
      · cases hy
  · have hnp : numP s.data.toList = none:=by
      unfold numP
      rw [if_neg (fun q=>g ⟨q.2.2.1,by omega⟩)]
    have hb : digsN (s.size + 1) s 0 0 = none:=by
      refine digs_bad s s.size 0 0 (by omega) ?_
      rw [List.drop_zero]
      by_cases q : s.data.toList.all isD = true
      · exact Or.inr ⟨by have : ¬ s.size≤10:=fun z=>g ⟨q,z⟩;omega,by have : ¬ s.size≤10:=fun z=>g ⟨q,z⟩;omega⟩
      · exact Or.inl (by simpa using q)
    rw [hb,hnp]
    exact ⟨0,rfl,fun y hy=>by cases hy⟩
/-- does a line's words have a form? its numbers, its names -/
def formP : List (List UInt8)→List (List UInt8)→Option (List Int × List (List UInt8))
  | [],[]=>some ([],[])
  | q :: qs,w :: ws =>
    if q = [35] then (match numP w with|none=>none|some x=>(match formP qs ws with|none=>none|some y=>some (x :: y.1,y.2)))
    else if q = [64] then (if NameOk (mk w) = true then (match formP qs ws with|none=>none|some y=>some (y.1,w :: y.2)) else none)
    else if w = q then formP qs ws else none
  | _,_=>none
def formR (n : List Int) (l : List ByteArray) : Option (List Int × List (List UInt8))→List Int × List ByteArray × Bool
  | none=>([],[],false)
  | some y=>(n ++ y.1,l ++ y.2.map mk,true)
theorem name_f' {s : ByteArray} (h : s.size≤1000000) : script_Name.f s = some (NameOk s):=by
  unfold script_Name.f;rw [if_pos (by omega)];rfl
theorem form_l0 (W V : List ByteArray) (hW : W.length < 100000) (hV : ∀ x ∈ V,x.size≤1000000) : ∀ (qs ws pq pw : List ByteArray) (n : List Int) (l : List ByteArray),W = pq ++ qs→V = pw ++ ws→pq.length = pw.length→qs.length = ws.length→n.length≤pq.length→l.length≤pq.length →
    Ev (fun k=>conf_form.l0 k W n l V (V.length : Int) (pq.length : Int)) (formR n l (formP (qs.map (·.data.toList)) (ws.map (·.data.toList))))
  | [],[],pq,pw,n,l,e1,e2,e3,e4,_,_=>by
    refine Ev.step (fun k=>by rw [conf_form.l0]) ?_
    refine ev_neg (by rw [e2,e3];simp) ?_
    simp only [List.map_nil,formP,formR,List.append_nil]
    exact Ev.now _
  | q :: qs,[],pq,pw,n,l,e1,e2,e3,e4,_,_=>by simp at e4
  | [],w :: ws,pq,pw,n,l,e1,e2,e3,e4,_,_=>by simp at e4
  | q :: qs,w :: ws,pq,pw,n,l,e1,e2,e3,e4,hn,hl=>by
    have l1 : W.length = pq.length + qs.length + 1:=by rw [e1];simp;omega
    have l2 : V.length = pw.length + ws.length + 1:=by rw [e2];simp;omega
    have r1 : rdOf ByteArray.empty W (pq.length : Int) = q:=by rw [e1];exact rdOf_mid _ pq q qs
    have r2 : rdOf ByteArray.empty V (pq.length : Int) = w:=by rw [e2,e3];exact rdOf_mid _ pw w ws
    have hw : w.size≤1000000:=hV w (by rw [e2];simp)
    have ih:=fun n' l' h1 h2=>form_l0 W V hW hV qs ws (pq ++ [q]) (pw ++ [w]) n' l' (by rw [e1];simp) (by rw [e2];simp) (by simp [e3]) (by simpa using e4) h1 h2
    have ew : wrap64 ((pq.length : Int) + 1) = ((pq ++ [q]).length : Int):=wsucc pq q (by omega)
    have el : (pq ++ [q]).length = pq.length + 1:=by simp
    refine Ev.step (fun k=>by rw [conf_form.l0]) ?_
    refine ev_pos (by omega) (ev_pos (by omega) (ev_pos (by omega) (ev_pos (by omega) ?_)))
    rw [r1,r2,ew,List.map_cons,List.map_cons,formP]
    by_cases g1 : q.toList = [35]
    · refine ev_pos g1 ?_
      rw [tl] at g1
      rw [if_pos g1]
      obtain ⟨x,hx,hy⟩:=number_f w
      rw [hx]
      refine Ev.bind (Ev.now _) ?_
      cases hnum : numP w.data.toList with
      | none=>exact ev_neg (by simp) (Ev.now _)
      | some y =>
        refine ev_pos rfl (ev_pos (by omega) ?_)
        have:=ih (n ++ [x]) l (by simp;omega) (by omega)
        rw [hy y hnum] at this ⊢
        cases hf : formP (qs.map (·.data.toList)) (ws.map (·.data.toList)) with
        | none=>rw [hf] at this;exact this
        | some z =>
          rw [hf] at this
          simpa [formR] using this
    · refine ev_neg g1 ?_
      rw [tl] at g1
      rw [if_neg g1]
      by_cases g2 : q.toList = [64]
      · refine ev_pos g2 ?_
        rw [tl] at g2
        rw [if_pos g2,name_f' hw]
        refine Ev.bind (Ev.now _) ?_
        rw [← mk_self w]
        cases hnm : NameOk w with
        | false=>exact ev_neg (by simp) (Ev.now _)
        | true =>
          refine ev_pos rfl (ev_pos (by omega) ?_)
          have:=ih n (l ++ [w]) (by omega) (by simp;omega)
          cases hf : formP (qs.map (·.data.toList)) (ws.map (·.data.toList)) with
          | none=>rw [hf] at this;exact this
          | some z =>
            rw [hf] at this
            rw [if_pos rfl]
            simp only [formR,List.map_cons] at this ⊢
            rw [← mk_self w]
            simpa using this
      · refine ev_neg g2 ?_
        rw [tl] at g2
        rw [if_neg g2]
        by_cases g3 : w.toList = q.toList
        · refine ev_pos g3 ?_
          rw [tl,tl] at g3
          rw [if_pos g3]
          exact ih n l (by omega) (by omega)
        · refine ev_neg g3 ?_
          rw [tl,tl] at g3
          rw [if_neg g3]
          exact Ev.now _
theorem formP_len : ∀ (qs ws : List (List UInt8)),qs.length ≠ ws.length→formP qs ws = none
  | [],[],h=>absurd rfl h
  | q :: qs,[],_=>rfl
  | [],w :: ws,_=>rfl
  | q :: qs,w :: ws,h=>by
    rw [formP,formP_len qs ws (by simpa using h)]
    split
    · cases numP w <;> rfl
    · split
      · split <;> rfl
      · split <;> rfl
/-- a line, held against a form -/
def formL (line like : List UInt8) : Option (List Int × List (List UInt8)):=formP (spl 32 like) (spl 32 line)
theorem spl_sub : ∀ (l : List UInt8),∀ w ∈ spl 32 l,w.length≤l.length
  | [],w,h=>by simp [spl] at h;subst h;simp
  | x :: r,w,h=>by
    rw [spl] at h
    split at h
    · rcases List.mem_cons.1 h with q|q
      · subst q;simp
      · have:=spl_sub r w q;simp;omega
    · cases hs : spl 32 r with
      | nil=>exact absurd hs (spl_ne 32 r)
      | cons v vs =>
        rw [hs] at h
        have ihv:=spl_sub r v (by rw [hs];simp)
        rcases List.mem_cons.1 h with q|q
        · subst q;simp;omega
        · have:=spl_sub r w (by rw [hs];exact List.mem_cons_of_mem _ q);simp;omega
theorem spl_length : ∀ l : List UInt8,(spl 32 l).length≤l.length + 1
  | []=>by simp [spl]
  | x :: r=>by
    have ih:=spl_length r
    rw [spl]
    split
    · simp;omega
    · cases hs : spl 32 r with
      | nil=>simp
      | cons v vs=>rw [hs] at ih;simp at ih ⊢;omega
theorem form_ev (line like : ByteArray) (h1 : line.size≤1000000) (h2 : like.size≤1000) : Ev (fun k=>conf_form.f k line like) (formR [] [] (formL line.data.toList like.data.toList)):=by
  obtain ⟨V,v1,v2⟩:=split_f line h1
  obtain ⟨W,w1,w2⟩:=split_f like (by omega)
  unfold conf_form.f formL
  rw [v1,w1]
  refine Ev.bind (Ev.now _) (Ev.bind (Ev.now _) ?_)
  have lv:=spl_length line.data.toList
  have lw:=spl_length like.data.toList
  rw [← v2,List.length_map,szl] at lv
  rw [← w2,List.length_map,szl] at lw
  rw [← v2,← w2]
  by_cases g : V.length = W.length
  · refine ev_pos (by omega) ?_
    refine form_l0 W V (by omega) (fun x hx=>?_) W V [] [] [] [] rfl rfl rfl g.symm (by simp) (by simp)
    have:=spl_sub line.data.toList x.data.toList (by rw [← v2];exact List.mem_map_of_mem hx)
    rw [szl,szl] at this
    omega
  · refine ev_neg (by omega) ?_
    rw [formP_len _ _ (by simpa using fun e=>g e.symm)]
    exact Ev.now _
end Go.Proofs.YtgidipomfbikiaaDoor.Cnf
