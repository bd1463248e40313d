/- cut to what one law reaches -/
import Derived.Test.YtgidipomfbikiaaDoorQeCnfForth
import Derived.Test.YtgidipomfbikiaaDoorQeP0
import Derived.Test.YtgidipomfbikiaaDoorQeP10
import Derived.Test.YtgidipomfbikiaaDoorQeP21
namespace Go.Proofs.YtgidipomfbikiaaDoor.Cnf
open Go.RowKit Go.Proofs.YtgidipomfbikiaaDoorW.PrintWords Go.Proofs.YtgidipomfbikiaaDoorW.PrintLast Go.Proofs.YtgidipomfbikiaaDoorW.PrintMore Go.Proofs.YtgidipomfbikiaaDoor.P Go.Proofs.YtgidipomfbikiaaDoor.NumM
set_option linter.unusedVariables false
set_option linter.unusedSimpArgs false
def nlPos : List UInt8→Nat→List Int
  | [],_=>[]
  | c :: r,i=>if c = 10 then ((i + 1 : Nat) : Int) :: nlPos r (i + 1) else nlPos r (i + 1)
theorem cuts_l0 (s : ByteArray) (hs : s.size≤1000000) : ∀ (r : List UInt8) (i : Nat) (acc : List Int),s.data.toList.drop i = r→i + r.length = s.size→acc.length≤i + 1→Ev (fun k=>gangerlaw10_cuts.l0 k s acc (i : Int)) (acc ++ nlPos r i)
  | [],i,acc,e,hl,ha=>by
    refine Ev.step (fun k=>by rw [gangerlaw10_cuts.l0]) ?_
    rw [nlPos,List.append_nil]
    exact ev_neg (by rw [List.length_nil] at hl;omega) (Ev.now _)
  | c :: r,i,acc,e,hl,ha=>by
    rw [List.length_cons] at hl
    have hi : i < s.size:=by omega
    have e2:=get_list s i hi
    rw [e] at e2
    obtain ⟨ec,er⟩:=List.cons.inj e2
    have hb : bt s (i : Int) = (c.toNat : Int):=by
      rw [bt,dif_pos (show (i : Int).toNat < s.size by simpa using hi),ec];rfl
    have ew : wrap64 ((i : Int) + 1) = ((i + 1 : Nat) : Int):=by rw [w64 (by omega)];omega
    refine Ev.step (fun k=>by rw [gangerlaw10_cuts.l0]) ?_
    refine ev_pos (by omega) (ev_pos (by omega) ?_)
    rw [hb,ew,nlPos]
    by_cases g : c = 10
    · rw [if_pos g]
      subst g
      refine ev_pos rfl (ev_pos (by omega) ?_)
      have:=cuts_l0 s hs r (i + 1) (acc ++ [((i + 1 : Nat) : Int)]) er.symm (by omega) (by simp;omega)
      simpa using this
    · rw [if_neg g]
      have g2 : ¬ ((c.toNat : Int) = 10):=by
        intro z
        apply g
        have : c.toNat = (10 : UInt8).toNat:=by
          show c.toNat = 10
          omega
        exact UInt8.toNat_inj.1 this
      exact ev_neg g2 (cuts_l0 s hs r (i + 1) acc er.symm (by omega) (by omega))
theorem cuts_ev (s : ByteArray) (hs : s.size≤1000000) : Ev (fun k=>gangerlaw10_cuts.f k s) ((0 : Int) :: nlPos s.data.toList 0):=by
  unfold gangerlaw10_cuts.f
  exact cuts_l0 s hs s.data.toList 0 [0] rfl (by rw [Nat.zero_add,szl]) (by simp)
theorem nl_skip : ∀ (l : List UInt8) (r : List UInt8) (i : Nat),(10 : UInt8) ∉ l→nlPos (l ++ r) i = nlPos r (i + l.length)
  | [],r,i,h=>rfl
  | c :: l,r,i,h=>by
    simp only [List.mem_cons,not_or] at h
    rw [List.cons_append,nlPos,if_neg (fun z=>h.1 z.symm),nl_skip l r (i + 1) h.2,List.length_cons]
    congr 1;omega
theorem nl_none : ∀ (l : List UInt8) (i : Nat),nlPos l i = []→(10 : UInt8) ∉ l
  | [],i,h=>by simp
  | c :: l,i,h=>by
    rw [nlPos] at h
    split at h
    · cases h
    · rename_i hc
      simp only [List.mem_cons,not_or]
      exact ⟨fun z=>hc z.symm,nl_none l _ h⟩
theorem nl_glue : ∀ (ls : List (List UInt8)) (i : Nat),(∀ l ∈ ls,(10 : UInt8) ∉ l)→(nlPos (glue ls) i).length = ls.length∧∀ j,j < ls.length→(nlPos (glue ls) i)[j]? = some ((i + (glue (ls.take (j + 1))).length : Nat) : Int)
  | [],i,h=>⟨rfl,fun j hj=>by simp at hj⟩
  | l :: ls,i,h=>by
    have e:=glue_cons l ls []
    rw [List.append_nil,List.append_nil] at e
    obtain ⟨h1,h2⟩:=nl_glue ls (i + l.length + 1) (fun x hx=>h x (List.mem_cons_of_mem _ hx))
    rw [e,nl_skip l _ i (h l (List.mem_cons_self ..)),nlPos,if_pos rfl]
    refine ⟨by rw [List.length_cons,h1,List.length_cons],fun j hj=>?_⟩
    rw [List.length_cons] at hj
    cases j with
    | zero=>simp [glue];omega
    | succ j =>
      rw [List.getElem?_cons_succ,h2 j (by omega),List.take_succ_cons]
      have e3:=glue_cons l (ls.take (j + 1)) []
      rw [List.append_nil,List.append_nil] at e3
      rw [e3,List.length_append,List.length_cons]
      congr 2;omega
/-- where the lines of a text begin, and where it ends -/
theorem cuts_glue (ls : List (List UInt8)) (h : ∀ l ∈ ls,(10 : UInt8) ∉ l) : ((0 : Int) :: nlPos (glue ls) 0).length = ls.length + 1∧∀ j : Nat,j≤ls.length→rd ((0 : Int) :: nlPos (glue ls) 0) (j : Int) = ((glue (ls.take j)).length : Int):=by
  obtain ⟨h1,h2⟩:=nl_glue ls 0 h
  refine ⟨by rw [List.length_cons,h1],fun j hj=>?_⟩
  unfold rd
  rw [Int.toNat_natCast,List.getD_eq_getElem?_getD]
  cases j with
  | zero=>rfl
  | succ j =>
    rw [List.getElem?_cons_succ,h2 j (by omega),Nat.zero_add]
    rfl
theorem glue_take (ls : List (List UInt8)) (j : Nat) : glue ls = glue (ls.take j) ++ glue (ls.drop j):=by
  rw [← glue_app,List.take_append_drop]
/-! ### the first lines, read -/
def foldS : St→List (List UInt8)→Option St
  | s,[]=>some s
  | s,l :: ls=>match stepP s l with
    | some s'=>foldS s' ls
    | none=>none
theorem run_fold : ∀ (ls : List (List UInt8)) (s s' : St) (r : List (List UInt8)) (t : List UInt8),foldS s ls = some s'→runP s (ls ++ r) t = runP s' r t
  | [],s,s',r,t,h=>by rw [foldS] at h;rw [Option.some.inj h];rfl
  | l :: ls,s,s',r,t,h=>by
    rw [foldS] at h
    rw [List.cons_append,runP]
    cases hs : stepP s l with
    | none=>rw [hs] at h;cases h
    | some u=>rw [hs] at h;exact run_fold ls u s' r t h
theorem fold_of : ∀ (ls : List (List UInt8)) (s : St) (r : List (List UInt8)) (t : List UInt8),errOf (runP s (ls ++ r) t) = 0→∃ s',foldS s ls = some s'
  | [],s,r,t,h=>⟨s,rfl⟩
  | l :: ls,s,r,t,h=>by
    rw [List.cons_append,runP] at h
    rw [foldS]
    cases hs : stepP s l with
    | none=>rw [hs] at h;exact absurd h (by rw [err_errR];decide)
    | some u=>rw [hs] at h;exact fold_of ls u r t h
structure Inv (s : St) : Prop where
  n1 : 1≤s.n
  sh : Shape s
  p3 : s.part≤3
  a3 : s.part = 3→s.A ≠ []
  n5 : s.n≤5→s.part = 0
  n6 : 6≤s.n→s.n = 6 + (s.P.length : Int) + (s.Q.length : Int) + (s.A.length : Int)
theorem inv_start : Inv start:=⟨by decide,⟨by decide,fun _=>rfl,fun _=>rfl,fun _=>rfl⟩,by decide,fun h=>absurd h (by decide),fun _=>rfl,fun h=>absurd h (by decide)⟩
theorem step_inv {s s' : St} {l : List UInt8} (hi : Inv s) (h : stepP s l = some s') : Inv s'∧s'.n = s.n + 1∧s.P.length≤s'.P.length∧s.Q.length≤s'.Q.length∧(s.part = 3→s'.part = 3∧s'.P = s.P∧s'.Q = s.Q):=by
  have hn:=stepP_n h
  obtain ⟨n1,⟨s0,s1,s2,s3⟩,p3,a3,n5,n6⟩:=hi
  unfold stepP at h
  split at h
  · rename_i h5
    have z:=n5 h5
    cases he : firstP (s.n - 1) l s.c with
    | none=>rw [he] at h;simp at h
    | some c =>
      rw [he] at h
      have e:=Option.some.inj h
      subst e
      have e1:=s1 (by omega)
      have e2:=s2 (by omega)
      have e3:=s3 (by omega)
      refine ⟨⟨by show 1≤s.n + 1;omega,⟨s0,s1,s2,s3⟩,p3,a3,fun _=>z,fun _=>?_⟩,hn,Nat.le_refl _,Nat.le_refl _,fun w=>by omega⟩
      show s.n + 1 = 6 + (s.P.length : Int) + (s.Q.length : Int) + (s.A.length : Int)
      rename_i h6
      have h6' : 6≤s.n + 1:=h6
      rw [e1,e2,e3];simp;omega
  · rename_i h5
    have hc:=n6 (by omega)
    split at h
    · rename_i hk
      have e:=Option.some.inj h
      subst e
      rcases later_cases l s.P s.Q s.A with q|⟨p,q,e⟩|⟨p,q,e⟩|⟨p,q,e⟩
      · rw [q] at hk;omega
      · rw [q] at hk ⊢
        simp only [] at hk
        have z1:=s2 (by omega)
        have z2:=s3 (by omega)
        refine ⟨⟨by show 1≤s.n + 1;omega,⟨by show (0 : Int)≤1;omega,fun w=>absurd w (by show ¬ (1 : Int)≤0;omega),fun _=>z1,fun _=>z2⟩,by show (1 : Int)≤3;omega,fun w=>absurd w (by show ¬ (1 : Int) = 3;omega),fun w=>absurd w (by show ¬ s.n + 1≤5;omega),fun _=>?_⟩,rfl,by simp,Nat.le_refl _,fun w=>by omega⟩
        show s.n + 1 = 6 + ((s.P ++ [p]).length : Int) + (s.Q.length : Int) + (s.A.length : Int)
        rw [hc];simp;omega
      · rw [q] at hk ⊢
        simp only [] at hk
        have z2:=s3 (by omega)
        refine ⟨⟨by show 1≤s.n + 1;omega,⟨by show (0 : Int)≤2;omega,fun w=>absurd w (by show ¬ (2 : Int)≤0;omega),fun w=>absurd w (by show ¬ (2 : Int)≤1;omega),fun _=>z2⟩,by show (2 : Int)≤3;omega,fun w=>absurd w (by show ¬ (2 : Int) = 3;omega),fun w=>absurd w (by show ¬ s.n + 1≤5;omega),fun _=>?_⟩,rfl,Nat.le_refl _,by simp,fun w=>by omega⟩
        show s.n + 1 = 6 + (s.P.length : Int) + ((s.Q ++ [p]).length : Int) + (s.A.length : Int)
        rw [hc];simp;omega
      · rw [q] at hk ⊢
        refine ⟨⟨by show 1≤s.n + 1;omega,⟨by show (0 : Int)≤3;omega,fun w=>absurd w (by show ¬ (3 : Int)≤0;omega),fun w=>absurd w (by show ¬ (3 : Int)≤1;omega),fun w=>absurd w (by show ¬ (3 : Int)≤2;omega)⟩,by show (3 : Int)≤3;omega,fun _=>by simp,fun w=>absurd w (by show ¬ s.n + 1≤5;omega),fun _=>?_⟩,rfl,Nat.le_refl _,Nat.le_refl _,fun _=>⟨rfl,rfl,rfl⟩⟩
        show s.n + 1 = 6 + (s.P.length : Int) + (s.Q.length : Int) + ((s.A ++ [p]).length : Int)
        rw [hc];simp;omega
    · cases h
theorem fold_inv : ∀ (ls : List (List UInt8)) (s s' : St),Inv s→foldS s ls = some s'→Inv s'∧s'.n = s.n + (ls.length : Int)
  | [],s,s',hi,h=>by rw [foldS] at h;rw [← Option.some.inj h];exact ⟨hi,by simp⟩
  | l :: ls,s,s',hi,h=>by
    rw [foldS] at h
    cases hs : stepP s l with
    | none=>rw [hs] at h;cases h
    | some u =>
      rw [hs] at h
      obtain ⟨i1,i2,_⟩:=step_inv hi hs
      obtain ⟨j1,j2⟩:=fold_inv ls u s' i1 h
      exact ⟨j1,by rw [j2,i2,List.length_cons];omega⟩
theorem run_grow : ∀ (ls : List (List UInt8)) (s : St) (t : List UInt8) (c : Hd) (P : List S50) (Q : List S52) (A : List S48),Inv s→runP s ls t = okR_ c P Q A→s.P.length≤P.length∧s.Q.length≤Q.length∧(s.part = 3→s.P = P∧s.Q = Q)
  | [],s,t,c,P,Q,A,hi,h=>by
    have he : errOf (runP s [] t) = 0:=by rw [h];rfl
    rw [runP] at h he
    split at he
    · rename_i ht
      rw [if_pos ht] at h
      unfold endP at h he
      split at he
      · rename_i h3
        rw [if_pos h3] at h
        split at he
        · rename_i hc
          rw [if_pos hc] at h
          unfold okR_ at h
          simp only [Prod.mk.injEq] at h
          obtain ⟨_,_,_,_,_,_,_,_,_,e1,e2,e3,_⟩:=h
          exact ⟨by rw [e1];exact Nat.le_refl _,by rw [e2];exact Nat.le_refl _,fun _=>⟨e1,e2⟩⟩
        · exact absurd he (by rw [err_errR];decide)
      · exact absurd he (by rw [err_errR];decide)
    · exact absurd he (by rw [err_errR];decide)
  | l :: ls,s,t,c,P,Q,A,hi,h=>by
    rw [runP] at h
    cases hs : stepP s l with
    | none =>
      rw [hs] at h
      have : errOf (errR s.n 60) = errOf (okR_ c P Q A):=congrArg errOf h
      exact absurd this (by rw [err_errR,err_okR];decide)
    | some u =>
      rw [hs] at h
      obtain ⟨i1,_,i3,i4,i5⟩:=step_inv hi hs
      obtain ⟨j1,j2,j3⟩:=run_grow ls u t c P Q A i1 h
      refine ⟨Nat.le_trans i3 j1,Nat.le_trans i4 j2,fun w=>?_⟩
      obtain ⟨k1,k2,k3⟩:=i5 w
      obtain ⟨m1,m2⟩:=j3 k1
      exact ⟨by rw [← m1,k2],by rw [← m2,k3]⟩
/-- a line that begins so is none -/
theorem bad_form (x like q : List UInt8) (qs : List (List UInt8)) (e : spl 32 like = q :: qs) (h1 : q ≠ [35]) (h2 : q ≠ [64]) (h3 : [63] ≠ q) : formL (63 :: 32 :: x) like = none:=by
  have : spl 32 (63 :: 32 :: x) = [63] :: spl 32 x:=spl_hit 32 x [63] (by decide)
  unfold formL
  rw [e,this,formP,if_neg h1,if_neg h2,if_neg h3]
theorem bad_pol (x : List UInt8) : polF (mk (63 :: 32 :: x)) polW 0 0 = 0:=by
  simp [polF,polW,polP,ByteArray.toList_eq,mk_data]
theorem bad_step (s : St) (x : List UInt8) (hi : Inv s) (h0 : s.n = 1→s.c.f0 = 0) : stepP s (63 :: 32 :: x) = none:=by
  unfold stepP
  split
  · rename_i h5
    have : firstP (s.n - 1) (63 :: 32 :: x) s.c = none:=by
      unfold firstP
      split
      · rename_i q
        rw [h0 (by omega),bad_pol,if_neg (by decide)]
      · split
        · rw [bad_form x _ _ _ spl_half (by decide) (by decide) (by decide)];rfl
        · split
          · rw [bad_form x _ _ _ spl_quant (by decide) (by decide) (by decide)];rfl
          · split
            · rw [bad_form x _ _ _ spl_requ (by decide) (by decide) (by decide)];rfl
            · rw [bad_form x _ _ _ spl_weig (by decide) (by decide) (by decide)];rfl
    rw [this];rfl
  · have : (laterP (63 :: 32 :: x) s.P s.Q s.A).1 = 0:=by
      unfold laterP
      rw [bad_form x _ _ _ spl_part (by decide) (by decide) (by decide),bad_form x _ _ _ spl_class (by decide) (by decide) (by decide),bad_form x _ _ _ spl_acc (by decide) (by decide) (by decide),bad_form x _ _ _ spl_root (by decide) (by decide) (by decide)]
      simp
    rw [this,if_neg]
    have:=hi.sh.1
    omega
end Go.Proofs.YtgidipomfbikiaaDoor.Cnf
