/- cut to what one law reaches -/
import Derived.Test.YtgidipomfbikiaaDoorQcCnfRun
import Derived.Test.YtgidipomfbikiaaDoorQcP0
import Derived.Test.YtgidipomfbikiaaDoorQcP10
namespace Go.Proofs.YtgidipomfbikiaaDoor.Cnf
open Go.RowKit Go.Proofs.YtgidipomfbikiaaDoorW.PrintWords Go.Proofs.YtgidipomfbikiaaDoorW.PrintLast Go.Proofs.YtgidipomfbikiaaDoorW.PrintMore Go.Proofs.YtgidipomfbikiaaDoor.P Go.Proofs.YtgidipomfbikiaaDoor.NumM
set_option linter.unusedVariables false
set_option linter.unusedSimpArgs false
theorem first_back1 {l : List UInt8} {c c' : Hd} (h : firstP 1 l c = some c') : ∃ x,c' = { c with f1:=x }∧l ++ [10] = line [wHalf,d_ x]:=by
  unfold firstP at h
  rw [if_neg (by decide),if_pos rfl] at h
  cases he : formL l halfL.data.toList with
  | none=>rw [he] at h;cases h
  | some y =>
    rw [he] at h
    obtain ⟨ns,ls⟩:=y
    have hc:=formP_cnt _ _ _ he
    rw [spl_half] at hc
    obtain ⟨a,rfl⟩:=one_of (l:=ns) hc.1
    obtain rfl:=List.length_eq_zero_iff.1 (show ls.length = 0 from hc.2)
    exact ⟨a,(Option.some.inj h).symm,by rw [back he,fill_half]⟩
theorem first_back2 {l : List UInt8} {c c' : Hd} (h : firstP 2 l c = some c') : ∃ x,c' = { c with f2:=x }∧l ++ [10] = line [wQuantum,d_ x]:=by
  unfold firstP at h
  rw [if_neg (by decide),if_neg (by decide),if_pos rfl] at h
  cases he : formL l quantL.data.toList with
  | none=>rw [he] at h;cases h
  | some y =>
    rw [he] at h
    obtain ⟨ns,ls⟩:=y
    have hc:=formP_cnt _ _ _ he
    rw [spl_quant] at hc
    obtain ⟨a,rfl⟩:=one_of (l:=ns) hc.1
    obtain rfl:=List.length_eq_zero_iff.1 (show ls.length = 0 from hc.2)
    exact ⟨a,(Option.some.inj h).symm,by rw [back he,fill_quant]⟩
theorem first_back3 {l : List UInt8} {c c' : Hd} (h : firstP 3 l c = some c') : ∃ x,c' = { c with f3:=x }∧l ++ [10] = line [wRequeues,d_ x]:=by
  unfold firstP at h
  rw [if_neg (by decide),if_neg (by decide),if_neg (by decide),if_pos rfl] at h
  cases he : formL l requL.data.toList with
  | none=>rw [he] at h;cases h
  | some y =>
    rw [he] at h
    obtain ⟨ns,ls⟩:=y
    have hc:=formP_cnt _ _ _ he
    rw [spl_requ] at hc
    obtain ⟨a,rfl⟩:=one_of (l:=ns) hc.1
    obtain rfl:=List.length_eq_zero_iff.1 (show ls.length = 0 from hc.2)
    exact ⟨a,(Option.some.inj h).symm,by rw [back he,fill_requ]⟩
theorem first_back4 {l : List UInt8} {c c' : Hd} (h : firstP 4 l c = some c') : ∃ x y z u v,c' = { c with f4:=x,f5:=y,f6:=z,f7:=u,f8:=v }∧l ++ [10] = line [wWeights,d_ x,d_ y,d_ z,d_ u,d_ v]:=by
  unfold firstP at h
  rw [if_neg (by decide),if_neg (by decide),if_neg (by decide),if_neg (by decide)] at h
  cases he : formL l weigL.data.toList with
  | none=>rw [he] at h;cases h
  | some y =>
    rw [he] at h
    obtain ⟨ns,ls⟩:=y
    have hc:=formP_cnt _ _ _ he
    rw [spl_weig] at hc
    obtain ⟨x,y,z,u,v,rfl⟩:=five_of (l:=ns) hc.1
    obtain rfl:=List.length_eq_zero_iff.1 (show ls.length = 0 from hc.2)
    exact ⟨x,y,z,u,v,(Option.some.inj h).symm,by rw [back he,fill_weig]⟩
theorem run_nil_err {s : St} {t : List UInt8} (h : s.part = 0) (h0 : 1≤s.n) : errOf (runP s [] t) ≠ 0:=by
  rw [runP]
  split
  · unfold endP;rw [if_neg (by omega),err_errR];decide
  · rw [err_errR];decide
/-- a line of the first five, taken -/
theorem run_head {n : Int} {c : Hd} (hn : 1≤n) (h5 : n≤5) {ls : List (List UInt8)} {t : List UInt8} (he : errOf (runP ⟨0,n,c,[],[],[]⟩ ls t) = 0) : ∃ l r c',ls = l :: r∧firstP (n - 1) l c = some c'∧runP ⟨0,n,c,[],[],[]⟩ ls t = runP ⟨0,n + 1,c',[],[],[]⟩ r t:=by
  cases ls with
  | nil=>exact absurd he (run_nil_err rfl hn)
  | cons l r =>
    rw [runP] at he ⊢
    cases hq : stepP ⟨0,n,c,[],[],[]⟩ l with
    | none=>rw [hq] at he;rw [err_errR] at he;omega
    | some s' =>
      unfold stepP at hq
      rw [if_pos h5] at hq
      cases hf : firstP (n - 1) l c with
      | none=>simp only [] at hq;rw [hf] at hq;cases hq
      | some c' =>
        simp only [] at hq
        rw [hf] at hq
        have e:=Option.some.inj hq
        subst e
        exact ⟨l,r,c',rfl,hf,rfl⟩
/-- what is read is what is printed -/
theorem parse_back {ls : List (List UInt8)} {t : List UInt8} (he : errOf (runP start ls t) = 0) : ∃ c P Q A,runP start ls t = okR_ c P Q A∧COK c P Q A = true∧glue ls ++ t = textT c P Q A:=by
  unfold start at he ⊢
  obtain ⟨l1,r1,c1,rfl,f1,e1⟩:=run_head (by decide) (by decide) he
  rw [e1] at he ⊢
  obtain ⟨l2,r2,c2,rfl,f2,e2⟩:=run_head (by decide) (by decide) he
  rw [e2] at he ⊢
  obtain ⟨l3,r3,c3,rfl,f3,e3⟩:=run_head (by decide) (by decide) he
  rw [e3] at he ⊢
  obtain ⟨l4,r4,c4,rfl,f4,e4⟩:=run_head (by decide) (by decide) he
  rw [e4] at he ⊢
  obtain ⟨l5,r5,c5,rfl,f5,e5⟩:=run_head (by decide) (by decide) he
  rw [e5] at he ⊢
  have g1 : ∃ x,c1 = ⟨x,0,0,0,0,0,0,0,0⟩∧l1 ++ [10] = line [wPolicy,polT x]:=by
    have f1' : firstP 0 l1 ⟨0,0,0,0,0,0,0,0,0⟩ = some c1:=f1
    unfold firstP at f1'
    rw [if_pos rfl] at f1'
    split at f1'
    · rename_i hp
      exact ⟨_,(Option.some.inj f1').symm,pol_back l1 hp⟩
    · cases f1'
  obtain ⟨x0,rfl,m1⟩:=g1
  obtain ⟨x1,rfl,m2⟩:=first_back1 (show firstP 1 l2 _ = some c2 from f2)
  obtain ⟨x2,rfl,m3⟩:=first_back2 (show firstP 2 l3 _ = some c3 from f3)
  obtain ⟨x3,rfl,m4⟩:=first_back3 (show firstP 3 l4 _ = some c4 from f4)
  obtain ⟨x4,x5,x6,x7,x8,rfl,m5⟩:=first_back4 (show firstP 4 l5 _ = some c5 from f5)
  obtain ⟨P,Q,A,k1,k2,k3⟩:=run_back r5 _ t (by show ¬ (1 + 1 + 1 + 1 + 1 + 1 : Int)≤5;omega) ⟨by show (0 : Int)≤0;omega,fun _=>rfl,fun _=>rfl,fun _=>rfl⟩ he
  refine ⟨_,P,Q,A,k1,k2,?_⟩
  have k3' : glue r5 ++ t = tailT P Q A:=k3
  have e : glue (l1 :: l2 :: l3 :: l4 :: l5 :: r5) ++ t = (l1 ++ [10]) ++ ((l2 ++ [10]) ++ ((l3 ++ [10]) ++ ((l4 ++ [10]) ++ ((l5 ++ [10]) ++ (glue r5 ++ t))))):=by simp [glue]
  rw [e,m1,m2,m3,m4,m5,k3']
  simp [textT,tailT,headT]
/-! ### printed, read -/
def partJ (p : S50) : List UInt8:=Lib.join [wPartition,p.f0.data.toList,wOrder,d_ p.f1,wPriority,d_ p.f2,wLimit,d_ p.f3] [32]
def classJ (q : S52) : List UInt8:=Lib.join [wQos,q.f0.data.toList,wPriority,d_ q.f1,wMost,d_ q.f2] [32]
def accJ (a : S48) : List UInt8:=if a.f1.toList = [] then Lib.join [wAccount,a.f0.data.toList,wShares,d_ a.f2] [32] else Lib.join [wAccount,a.f0.data.toList,wParent,a.f1.data.toList,wShares,d_ a.f2] [32]
theorem accJ_T (a : S48) : accT a = accJ a ++ [10]:=by
  unfold accT accJ line
  split <;> rfl
theorem hd_part (l : List UInt8) (ws : List (List UInt8)) (w : List UInt8) (e : spl 32 l = w :: ws) (h : w ≠ wPartition) : formL l partL.data.toList = none:=by
  unfold formL
  rw [spl_part,e,formP,if_neg (by decide),if_neg (by decide),if_neg h]
theorem hd_class (l : List UInt8) (ws : List (List UInt8)) (w : List UInt8) (e : spl 32 l = w :: ws) (h : w ≠ wQos) : formL l classL.data.toList = none:=by
  unfold formL
  rw [spl_class,e,formP,if_neg (by decide),if_neg (by decide),if_neg h]
theorem two_b {a b c : Int} {P : Int→Prop} (h1 : P a) (h2 : P b) (h3 : P c) : ∀ x ∈ [a,b,c],P x:=by
  intro x hx
  simp only [List.mem_cons,List.not_mem_nil,or_false] at hx
  rcases hx with rfl|rfl|rfl <;> assumption
theorem later_part (p : S50) (hn : NameOk p.f0 = true) (h1 : 0≤p.f1∧p.f1≤4294967296) (h2 : 0≤p.f2∧p.f2≤4294967296) (h3 : 0≤p.f3∧p.f3≤4294967296) (P : List S50) (Q : List S52) (A : List S48) : laterP (partJ p) P Q A = (1,P ++ [p],Q,A)∧(10 : UInt8) ∉ partJ p:=by
  have hnm : ∀ w ∈ [p.f0.data.toList],NameOk (mk w) = true:=by
    intro w hw;rw [List.mem_singleton.1 hw,mk_list];exact hn
  have hf:=forth partL.data.toList [p.f1,p.f2,p.f3] [p.f0.data.toList] (by rw [spl_part];rfl) (by rw [spl_part];rfl) (two_b h1 h2 h3) hnm
  have h10:=forth10 partL.data.toList [p.f1,p.f2,p.f3] [p.f0.data.toList] (by rw [spl_part];decide) hnm
  rw [fill_part] at hf h10
  refine ⟨?_,h10⟩
  unfold laterP partJ
  rw [hf.2]
  simp only [List.map_cons,List.map_nil]
  rw [mk_list]
  rfl
theorem later_class (p : S52) (hn : NameOk p.f0 = true) (h1 : 0≤p.f1∧p.f1≤4294967296) (h2 : 0≤p.f2∧p.f2≤4294967296) (P : List S50) (Q : List S52) (A : List S48) : laterP (classJ p) P Q A = (2,P,Q ++ [p],A)∧(10 : UInt8) ∉ classJ p:=by
  have hnm : ∀ w ∈ [p.f0.data.toList],NameOk (mk w) = true:=by
    intro w hw;rw [List.mem_singleton.1 hw,mk_list];exact hn
  have hns : ∀ x ∈ [p.f1,p.f2],0≤x∧x≤4294967296:=by
    intro x hx
    simp only [List.mem_cons,List.not_mem_nil,or_false] at hx
    rcases hx with rfl|rfl <;> assumption
  have hf:=forth classL.data.toList [p.f1,p.f2] [p.f0.data.toList] (by rw [spl_class];rfl) (by rw [spl_class];rfl) hns hnm
  have h10:=forth10 classL.data.toList [p.f1,p.f2] [p.f0.data.toList] (by rw [spl_class];decide) hnm
  rw [fill_class] at hf h10
  refine ⟨?_,h10⟩
  unfold laterP classJ
  rw [hd_part _ _ _ hf.1 (by decide),hf.2]
  simp only [List.map_cons,List.map_nil]
  rw [mk_list]
  rfl
theorem later_acc (p : S48) (hn : NameOk p.f0 = true) (h2 : 0≤p.f2∧p.f2≤4294967296) (P : List S50) (Q : List S52) (A : List S48) (hA : A = []→p.f1.toList = []) (hB : A ≠ []→p.f1.toList ≠ []∧NameOk p.f1 = true) : laterP (accJ p) P Q A = (3,P,Q,A ++ [p])∧(10 : UInt8) ∉ accJ p:=by
  have hns : ∀ x ∈ [p.f2],0≤x∧x≤4294967296:=by
    intro x hx
    rw [List.mem_singleton.1 hx];exact h2
  unfold accJ
  by_cases g : A = []
  · have g1:=hA g
    rw [if_pos g1]
    have hnm : ∀ w ∈ [p.f0.data.toList],NameOk (mk w) = true:=by
      intro w hw;rw [List.mem_singleton.1 hw,mk_list];exact hn
    have hf:=forth rootL.data.toList [p.f2] [p.f0.data.toList] (by rw [spl_root];rfl) (by rw [spl_root];rfl) hns hnm
    have h10:=forth10 rootL.data.toList [p.f2] [p.f0.data.toList] (by rw [spl_root];decide) hnm
    rw [fill_root] at hf h10
    refine ⟨?_,h10⟩
    unfold laterP
    rw [hd_part _ _ _ hf.1 (by decide),hd_class _ _ _ hf.1 (by decide),if_neg (by rw [g];simp),if_pos (by rw [g];rfl),hf.2]
    simp only [List.map_cons,List.map_nil]
    rw [mk_list]
    have e : p.f1 = (⟨#[]⟩ : ByteArray):=by
      have:=mk_list p.f1
      rw [← ByteArray.toList_eq,g1] at this
      exact this.symm
    obtain ⟨p0,p1,p2⟩:=p
    simp only [] at e
    subst e
    rfl
  · obtain ⟨g1,g2⟩:=hB g
    rw [if_neg g1]
    have hnm : ∀ w ∈ [p.f0.data.toList,p.f1.data.toList],NameOk (mk w) = true:=by
      intro w hw
      simp only [List.mem_cons,List.not_mem_nil,or_false] at hw
      rcases hw with rfl|rfl
      · rw [mk_list];exact hn
      · rw [mk_list];exact g2
    have hf:=forth accL.data.toList [p.f2] [p.f0.data.toList,p.f1.data.toList] (by rw [spl_acc];rfl) (by rw [spl_acc];rfl) hns hnm
    have h10:=forth10 accL.data.toList [p.f2] [p.f0.data.toList,p.f1.data.toList] (by rw [spl_acc];decide) hnm
    rw [fill_acc] at hf h10
    refine ⟨?_,h10⟩
    unfold laterP
    rw [hd_part _ _ _ hf.1 (by decide),hd_class _ _ _ hf.1 (by decide),if_pos (List.length_pos_iff.2 g),hf.2]
    simp only [List.map_cons,List.map_nil]
    rw [mk_list,mk_list]
    rfl
end Go.Proofs.YtgidipomfbikiaaDoor.Cnf
