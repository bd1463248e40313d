/- cut to what one law reaches -/
import Derived.Test.YtgidipomfbikiaaDoorQeCnfRun
import Derived.Test.YtgidipomfbikiaaDoorQeP0
import Derived.Test.YtgidipomfbikiaaDoorQeP10
namespace Go.Proofs.YtgidipomfbikiaaDoor.Cnf
open Go.RowKit Go.Proofs.YtgidipomfbikiaaDoorW.PrintWords Go.Proofs.YtgidipomfbikiaaDoorW.PrintLast Go.Proofs.YtgidipomfbikiaaDoorW.PrintMore Go.Proofs.YtgidipomfbikiaaDoor.P Go.Proofs.YtgidipomfbikiaaDoor.NumM
set_option linter.unusedVariables false
set_option linter.unusedSimpArgs false
/-! ### printed, read -/
def partJ (p : S50) : List UInt8:=Lib.join [wPartition,p.f0.data.toList,wOrder,d_ p.f1,wPriority,d_ p.f2,wLimit,d_ p.f3] [32]
def classJ (q : S52) : List UInt8:=Lib.join [wQos,q.f0.data.toList,wPriority,d_ q.f1,wMost,d_ q.f2] [32]
def accJ (a : S48) : List UInt8:=if a.f1.toList = [] then Lib.join [wAccount,a.f0.data.toList,wShares,d_ a.f2] [32] else Lib.join [wAccount,a.f0.data.toList,wParent,a.f1.data.toList,wShares,d_ a.f2] [32]
theorem accJ_T (a : S48) : accT a = accJ a ++ [10]:=by
  unfold accT accJ line
  split <;> rfl
theorem hd_part (l : List UInt8) (ws : List (List UInt8)) (w : List UInt8) (e : spl 32 l = w :: ws) (h : w ≠ wPartition) : formL l partL.data.toList = none:=by
  unfold formL
  rw [spl_part,e,formP,if_neg (by decide),if_neg (by decide),if_neg h]
theorem hd_class (l : List UInt8) (ws : List (List UInt8)) (w : List UInt8) (e : spl 32 l = w :: ws) (h : w ≠ wQos) : formL l classL.data.toList = none:=by
  unfold formL
  rw [spl_class,e,formP,if_neg (by decide),if_neg (by decide),if_neg h]
theorem two_b {a b c : Int} {P : Int→Prop} (h1 : P a) (h2 : P b) (h3 : P c) : ∀ x ∈ [a,b,c],P x:=by
  intro x hx
  simp only [List.mem_cons,List.not_mem_nil,or_false] at hx
  rcases hx with rfl|rfl|rfl <;> assumption
theorem later_part (p : S50) (hn : NameOk p.f0 = true) (h1 : 0≤p.f1∧p.f1≤4294967296) (h2 : 0≤p.f2∧p.f2≤4294967296) (h3 : 0≤p.f3∧p.f3≤4294967296) (P : List S50) (Q : List S52) (A : List S48) : laterP (partJ p) P Q A = (1,P ++ [p],Q,A)∧(10 : UInt8) ∉ partJ p:=by
  have hnm : ∀ w ∈ [p.f0.data.toList],NameOk (mk w) = true:=by
    intro w hw;rw [List.mem_singleton.1 hw,mk_list];exact hn
  have hf:=forth partL.data.toList [p.f1,p.f2,p.f3] [p.f0.data.toList] (by rw [spl_part];rfl) (by rw [spl_part];rfl) (two_b h1 h2 h3) hnm
  have h10:=forth10 partL.data.toList [p.f1,p.f2,p.f3] [p.f0.data.toList] (by rw [spl_part];decide) hnm
  rw [fill_part] at hf h10
  refine ⟨?_,h10⟩
  unfold laterP partJ
  rw [hf.2]
  simp only [List.map_cons,List.map_nil]
  rw [mk_list]
  rfl
theorem later_class (p : S52) (hn : NameOk p.f0 = true) (h1 : 0≤p.f1∧p.f1≤4294967296) (h2 : 0≤p.f2∧p.f2≤4294967296) (P : List S50) (Q : List S52) (A : List S48) : laterP (classJ p) P Q A = (2,P,Q ++ [p],A)∧(10 : UInt8) ∉ classJ p:=by
  have hnm : ∀ w ∈ [p.f0.data.toList],NameOk (mk w) = true:=by
    intro w hw;rw [List.mem_singleton.1 hw,mk_list];exact hn
  have hns : ∀ x ∈ [p.f1,p.f2],0≤x∧x≤4294967296:=by
    intro x hx
    simp only [List.mem_cons,List.not_mem_nil,or_false] at hx
    rcases hx with rfl|rfl <;> assumption
  have hf:=forth classL.data.toList [p.f1,p.f2] [p.f0.data.toList] (by rw [spl_class];rfl) (by rw [spl_class];rfl) hns hnm
  have h10:=forth10 classL.data.toList [p.f1,p.f2] [p.f0.data.toList] (by rw [spl_class];decide) hnm
  rw [fill_class] at hf h10
  refine ⟨?_,h10⟩
  unfold laterP classJ
  rw [hd_part _ _ _ hf.1 (by decide),hf.2]
  simp only [List.map_cons,List.map_nil]
  rw [mk_list]
  rfl
theorem later_acc (p : S48) (hn : NameOk p.f0 = true) (h2 : 0≤p.f2∧p.f2≤4294967296) (P : List S50) (Q : List S52) (A : List S48) (hA : A = []→p.f1.toList = []) (hB : A ≠ []→p.f1.toList ≠ []∧NameOk p.f1 = true) : laterP (accJ p) P Q A = (3,P,Q,A ++ [p])∧(10 : UInt8) ∉ accJ p:=by
  have hns : ∀ x ∈ [p.f2],0≤x∧x≤4294967296:=by
    intro x hx
    rw [List.mem_singleton.1 hx];exact h2
  unfold accJ
  by_cases g : A = []
  · have g1:=hA g
    rw [if_pos g1]
    have hnm : ∀ w ∈ [p.f0.data.toList],NameOk (mk w) = true:=by
      intro w hw;rw [List.mem_singleton.1 hw,mk_list];exact hn
    have hf:=forth rootL.data.toList [p.f2] [p.f0.data.toList] (by rw [spl_root];rfl) (by rw [spl_root];rfl) hns hnm
    have h10:=forth10 rootL.data.toList [p.f2] [p.f0.data.toList] (by rw [spl_root];decide) hnm
    rw [fill_root] at hf h10
    refine ⟨?_,h10⟩
    unfold laterP
    rw [hd_part _ _ _ hf.1 (by decide),hd_class _ _ _ hf.1 (by decide),if_neg (by rw [g];simp),if_pos (by rw [g];rfl),hf.2]
    simp only [List.map_cons,List.map_nil]
    rw [mk_list]
    have e : p.f1 = (⟨#[]⟩ : ByteArray):=by
      have:=mk_list p.f1
      rw [← ByteArray.toList_eq,g1] at this
      exact this.symm
    obtain ⟨p0,p1,p2⟩:=p
    simp only [] at e
    subst e
    rfl
  · obtain ⟨g1,g2⟩:=hB g
    rw [if_neg g1]
    have hnm : ∀ w ∈ [p.f0.data.toList,p.f1.data.toList],NameOk (mk w) = true:=by
      intro w hw
      simp only [List.mem_cons,List.not_mem_nil,or_false] at hw
      rcases hw with rfl|rfl
      · rw [mk_list];exact hn
      · rw [mk_list];exact g2
    have hf:=forth accL.data.toList [p.f2] [p.f0.data.toList,p.f1.data.toList] (by rw [spl_acc];rfl) (by rw [spl_acc];rfl) hns hnm
    have h10:=forth10 accL.data.toList [p.f2] [p.f0.data.toList,p.f1.data.toList] (by rw [spl_acc];decide) hnm
    rw [fill_acc] at hf h10
    refine ⟨?_,h10⟩
    unfold laterP
    rw [hd_part _ _ _ hf.1 (by decide),hd_class _ _ _ hf.1 (by decide),if_pos (List.length_pos_iff.2 g),hf.2]
    simp only [List.map_cons,List.map_nil]
    rw [mk_list,mk_list]
    rfl
end Go.Proofs.YtgidipomfbikiaaDoor.Cnf
