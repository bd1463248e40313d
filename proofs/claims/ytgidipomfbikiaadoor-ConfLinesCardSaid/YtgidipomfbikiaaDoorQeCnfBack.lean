/- cut to what one law reaches -/
import Derived.Test.YtgidipomfbikiaaDoorQeCnfParse
import Derived.Test.YtgidipomfbikiaaDoorQeCnfName
import Derived.Test.YtgidipomfbikiaaDoorQeP0
import Derived.Test.YtgidipomfbikiaaDoorQeP6
namespace Go.Proofs.YtgidipomfbikiaaDoor.Cnf
open Go.RowKit Go.Proofs.YtgidipomfbikiaaDoorW.PrintWords Go.Proofs.YtgidipomfbikiaaDoorW.PrintLast Go.Proofs.YtgidipomfbikiaaDoorW.PrintMore Go.Proofs.YtgidipomfbikiaaDoor.P Go.Proofs.YtgidipomfbikiaaDoor.NumM
set_option linter.unusedVariables false
set_option linter.unusedSimpArgs false
/-- a form's words, filled in -/
def fillW : List (List UInt8)→List Int→List (List UInt8)→List (List UInt8)
  | [],_,_=>[]
  | q :: qs,ns,ls=>if q = [35] then d_ (ns.headD 0) :: fillW qs ns.tail ls else if q = [64] then ls.headD [] :: fillW qs ns ls.tail else q :: fillW qs ns ls
theorem formP_fill : ∀ (qs ws : List (List UInt8)) (y : List Int × List (List UInt8)),formP qs ws = some y→ws = fillW qs y.1 y.2
  | [],[],y,h=>rfl
  | q :: qs,[],y,h=>by simp [formP] at h
  | [],w :: ws,y,h=>by simp [formP] at h
  | q :: qs,w :: ws,y,h=>by
    rw [formP] at h
    rw [fillW]
    by_cases g1 : q = [35]
    · rw [if_pos g1] at h ⊢
      cases hn : numP w with
      | none=>rw [hn] at h;cases h
      | some x =>
        rw [hn] at h
        cases hf : formP qs ws with
        | none=>rw [hf] at h;cases h
        | some z =>
          rw [hf] at h
          have e:=Option.some.inj h
          subst e
          show w :: ws = d_ x :: fillW qs z.1 z.2
          rw [← formP_fill qs ws z hf,← (numP_canon hn).1]
    · rw [if_neg g1] at h ⊢
      by_cases g2 : q = [64]
      · rw [if_pos g2] at h ⊢
        split at h
        · cases hf : formP qs ws with
          | none=>rw [hf] at h;cases h
          | some z =>
            rw [hf] at h
            have e:=Option.some.inj h
            subst e
            show w :: ws = w :: fillW qs z.1 z.2
            rw [← formP_fill qs ws z hf]
        · cases h
      · rw [if_neg g2] at h ⊢
        split at h
        · rename_i hw
          rw [← formP_fill qs ws y h,hw]
        · cases h
theorem fill_form : ∀ (qs : List (List UInt8)) (ns : List Int) (ls : List (List UInt8)),ns.length = cnt 35 qs→ls.length = cnt 64 qs→(∀ x ∈ ns,0≤x∧x≤4294967296)→(∀ w ∈ ls,NameOk (mk w) = true)→formP qs (fillW qs ns ls) = some (ns,ls)
  | [],ns,ls,h1,h2,h3,h4=>by
    have e1 : ns = []:=List.length_eq_zero_iff.1 h1
    have e2 : ls = []:=List.length_eq_zero_iff.1 h2
    subst e1;subst e2;rfl
  | q :: qs,ns,ls,h1,h2,h3,h4=>by
    rw [fillW]
    unfold cnt at h1 h2
    by_cases g1 : q = [35]
    · rw [if_pos g1]
      subst g1
      cases ns with
      | nil=>simp at h1
      | cons x ns =>
        obtain ⟨x0,x1⟩:=h3 x (List.mem_cons_self ..)
        rw [formP,if_pos rfl]
        show (match numP (d_ x) with|none=>none|some u=>_) = _
        rw [numP_d x0 x1]
        show (match formP qs (fillW qs ns ls) with|none=>none|some y=>some (x :: y.1,y.2)) = _
        rw [fill_form qs ns ls (by simpa [cnt] using h1) (by simpa [cnt] using h2) (fun y hy=>h3 y (List.mem_cons_of_mem _ hy)) h4]
    · rw [if_neg g1]
      by_cases g2 : q = [64]
      · rw [if_pos g2]
        subst g2
        cases ls with
        | nil=>simp at h2
        | cons w ls =>
          rw [formP,if_neg g1,if_pos rfl]
          show (if NameOk (mk w) = true then _ else none) = _
          rw [if_pos (h4 w (List.mem_cons_self ..))]
          show (match formP qs (fillW qs ns ls) with|none=>none|some y=>some (y.1,w :: y.2)) = _
          rw [fill_form qs ns ls (by simpa [cnt] using h1) (by simpa [cnt] using h2) h3 (fun y hy=>h4 y (List.mem_cons_of_mem _ hy))]
      · rw [if_neg g2,formP,if_neg g1,if_neg g2,if_pos rfl]
        exact fill_form qs ns ls (by simpa [cnt,g1] using h1) (by simpa [cnt,g2] using h2) h3 h4
theorem spl_no (c : UInt8) : ∀ (l : List UInt8),∀ w ∈ spl c l,c ∉ w
  | [],w,h=>by simp [spl] at h;subst h;simp
  | x :: r,w,h=>by
    rw [spl] at h
    split at h
    · rcases List.mem_cons.1 h with q|q
      · subst q;simp
      · exact spl_no c r w q
    · rename_i hx
      cases hs : spl c r with
      | nil=>exact absurd hs (spl_ne c r)
      | cons v vs =>
        rw [hs] at h
        rcases List.mem_cons.1 h with q|q
        · subst q
          have:=spl_no c r v (by rw [hs];simp)
          simp only [List.mem_cons,not_or]
          exact ⟨fun z=>hx z.symm,this⟩
        · exact spl_no c r w (by rw [hs];exact List.mem_cons_of_mem _ q)
theorem d_no (x : Int) {c : UInt8} (hc : c = 32 ∨ c = 10) : c ∉ d_ x:=by
  refine nod (dec_all x.toNat) ?_
  rcases hc with rfl|rfl <;> decide
theorem fill_no {c : UInt8} (hc : c = 32 ∨ c = 10) : ∀ (qs : List (List UInt8)) (ns : List Int) (ls : List (List UInt8)),(∀ q ∈ qs,c ∉ q)→(∀ w ∈ ls,c ∉ w)→∀ w ∈ fillW qs ns ls,c ∉ w
  | [],ns,ls,h1,h2,w,hw=>by simp [fillW] at hw
  | q :: qs,ns,ls,h1,h2,w,hw=>by
    rw [fillW] at hw
    have h1':=fun x hx=>h1 x (List.mem_cons_of_mem _ hx)
    split at hw
    · rcases List.mem_cons.1 hw with g|g
      · subst g;exact d_no _ hc
      · exact fill_no hc qs _ ls h1' h2 w g
    · split at hw
      · rcases List.mem_cons.1 hw with g|g
        · subst g
          cases ls with
          | nil=>simp
          | cons v ls=>exact h2 v (List.mem_cons_self ..)
        · exact fill_no hc qs ns ls.tail h1' (fun x hx=>h2 x (List.mem_of_mem_tail hx)) w g
      · rcases List.mem_cons.1 hw with g|g
        · subst g;exact h1 _ (List.mem_cons_self ..)
        · exact fill_no hc qs ns ls h1' h2 w g
theorem joinTail_no (c : UInt8) (hc : c ≠ 32) : ∀ (ws : List (List UInt8)),(∀ w ∈ ws,c ∉ w)→c ∉ Lib.joinTail [32] ws
  | [],h=>by simp [Lib.joinTail]
  | a :: l,h=>by
    have ih:=joinTail_no c hc l (fun x hx=>h x (List.mem_cons_of_mem _ hx))
    have ha:=h a (List.mem_cons_self ..)
    have e : Lib.joinTail [32] (a :: l) = 32 :: (a ++ Lib.joinTail [32] l):=by simp [Lib.joinTail]
    rw [e]
    simp only [List.mem_append,List.mem_cons,not_or]
    exact ⟨hc,ha,ih⟩
theorem join_no (c : UInt8) (hc : c ≠ 32) (ws : List (List UInt8)) (h : ∀ w ∈ ws,c ∉ w) : c ∉ Lib.join ws [32]:=by
  cases ws with
  | nil=>simp [Lib.join_nil]
  | cons a l =>
    rw [Lib.join_cons]
    have ih:=joinTail_no c hc l (fun x hx=>h x (List.mem_cons_of_mem _ hx))
    have ha:=h a (List.mem_cons_self ..)
    simp only [List.mem_append,not_or]
    exact ⟨ha,ih⟩
/-- what has a form is the form filled in -/
theorem back {l like : List UInt8} {y : List Int × List (List UInt8)} (h : formL l like = some y) : l ++ [10] = line (fillW (spl 32 like) y.1 y.2):=by
  have e:=formP_fill _ _ y h
  unfold line
  rw [← e,spl_join]
/-- a form filled in has the form -/
theorem forth (like : List UInt8) (ns : List Int) (ls : List (List UInt8)) (h1 : ns.length = cnt 35 (spl 32 like)) (h2 : ls.length = cnt 64 (spl 32 like)) (h3 : ∀ x ∈ ns,0≤x∧x≤4294967296) (h4 : ∀ w ∈ ls,NameOk (mk w) = true) : spl 32 (Lib.join (fillW (spl 32 like) ns ls) [32]) = fillW (spl 32 like) ns ls∧formL (Lib.join (fillW (spl 32 like) ns ls) [32]) like = some (ns,ls):=by
  have hno : ∀ w ∈ ls,(32 : UInt8) ∉ w:=fun w hw=>by
    have:=name_no (h4 w hw) (c:=32) (Or.inl rfl)
    rwa [mk_data] at this
  have e : spl 32 (Lib.join (fillW (spl 32 like) ns ls) [32]) = fillW (spl 32 like) ns ls:=by
    refine join_spl _ ?_ (fill_no (Or.inl rfl) _ ns ls (spl_no 32 like) hno)
    cases hs : spl 32 like with
    | nil=>exact absurd hs (spl_ne 32 like)
    | cons q qs =>
      rw [fillW]
      split
      · simp
      · split <;> simp
  refine ⟨e,?_⟩
  unfold formL
  rw [e]
  exact fill_form _ ns ls h1 h2 h3 h4
theorem forth10 (like : List UInt8) (ns : List Int) (ls : List (List UInt8)) (h0 : ∀ q ∈ spl 32 like,(10 : UInt8) ∉ q) (h4 : ∀ w ∈ ls,NameOk (mk w) = true) : (10 : UInt8) ∉ Lib.join (fillW (spl 32 like) ns ls) [32]:=by
  refine join_no 10 (by decide) _ (fill_no (Or.inr rfl) _ ns ls h0 fun w hw=>?_)
  have:=name_no (h4 w hw) (c:=10) (Or.inr rfl)
  rwa [mk_data] at this
theorem spl_part : spl 32 partL.data.toList = [wPartition,[64],wOrder,[35],wPriority,[35],wLimit,[35]]:=by decide
theorem spl_class : spl 32 classL.data.toList = [wQos,[64],wPriority,[35],wMost,[35]]:=by decide
theorem spl_acc : spl 32 accL.data.toList = [wAccount,[64],wParent,[64],wShares,[35]]:=by decide
theorem spl_root : spl 32 rootL.data.toList = [wAccount,[64],wShares,[35]]:=by decide
theorem spl_half : spl 32 halfL.data.toList = [wHalf,[35]]:=by decide
theorem spl_quant : spl 32 quantL.data.toList = [wQuantum,[35]]:=by decide
theorem spl_requ : spl 32 requL.data.toList = [wRequeues,[35]]:=by decide
theorem spl_weig : spl 32 weigL.data.toList = [wWeights,[35],[35],[35],[35],[35]]:=by decide
theorem fill_part (a b c : Int) (n : List UInt8) : fillW (spl 32 partL.data.toList) [a,b,c] [n] = [wPartition,n,wOrder,d_ a,wPriority,d_ b,wLimit,d_ c]:=by
  rw [spl_part];simp [fillW,wPartition,wOrder,wPriority,wLimit]
theorem fill_class (a b : Int) (n : List UInt8) : fillW (spl 32 classL.data.toList) [a,b] [n] = [wQos,n,wPriority,d_ a,wMost,d_ b]:=by
  rw [spl_class];simp [fillW,wQos,wPriority,wMost]
theorem fill_acc (a : Int) (n m : List UInt8) : fillW (spl 32 accL.data.toList) [a] [n,m] = [wAccount,n,wParent,m,wShares,d_ a]:=by
  rw [spl_acc];simp [fillW,wAccount,wParent,wShares]
theorem fill_root (a : Int) (n : List UInt8) : fillW (spl 32 rootL.data.toList) [a] [n] = [wAccount,n,wShares,d_ a]:=by
  rw [spl_root];simp [fillW,wAccount,wShares]
theorem fill_half (a : Int) : fillW (spl 32 halfL.data.toList) [a] [] = [wHalf,d_ a]:=by
  rw [spl_half];simp [fillW,wHalf]
theorem fill_quant (a : Int) : fillW (spl 32 quantL.data.toList) [a] [] = [wQuantum,d_ a]:=by
  rw [spl_quant];simp [fillW,wQuantum]
theorem fill_requ (a : Int) : fillW (spl 32 requL.data.toList) [a] [] = [wRequeues,d_ a]:=by
  rw [spl_requ];simp [fillW,wRequeues]
theorem fill_weig (a b c d e : Int) : fillW (spl 32 weigL.data.toList) [a,b,c,d,e] [] = [wWeights,d_ a,d_ b,d_ c,d_ d,d_ e]:=by
  rw [spl_weig];simp [fillW,wWeights]
theorem one_of {α : Type} {l : List α} (h : l.length = 1) : ∃ a,l = [a]:=List.length_eq_one_iff.1 h
theorem two_of {α : Type} {l : List α} (h : l.length = 2) : ∃ a b,l = [a,b]:=by
  match l,h with|[a,b],_=>exact ⟨a,b,rfl⟩
theorem three_of {α : Type} {l : List α} (h : l.length = 3) : ∃ a b c,l = [a,b,c]:=by
  match l,h with|[a,b,c],_=>exact ⟨a,b,c,rfl⟩
theorem name_ne {w : List UInt8} (h : NameOk (mk w) = true) : w ≠ []:=by
  intro e;subst e
  have e : NameOk (mk []) = nameAt 1 (mk []) 0:=rfl
  rw [e,nameAt,if_neg (by rw [mk_size];simp),mk_toList] at h
  simp at h
/-- what a line behind the first five adds is what it says -/
theorem later_cases (l : List UInt8) (P : List S50) (Q : List S52) (A : List S48) : (laterP l P Q A).1 = 0 ∨ (∃ p,laterP l P Q A = (1,P ++ [p],Q,A)∧partT p = l ++ [10]) ∨ (∃ q,laterP l P Q A = (2,P,Q ++ [q],A)∧classT q = l ++ [10]) ∨ (∃ a,laterP l P Q A = (3,P,Q,A ++ [a])∧accT a = l ++ [10]):=by
  unfold laterP
  cases h1 : formL l partL.data.toList with
  | some y =>
    obtain ⟨ns,ls⟩:=y
    have hc:=formP_cnt _ _ _ h1
    rw [spl_part] at hc
    obtain ⟨a,b,c,rfl⟩:=three_of (l:=ns) hc.1
    obtain ⟨n,rfl⟩:=one_of (l:=ls) hc.2
    refine Or.inr (Or.inl ⟨_,rfl,?_⟩)
    rw [back h1,fill_part];rfl
  | none =>
  cases h2 : formL l classL.data.toList with
  | some y =>
    obtain ⟨ns,ls⟩:=y
    have hc:=formP_cnt _ _ _ h2
    rw [spl_class] at hc
    obtain ⟨a,b,rfl⟩:=two_of (l:=ns) hc.1
    obtain ⟨n,rfl⟩:=one_of (l:=ls) hc.2
    refine Or.inr (Or.inr (Or.inl ⟨_,rfl,?_⟩))
    rw [back h2,fill_class];rfl
  | none =>
  cases h3 : (if 0 < A.length then formL l accL.data.toList else none) with
  | some y =>
    obtain ⟨ns,ls⟩:=y
    split at h3
    · have hc:=formP_cnt _ _ _ h3
      have hn:=formP_sz _ _ _ h3
      rw [spl_acc] at hc
      obtain ⟨a,rfl⟩:=one_of (l:=ns) hc.1
      obtain ⟨n,m,rfl⟩:=two_of (l:=ls) hc.2
      refine Or.inr (Or.inr (Or.inr ⟨_,rfl,?_⟩))
      rw [back h3,fill_acc]
      unfold accT
      rw [if_neg]
      · rfl
      · show (mk m).toList ≠ []
        rw [mk_toList]
        exact name_ne (hn m (by simp)).2
    · cases h3
  | none =>
  cases h4 : (if A.length = 0 then formL l rootL.data.toList else none) with
  | some y =>
    obtain ⟨ns,ls⟩:=y
    split at h4
    · have hc:=formP_cnt _ _ _ h4
      rw [spl_root] at hc
      obtain ⟨a,rfl⟩:=one_of (l:=ns) hc.1
      obtain ⟨n,rfl⟩:=one_of (l:=ls) hc.2
      refine Or.inr (Or.inr (Or.inr ⟨_,rfl,?_⟩))
      rw [back h4,fill_root]
      unfold accT
      rw [if_pos]
      · rfl
      · exact mk_toList []
    · cases h4
  | none=>exact Or.inl rfl
end Go.Proofs.YtgidipomfbikiaaDoor.Cnf
