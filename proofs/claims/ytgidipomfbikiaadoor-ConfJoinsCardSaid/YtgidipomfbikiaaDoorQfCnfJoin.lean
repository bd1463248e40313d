/- cut to what one law reaches -/
import Derived.Test.YtgidipomfbikiaaDoorQfCnfText
import Derived.Test.YtgidipomfbikiaaDoorQfP0
import Derived.Test.YtgidipomfbikiaaDoorQfP6
import Derived.Test.YtgidipomfbikiaaDoorQfCnfParse
import Derived.Test.YtgidipomfbikiaaDoorQfP10
import Derived.Test.YtgidipomfbikiaaDoorQfP21
import Derived.Test.YtgidipomfbikiaaDoorQfP7
namespace Go.Proofs.YtgidipomfbikiaaDoor.Cnf
open Go.RowKit Go.Proofs.YtgidipomfbikiaaDoorW.PrintWords Go.Proofs.YtgidipomfbikiaaDoorW.PrintLast Go.Proofs.YtgidipomfbikiaaDoorW.PrintMore Go.Proofs.YtgidipomfbikiaaDoor.P Go.Proofs.YtgidipomfbikiaaDoor.NumM Go.Lib Go.Proofs.YtgidipomfbikiaaDoor.RefName
set_option linter.unusedVariables false
set_option linter.unusedSimpArgs false
theorem dec_bytes (n b0 b1 b2 b3 : Nat) (h : ¬ ((decodeN n b0 b1 b2 b3).1 = 65533∧(decodeN n b0 b1 b2 b3).2 = 1)) :
    (b0 < 128→decodeN n b0 b1 b2 b3 = (b0,1))∧(1 < (decodeN n b0 b1 b2 b3).2→128≤b1)∧(2 < (decodeN n b0 b1 b2 b3).2→128≤b2)∧(3 < (decodeN n b0 b1 b2 b3).2→128≤b3):=by
  by_cases g1 : b0 < 128
  · have e : decodeN n b0 b1 b2 b3 = (b0,1):=by unfold decodeN;rw [if_pos g1]
    rw [e]
    exact ⟨fun _=>rfl,fun q=>absurd q (by simp),fun q=>absurd q (by simp),fun q=>absurd q (by simp)⟩
  · refine ⟨fun q=>absurd q g1,?_⟩
    revert h
    unfold decodeN
    simp only [if_neg g1]
    repeat' split
    all_goals intro h
    all_goals first
      | exact absurd ⟨rfl,rfl⟩ h
      | (clear h;refine ⟨fun q=>?_,fun q=>?_,fun q=>?_⟩ <;> dsimp only at q <;> omega)
theorem dec_width (n b0 b1 b2 b3 : Nat) : (decodeN n b0 b1 b2 b3).2≤4:=by
  unfold decodeN
  repeat' split
  all_goals simp only []
  all_goals omega
theorem name_bytes (s : ByteArray) : ∀ (m pos : Nat),nameAt m s pos = true→(∀ i,pos≤i→i < s.size→(s.get! i).toNat ≠ 32∧(s.get! i).toNat ≠ 10)∧runeCount s≤32
  | 0,pos,h=>by rw [nameAt] at h;cases h
  | m + 1,pos,h=>by
    rw [nameAt] at h
    by_cases hlt : pos < s.size
    · rw [if_pos hlt] at h
      have hrest : (decodeGo (s.extract pos s.size)).2 = (Utf8.decode s pos).2:=by
        unfold decodeGo
        rw [if_neg (by rw [ByteArray.size_extract];omega),tail_decode,Nat.add_zero]
      rw [hrest] at h
      have hw1:=decode_width_pos s pos hlt
      have hd:=decode_at s pos
      have hB:=dec_bytes (s.size - pos) (s.get! pos).toNat (s.get! (pos + 1)).toNat (s.get! (pos + 2)).toNat (s.get! (pos + 3)).toNat
      have hW:=dec_width (s.size - pos) (s.get! pos).toNat (s.get! (pos + 1)).toNat (s.get! (pos + 2)).toNat (s.get! (pos + 3)).toNat
      rw [← hd] at hB hW
      by_cases g : (Utf8.decode s pos).1 = 65533∧(Utf8.decode s pos).2 = 1
      · rw [if_pos g] at h;cases h
      · rw [if_neg g] at h
        by_cases k : okRune (Utf8.decode s pos).1 = true
        · rw [if_pos k] at h
          obtain ⟨ih,hc⟩:=name_bytes s m _ h
          refine ⟨fun i h1 h2=>?_,hc⟩
          by_cases hi : pos + (Utf8.decode s pos).2≤i
          · exact ih i hi h2
          · obtain ⟨c1,c2,c3,c4⟩:=hB g
            obtain ⟨j,rfl⟩ : ∃ j,i = pos + j:=⟨i - pos,by omega⟩
            rcases (show j = 0 ∨ j = 1 ∨ j = 2 ∨ j = 3 by omega) with rfl|rfl|rfl|rfl
            · by_cases ha : (s.get! pos).toNat < 128
              · have e:=c1 ha
                rw [e] at k
                simp only [okRune,Bool.or_eq_true,Bool.and_eq_true,decide_eq_true_eq,beq_iff_eq] at k
                simp only [Nat.add_zero]
                omega
              · simp only [Nat.add_zero];omega
            · have:=c2 (by omega);omega
            · have:=c3 (by omega);omega
            · have:=c4 (by omega);omega
        · rw [if_neg k] at h;cases h
    · rw [if_neg hlt] at h
      rw [Bool.and_eq_true] at h
      exact ⟨fun i h1 h2=>absurd h2 (by omega),by simpa using h.2⟩
theorem count_size (s : ByteArray) : ∀ (f pos : Nat),s.size≤pos + f→s.size≤pos + 4 * runeCountFrom s f pos
  | 0,pos,h=>by omega
  | f + 1,pos,h=>by
    by_cases hlt : pos < s.size
    · have hw1:=decode_width_pos s pos hlt
      have hW:=dec_width (s.size - pos) (s.get! pos).toNat (s.get! (pos + 1)).toNat (s.get! (pos + 2)).toNat (s.get! (pos + 3)).toNat
      rw [← decode_at s pos] at hW
      rw [runeCountFrom,if_pos hlt]
      have:=count_size s f (pos + (Utf8.decode s pos).2) (by omega)
      omega
    · omega
theorem name_size {s : ByteArray} (h : NameOk s = true) : s.size≤128:=by
  have h1:=(name_bytes s _ 0 h).2
  have h2:=count_size s s.size 0 (by omega)
  have e : runeCount s = runeCountFrom s s.size 0:=rfl
  omega
theorem name_no {s : ByteArray} (h : NameOk s = true) {c : UInt8} (hc : c = 32 ∨ c = 10) : c ∉ s.data.toList:=by
  intro hm
  obtain ⟨i,hi,e⟩:=List.getElem_of_mem hm
  have h2 : i < s.size:=by simpa using hi
  have:=(name_bytes s _ 0 h).1 i (Nat.zero_le _) h2
  have e2 : s.get! i = c:=by
    rw [← e]
    cases s with
    | mk d=>exact getElem!_pos d i h2
  rw [e2] at this
  rcases hc with rfl|rfl
  · exact this.1 rfl
  · exact this.2 rfl
end Go.Proofs.YtgidipomfbikiaaDoor.Cnf

namespace Go.Proofs.YtgidipomfbikiaaDoor.Cnf
open Go.RowKit Go.Proofs.YtgidipomfbikiaaDoorW.PrintWords Go.Proofs.YtgidipomfbikiaaDoorW.PrintLast Go.Proofs.YtgidipomfbikiaaDoorW.PrintMore Go.Proofs.YtgidipomfbikiaaDoor.P Go.Proofs.YtgidipomfbikiaaDoor.NumM
set_option linter.unusedVariables false
set_option linter.unusedSimpArgs false
/-- a form's words, filled in -/
def fillW : List (List UInt8)→List Int→List (List UInt8)→List (List UInt8)
  | [],_,_=>[]
  | q :: qs,ns,ls=>if q = [35] then d_ (ns.headD 0) :: fillW qs ns.tail ls else if q = [64] then ls.headD [] :: fillW qs ns ls.tail else q :: fillW qs ns ls
theorem formP_fill : ∀ (qs ws : List (List UInt8)) (y : List Int × List (List UInt8)),formP qs ws = some y→ws = fillW qs y.1 y.2
  | [],[],y,h=>rfl
  | q :: qs,[],y,h=>by simp [formP] at h
  | [],w :: ws,y,h=>by simp [formP] at h
  | q :: qs,w :: ws,y,h=>by
    rw [formP] at h
    rw [fillW]
    by_cases g1 : q = [35]
    · rw [if_pos g1] at h ⊢
      cases hn : numP w with
      | none=>rw [hn] at h;cases h
      | some x =>
        rw [hn] at h
        cases hf : formP qs ws with
        | none=>rw [hf] at h;cases h
        | some z =>
          rw [hf] at h
          have e:=Option.some.inj h
          subst e
          show w :: ws = d_ x :: fillW qs z.1 z.2
          rw [← formP_fill qs ws z hf,← (numP_canon hn).1]
    · rw [if_neg g1] at h ⊢
      by_cases g2 : q = [64]
      · rw [if_pos g2] at h ⊢
        split at h
        · cases hf : formP qs ws with
          | none=>rw [hf] at h;cases h
          | some z =>
            rw [hf] at h
            have e:=Option.some.inj h
            subst e
            show w :: ws = w :: fillW qs z.1 z.2
            rw [← formP_fill qs ws z hf]
        · cases h
      · rw [if_neg g2] at h ⊢
        split at h
        · rename_i hw
          rw [← formP_fill qs ws y h,hw]
        · cases h
theorem fill_form : ∀ (qs : List (List UInt8)) (ns : List Int) (ls : List (List UInt8)),ns.length = cnt 35 qs→ls.length = cnt 64 qs→(∀ x ∈ ns,0≤x∧x≤4294967296)→(∀ w ∈ ls,NameOk (mk w) = true)→formP qs (fillW qs ns ls) = some (ns,ls)
  | [],ns,ls,h1,h2,h3,h4=>by
    have e1 : ns = []:=List.length_eq_zero_iff.1 h1
    have e2 : ls = []:=List.length_eq_zero_iff.1 h2
    subst e1;subst e2;rfl
  | q :: qs,ns,ls,h1,h2,h3,h4=>by
    rw [fillW]
    unfold cnt at h1 h2
    by_cases g1 : q = [35]
    · rw [if_pos g1]
      subst g1
      cases ns with
      | nil=>simp at h1
      | cons x ns =>
        obtain ⟨x0,x1⟩:=h3 x (List.mem_cons_self ..)
        rw [formP,if_pos rfl]
        show (match numP (d_ x) with|none=>none|some u=>_) = _
        rw [numP_d x0 x1]
        show (match formP qs (fillW qs ns ls) with|none=>none|some y=>some (x :: y.1,y.2)) = _
        rw [fill_form qs ns ls (by simpa [cnt] using h1) (by simpa [cnt] using h2) (fun y hy=>h3 y (List.mem_cons_of_mem _ hy)) h4]
    · rw [if_neg g1]
      by_cases g2 : q = [64]
      · rw [if_pos g2]
        subst g2
        cases ls with
        | nil=>simp at h2
        | cons w ls =>
          rw [formP,if_neg g1,if_pos rfl]
          show (if NameOk (mk w) = true then _ else none) = _
          rw [if_pos (h4 w (List.mem_cons_self ..))]
          show (match formP qs (fillW qs ns ls) with|none=>none|some y=>some (y.1,w :: y.2)) = _
          rw [fill_form qs ns ls (by simpa [cnt] using h1) (by simpa [cnt] using h2) h3 (fun y hy=>h4 y (List.mem_cons_of_mem _ hy))]
      · rw [if_neg g2,formP,if_neg g1,if_neg g2,if_pos rfl]
        exact fill_form qs ns ls (by simpa [cnt,g1] using h1) (by simpa [cnt,g2] using h2) h3 h4
theorem spl_no (c : UInt8) : ∀ (l : List UInt8),∀ w ∈ spl c l,c ∉ w
  | [],w,h=>by simp [spl] at h;subst h;simp
  | x :: r,w,h=>by
    rw [spl] at h
    split at h
    · rcases List.mem_cons.1 h with q|q
      · subst q;simp
      · exact spl_no c r w q
    · rename_i hx
      cases hs : spl c r with
      | nil=>exact absurd hs (spl_ne c r)
      | cons v vs =>
        rw [hs] at h
        rcases List.mem_cons.1 h with q|q
        · subst q
          have:=spl_no c r v (by rw [hs];simp)
          simp only [List.mem_cons,not_or]
          exact ⟨fun z=>hx z.symm,this⟩
        · exact spl_no c r w (by rw [hs];exact List.mem_cons_of_mem _ q)
theorem d_no (x : Int) {c : UInt8} (hc : c = 32 ∨ c = 10) : c ∉ d_ x:=by
  refine nod (dec_all x.toNat) ?_
  rcases hc with rfl|rfl <;> decide
theorem fill_no {c : UInt8} (hc : c = 32 ∨ c = 10) : ∀ (qs : List (List UInt8)) (ns : List Int) (ls : List (List UInt8)),(∀ q ∈ qs,c ∉ q)→(∀ w ∈ ls,c ∉ w)→∀ w ∈ fillW qs ns ls,c ∉ w
  | [],ns,ls,h1,h2,w,hw=>by simp [fillW] at hw
  | q :: qs,ns,ls,h1,h2,w,hw=>by
    rw [fillW] at hw
    have h1':=fun x hx=>h1 x (List.mem_cons_of_mem _ hx)
    split at hw
    · rcases List.mem_cons.1 hw with g|g
      · subst g;exact d_no _ hc
      · exact fill_no hc qs _ ls h1' h2 w g
    · split at hw
      · rcases List.mem_cons.1 hw with g|g
        · subst g
          cases ls with
          | nil=>simp
          | cons v ls=>exact h2 v (List.mem_cons_self ..)
        · exact fill_no hc qs ns ls.tail h1' (fun x hx=>h2 x (List.mem_of_mem_tail hx)) w g
      · rcases List.mem_cons.1 hw with g|g
        · subst g;exact h1 _ (List.mem_cons_self ..)
        · exact fill_no hc qs ns ls h1' h2 w g
theorem joinTail_no (c : UInt8) (hc : c ≠ 32) : ∀ (ws : List (List UInt8)),(∀ w ∈ ws,c ∉ w)→c ∉ Lib.joinTail [32] ws
  | [],h=>by simp [Lib.joinTail]
  | a :: l,h=>by
    have ih:=joinTail_no c hc l (fun x hx=>h x (List.mem_cons_of_mem _ hx))
    have ha:=h a (List.mem_cons_self ..)
    have e : Lib.joinTail [32] (a :: l) = 32 :: (a ++ Lib.joinTail [32] l):=by simp [Lib.joinTail]
    rw [e]
    simp only [List.mem_append,List.mem_cons,not_or]
    exact ⟨hc,ha,ih⟩
theorem join_no (c : UInt8) (hc : c ≠ 32) (ws : List (List UInt8)) (h : ∀ w ∈ ws,c ∉ w) : c ∉ Lib.join ws [32]:=by
  cases ws with
  | nil=>simp [Lib.join_nil]
  | cons a l =>
    rw [Lib.join_cons]
    have ih:=joinTail_no c hc l (fun x hx=>h x (List.mem_cons_of_mem _ hx))
    have ha:=h a (List.mem_cons_self ..)
    simp only [List.mem_append,not_or]
    exact ⟨ha,ih⟩
/-- what has a form is the form filled in -/
theorem back {l like : List UInt8} {y : List Int × List (List UInt8)} (h : formL l like = some y) : l ++ [10] = line (fillW (spl 32 like) y.1 y.2):=by
  have e:=formP_fill _ _ y h
  unfold line
  rw [← e,spl_join]
/-- a form filled in has the form -/
theorem forth (like : List UInt8) (ns : List Int) (ls : List (List UInt8)) (h1 : ns.length = cnt 35 (spl 32 like)) (h2 : ls.length = cnt 64 (spl 32 like)) (h3 : ∀ x ∈ ns,0≤x∧x≤4294967296) (h4 : ∀ w ∈ ls,NameOk (mk w) = true) : spl 32 (Lib.join (fillW (spl 32 like) ns ls) [32]) = fillW (spl 32 like) ns ls∧formL (Lib.join (fillW (spl 32 like) ns ls) [32]) like = some (ns,ls):=by
  have hno : ∀ w ∈ ls,(32 : UInt8) ∉ w:=fun w hw=>by
    have:=name_no (h4 w hw) (c:=32) (Or.inl rfl)
    rwa [mk_data] at this
  have e : spl 32 (Lib.join (fillW (spl 32 like) ns ls) [32]) = fillW (spl 32 like) ns ls:=by
    refine join_spl _ ?_ (fill_no (Or.inl rfl) _ ns ls (spl_no 32 like) hno)
    cases hs : spl 32 like with
    | nil=>exact absurd hs (spl_ne 32 like)
    | cons q qs =>
      rw [fillW]
      split
      · simp
      · split <;> simp
  refine ⟨e,?_⟩
  unfold formL
  rw [e]
  exact fill_form _ ns ls h1 h2 h3 h4
theorem forth10 (like : List UInt8) (ns : List Int) (ls : List (List UInt8)) (h0 : ∀ q ∈ spl 32 like,(10 : UInt8) ∉ q) (h4 : ∀ w ∈ ls,NameOk (mk w) = true) : (10 : UInt8) ∉ Lib.join (fillW (spl 32 like) ns ls) [32]:=by
  refine join_no 10 (by decide) _ (fill_no (Or.inr rfl) _ ns ls h0 fun w hw=>?_)
  have:=name_no (h4 w hw) (c:=10) (Or.inr rfl)
  rwa [mk_data] at this
theorem spl_part : spl 32 partL.data.toList = [wPartition,[64],wOrder,[35],wPriority,[35],wLimit,[35]]:=by decide
theorem spl_class : spl 32 classL.data.toList = [wQos,[64],wPriority,[35],wMost,[35]]:=by decide
theorem spl_acc : spl 32 accL.data.toList = [wAccount,[64],wParent,[64],wShares,[35]]:=by decide
theorem spl_root : spl 32 rootL.data.toList = [wAccount,[64],wShares,[35]]:=by decide
theorem spl_half : spl 32 halfL.data.toList = [wHalf,[35]]:=by decide
theorem spl_quant : spl 32 quantL.data.toList = [wQuantum,[35]]:=by decide
theorem spl_requ : spl 32 requL.data.toList = [wRequeues,[35]]:=by decide
theorem spl_weig : spl 32 weigL.data.toList = [wWeights,[35],[35],[35],[35],[35]]:=by decide
theorem fill_part (a b c : Int) (n : List UInt8) : fillW (spl 32 partL.data.toList) [a,b,c] [n] = [wPartition,n,wOrder,d_ a,wPriority,d_ b,wLimit,d_ c]:=by
  rw [spl_part];simp [fillW,wPartition,wOrder,wPriority,wLimit]
theorem fill_class (a b : Int) (n : List UInt8) : fillW (spl 32 classL.data.toList) [a,b] [n] = [wQos,n,wPriority,d_ a,wMost,d_ b]:=by
  rw [spl_class];simp [fillW,wQos,wPriority,wMost]
theorem fill_acc (a : Int) (n m : List UInt8) : fillW (spl 32 accL.data.toList) [a] [n,m] = [wAccount,n,wParent,m,wShares,d_ a]:=by
  rw [spl_acc];simp [fillW,wAccount,wParent,wShares]
theorem fill_root (a : Int) (n : List UInt8) : fillW (spl 32 rootL.data.toList) [a] [n] = [wAccount,n,wShares,d_ a]:=by
  rw [spl_root];simp [fillW,wAccount,wShares]
theorem fill_half (a : Int) : fillW (spl 32 halfL.data.toList) [a] [] = [wHalf,d_ a]:=by
  rw [spl_half];simp [fillW,wHalf]
theorem fill_quant (a : Int) : fillW (spl 32 quantL.data.toList) [a] [] = [wQuantum,d_ a]:=by
  rw [spl_quant];simp [fillW,wQuantum]
theorem fill_requ (a : Int) : fillW (spl 32 requL.data.toList) [a] [] = [wRequeues,d_ a]:=by
  rw [spl_requ];simp [fillW,wRequeues]
theorem fill_weig (a b c d e : Int) : fillW (spl 32 weigL.data.toList) [a,b,c,d,e] [] = [wWeights,d_ a,d_ b,d_ c,d_ d,d_ e]:=by
  rw [spl_weig];simp [fillW,wWeights]
theorem one_of {α : Type} {l : List α} (h : l.length = 1) : ∃ a,l = [a]:=List.length_eq_one_iff.1 h
theorem two_of {α : Type} {l : List α} (h : l.length = 2) : ∃ a b,l = [a,b]:=by
  match l,h with|[a,b],_=>exact ⟨a,b,rfl⟩
theorem three_of {α : Type} {l : List α} (h : l.length = 3) : ∃ a b c,l = [a,b,c]:=by
  match l,h with|[a,b,c],_=>exact ⟨a,b,c,rfl⟩
theorem name_ne {w : List UInt8} (h : NameOk (mk w) = true) : w ≠ []:=by
  intro e;subst e
  have e : NameOk (mk []) = nameAt 1 (mk []) 0:=rfl
  rw [e,nameAt,if_neg (by rw [mk_size];simp),mk_toList] at h
  simp at h
/-- what a line behind the first five adds is what it says -/
theorem later_cases (l : List UInt8) (P : List S50) (Q : List S52) (A : List S48) : (laterP l P Q A).1 = 0 ∨ (∃ p,laterP l P Q A = (1,P ++ [p],Q,A)∧partT p = l ++ [10]) ∨ (∃ q,laterP l P Q A = (2,P,Q ++ [q],A)∧classT q = l ++ [10]) ∨ (∃ a,laterP l P Q A = (3,P,Q,A ++ [a])∧accT a = l ++ [10]):=by
  unfold laterP
  cases h1 : formL l partL.data.toList with
  | some y =>
    obtain ⟨ns,ls⟩:=y
    have hc:=formP_cnt _ _ _ h1
    rw [spl_part] at hc
    obtain ⟨a,b,c,rfl⟩:=three_of (l:=ns) hc.1
    obtain ⟨n,rfl⟩:=one_of (l:=ls) hc.2
    refine Or.inr (Or.inl ⟨_,rfl,?_⟩)
    rw [back h1,fill_part];rfl
  | none =>
  cases h2 : formL l classL.data.toList with
  | some y =>
    obtain ⟨ns,ls⟩:=y
    have hc:=formP_cnt _ _ _ h2
    rw [spl_class] at hc
    obtain ⟨a,b,rfl⟩:=two_of (l:=ns) hc.1
    obtain ⟨n,rfl⟩:=one_of (l:=ls) hc.2
    refine Or.inr (Or.inr (Or.inl ⟨_,rfl,?_⟩))
    rw [back h2,fill_class];rfl
  | none =>
  cases h3 : (if 0 < A.length then formL l accL.data.toList else none) with
  | some y =>
    obtain ⟨ns,ls⟩:=y
    split at h3
    · have hc:=formP_cnt _ _ _ h3
      have hn:=formP_sz _ _ _ h3
      rw [spl_acc] at hc
      obtain ⟨a,rfl⟩:=one_of (l:=ns) hc.1
      obtain ⟨n,m,rfl⟩:=two_of (l:=ls) hc.2
      refine Or.inr (Or.inr (Or.inr ⟨_,rfl,?_⟩))
      rw [back h3,fill_acc]
      unfold accT
      rw [if_neg]
      · rfl
      · show (mk m).toList ≠ []
        rw [mk_toList]
        exact name_ne (hn m (by simp)).2
    · cases h3
  | none =>
  cases h4 : (if A.length = 0 then formL l rootL.data.toList else none) with
  | some y =>
    obtain ⟨ns,ls⟩:=y
    split at h4
    · have hc:=formP_cnt _ _ _ h4
      rw [spl_root] at hc
      obtain ⟨a,rfl⟩:=one_of (l:=ns) hc.1
      obtain ⟨n,rfl⟩:=one_of (l:=ls) hc.2
      refine Or.inr (Or.inr (Or.inr ⟨_,rfl,?_⟩))
      rw [back h4,fill_root]
      unfold accT
      rw [if_pos]
      · rfl
      · exact mk_toList []
    · cases h4
  | none=>exact Or.inl rfl
end Go.Proofs.YtgidipomfbikiaaDoor.Cnf

namespace Go.Proofs.YtgidipomfbikiaaDoor.Cnf
open Go.RowKit Go.Proofs.YtgidipomfbikiaaDoorW.PrintWords Go.Proofs.YtgidipomfbikiaaDoorW.PrintLast Go.Proofs.YtgidipomfbikiaaDoorW.PrintMore Go.Proofs.YtgidipomfbikiaaDoor.P Go.Proofs.YtgidipomfbikiaaDoor.NumM
set_option linter.unusedVariables false
set_option linter.unusedSimpArgs false
def errOf (r : Res) : Int:=r.2.2.2.2.2.2.2.2.2.2.2.2.2
theorem err_errR (n e : Int) : errOf (errR n e) = e:=rfl
theorem stepP_n {s s' : St} {l : List UInt8} (h : stepP s l = some s') : s'.n = s.n + 1:=by
  unfold stepP at h
  split at h
  · cases he : firstP (s.n - 1) l s.c with
    | none=>rw [he] at h;simp at h
    | some c=>rw [he] at h;have e:=Option.some.inj h;subst e;rfl
  · split at h
    · have e:=Option.some.inj h;subst e;rfl
    · cases h
def Shape (s : St) : Prop:=0≤s.part∧(s.part≤0→s.P = [])∧(s.part≤1→s.Q = [])∧(s.part≤2→s.A = [])
/-! ### the first five lines -/
end Go.Proofs.YtgidipomfbikiaaDoor.Cnf

namespace Go.Proofs.YtgidipomfbikiaaDoor.Cnf
open Go.RowKit Go.Proofs.YtgidipomfbikiaaDoorW.PrintWords Go.Proofs.YtgidipomfbikiaaDoorW.PrintLast Go.Proofs.YtgidipomfbikiaaDoorW.PrintMore Go.Proofs.YtgidipomfbikiaaDoor.P Go.Proofs.YtgidipomfbikiaaDoor.NumM
set_option linter.unusedVariables false
set_option linter.unusedSimpArgs false
/-! ### printed, read -/
def partJ (p : S50) : List UInt8:=Lib.join [wPartition,p.f0.data.toList,wOrder,d_ p.f1,wPriority,d_ p.f2,wLimit,d_ p.f3] [32]
def classJ (q : S52) : List UInt8:=Lib.join [wQos,q.f0.data.toList,wPriority,d_ q.f1,wMost,d_ q.f2] [32]
def accJ (a : S48) : List UInt8:=if a.f1.toList = [] then Lib.join [wAccount,a.f0.data.toList,wShares,d_ a.f2] [32] else Lib.join [wAccount,a.f0.data.toList,wParent,a.f1.data.toList,wShares,d_ a.f2] [32]
theorem accJ_T (a : S48) : accT a = accJ a ++ [10]:=by
  unfold accT accJ line
  split <;> rfl
theorem hd_part (l : List UInt8) (ws : List (List UInt8)) (w : List UInt8) (e : spl 32 l = w :: ws) (h : w ≠ wPartition) : formL l partL.data.toList = none:=by
  unfold formL
  rw [spl_part,e,formP,if_neg (by decide),if_neg (by decide),if_neg h]
theorem hd_class (l : List UInt8) (ws : List (List UInt8)) (w : List UInt8) (e : spl 32 l = w :: ws) (h : w ≠ wQos) : formL l classL.data.toList = none:=by
  unfold formL
  rw [spl_class,e,formP,if_neg (by decide),if_neg (by decide),if_neg h]
theorem two_b {a b c : Int} {P : Int→Prop} (h1 : P a) (h2 : P b) (h3 : P c) : ∀ x ∈ [a,b,c],P x:=by
  intro x hx
  simp only [List.mem_cons,List.not_mem_nil,or_false] at hx
  rcases hx with rfl|rfl|rfl <;> assumption
theorem later_part (p : S50) (hn : NameOk p.f0 = true) (h1 : 0≤p.f1∧p.f1≤4294967296) (h2 : 0≤p.f2∧p.f2≤4294967296) (h3 : 0≤p.f3∧p.f3≤4294967296) (P : List S50) (Q : List S52) (A : List S48) : laterP (partJ p) P Q A = (1,P ++ [p],Q,A)∧(10 : UInt8) ∉ partJ p:=by
  have hnm : ∀ w ∈ [p.f0.data.toList],NameOk (mk w) = true:=by
    intro w hw;rw [List.mem_singleton.1 hw,mk_list];exact hn
  have hf:=forth partL.data.toList [p.f1,p.f2,p.f3] [p.f0.data.toList] (by rw [spl_part];rfl) (by rw [spl_part];rfl) (two_b h1 h2 h3) hnm
  have h10:=forth10 partL.data.toList [p.f1,p.f2,p.f3] [p.f0.data.toList] (by rw [spl_part];decide) hnm
  rw [fill_part] at hf h10
  refine ⟨?_,h10⟩
  unfold laterP partJ
  rw [hf.2]
  simp only [List.map_cons,List.map_nil]
  rw [mk_list]
  rfl
theorem later_class (p : S52) (hn : NameOk p.f0 = true) (h1 : 0≤p.f1∧p.f1≤4294967296) (h2 : 0≤p.f2∧p.f2≤4294967296) (P : List S50) (Q : List S52) (A : List S48) : laterP (classJ p) P Q A = (2,P,Q ++ [p],A)∧(10 : UInt8) ∉ classJ p:=by
  have hnm : ∀ w ∈ [p.f0.data.toList],NameOk (mk w) = true:=by
    intro w hw;rw [List.mem_singleton.1 hw,mk_list];exact hn
  have hns : ∀ x ∈ [p.f1,p.f2],0≤x∧x≤4294967296:=by
    intro x hx
    simp only [List.mem_cons,List.not_mem_nil,or_false] at hx
    rcases hx with rfl|rfl <;> assumption
  have hf:=forth classL.data.toList [p.f1,p.f2] [p.f0.data.toList] (by rw [spl_class];rfl) (by rw [spl_class];rfl) hns hnm
  have h10:=forth10 classL.data.toList [p.f1,p.f2] [p.f0.data.toList] (by rw [spl_class];decide) hnm
  rw [fill_class] at hf h10
  refine ⟨?_,h10⟩
  unfold laterP classJ
  rw [hd_part _ _ _ hf.1 (by decide),hf.2]
  simp only [List.map_cons,List.map_nil]
  rw [mk_list]
  rfl
theorem later_acc (p : S48) (hn : NameOk p.f0 = true) (h2 : 0≤p.f2∧p.f2≤4294967296) (P : List S50) (Q : List S52) (A : List S48) (hA : A = []→p.f1.toList = []) (hB : A ≠ []→p.f1.toList ≠ []∧NameOk p.f1 = true) : laterP (accJ p) P Q A = (3,P,Q,A ++ [p])∧(10 : UInt8) ∉ accJ p:=by
  have hns : ∀ x ∈ [p.f2],0≤x∧x≤4294967296:=by
    intro x hx
    rw [List.mem_singleton.1 hx];exact h2
  unfold accJ
  by_cases g : A = []
  · have g1:=hA g
    rw [if_pos g1]
    have hnm : ∀ w ∈ [p.f0.data.toList],NameOk (mk w) = true:=by
      intro w hw;rw [List.mem_singleton.1 hw,mk_list];exact hn
    have hf:=forth rootL.data.toList [p.f2] [p.f0.data.toList] (by rw [spl_root];rfl) (by rw [spl_root];rfl) hns hnm
    have h10:=forth10 rootL.data.toList [p.f2] [p.f0.data.toList] (by rw [spl_root];decide) hnm
    rw [fill_root] at hf h10
    refine ⟨?_,h10⟩
    unfold laterP
    rw [hd_part _ _ _ hf.1 (by decide),hd_class _ _ _ hf.1 (by decide),if_neg (by rw [g];simp),if_pos (by rw [g];rfl),hf.2]
    simp only [List.map_cons,List.map_nil]
    rw [mk_list]
    have e : p.f1 = (⟨#[]⟩ : ByteArray):=by
      have:=mk_list p.f1
      rw [← ByteArray.toList_eq,g1] at this
      exact this.symm
    obtain ⟨p0,p1,p2⟩:=p
    simp only [] at e
    subst e
    rfl
  · obtain ⟨g1,g2⟩:=hB g
    rw [if_neg g1]
    have hnm : ∀ w ∈ [p.f0.data.toList,p.f1.data.toList],NameOk (mk w) = true:=by
      intro w hw
      simp only [List.mem_cons,List.not_mem_nil,or_false] at hw
      rcases hw with rfl|rfl
      · rw [mk_list];exact hn
      · rw [mk_list];exact g2
    have hf:=forth accL.data.toList [p.f2] [p.f0.data.toList,p.f1.data.toList] (by rw [spl_acc];rfl) (by rw [spl_acc];rfl) hns hnm
    have h10:=forth10 accL.data.toList [p.f2] [p.f0.data.toList,p.f1.data.toList] (by rw [spl_acc];decide) hnm
    rw [fill_acc] at hf h10
    refine ⟨?_,h10⟩
    unfold laterP
    rw [hd_part _ _ _ hf.1 (by decide),hd_class _ _ _ hf.1 (by decide),if_pos (List.length_pos_iff.2 g),hf.2]
    simp only [List.map_cons,List.map_nil]
    rw [mk_list,mk_list]
    rfl
end Go.Proofs.YtgidipomfbikiaaDoor.Cnf

namespace Go.Proofs.YtgidipomfbikiaaDoor.Cnf
open Go.RowKit Go.Proofs.YtgidipomfbikiaaDoorW.PrintWords Go.Proofs.YtgidipomfbikiaaDoorW.PrintLast Go.Proofs.YtgidipomfbikiaaDoorW.PrintMore Go.Proofs.YtgidipomfbikiaaDoor.P Go.Proofs.YtgidipomfbikiaaDoor.NumM
set_option linter.unusedVariables false
set_option linter.unusedSimpArgs false
theorem names_all : ∀ (s p : List ByteArray),namesOk p s = true→∀ x ∈ s,NameOk x = true
  | [],p,_,x,hx=>by cases hx
  | a :: s,p,h,x,hx=>by
    rw [namesOk,Bool.and_eq_true,Bool.and_eq_true] at h
    rcases List.mem_cons.1 hx with q|q
    · subst q;exact h.1.1
    · exact names_all s _ h.2 x q
theorem list_eq {a b : ByteArray} (h : a.toList = b.toList) : a = b:=by
  rw [ByteArray.toList_eq,ByteArray.toList_eq] at h
  rw [mk_self a,mk_self b,h]
section
variable (c : Hd)
theorem run_A (P : List S50) (Q : List S52) : ∀ (s p : List S48) (part n : Int),(part = 3 ∨ (part = 2∧s ≠ []))→5 < n→accOk p s = true→(∀ x ∈ p ++ s,NameOk x.f0 = true)→COK c P Q (p ++ s) = true→runP ⟨part,n,c,P,Q,p⟩ (s.map accJ) [] = okR_ c P Q (p ++ s)∧∀ l ∈ s.map accJ,(10 : UInt8) ∉ l
  | [],p,part,n,hp,hn,ha,hnm,hc=>by
    have h3 : part = 3:=by
      rcases hp with q|q
      · exact q
      · exact absurd rfl q.2
    refine ⟨?_,by simp⟩
    rw [List.map_nil,runP,if_pos rfl]
    unfold endP
    rw [List.append_nil] at hc ⊢
    rw [if_pos h3,if_pos hc]
  | a :: s,p,part,n,hp,hn,ha,hnm,hc=>by
    rw [accOk,Bool.and_eq_true,Bool.and_eq_true,Bool.and_eq_true,inB_iff] at ha
    obtain ⟨⟨⟨a1,a2⟩,a3⟩,a4⟩:=ha
    have hA : p = []→a.f1.toList = []:=by
      intro e;subst e
      simpa using a2
    have hB : p ≠ []→a.f1.toList ≠ []∧NameOk a.f1 = true:=by
      intro e
      have hl : p.length ≠ 0:=fun z=>e (List.length_eq_zero_iff.1 z)
      constructor
      · intro z
        rw [z] at a2
        have e0 : ((p.length : Int) == 0) = false:=by simp;exact e
        rw [e0] at a2
        simp at a2
      · have e1 : p.isEmpty = false:=by simp [e]
        rw [e1,Bool.false_or] at a3
        unfold hasT at a3
        obtain ⟨x,hx,he⟩:=List.any_eq_true.1 a3
        obtain ⟨y,hy,rfl⟩:=List.mem_map.1 hx
        have:=list_eq (of_decide_eq_true he)
        rw [this]
        exact hnm y (List.mem_append_left _ hy)
    obtain ⟨l1,l2⟩:=later_acc a (hnm a (by simp)) (by omega) P Q p hA hB
    obtain ⟨ih1,ih2⟩:=run_A P Q s (p ++ [a]) 3 (n + 1) (Or.inl rfl) (by omega) a4 (by simpa using hnm) (by simpa using hc)
    constructor
    · rw [List.map_cons,runP]
      have hst : stepP ⟨part,n,c,P,Q,p⟩ (accJ a) = some ⟨3,n + 1,c,P,Q,p ++ [a]⟩:=by
        unfold stepP
        rw [if_neg (by show ¬ n≤5;omega)]
        simp only [l1]
        rw [if_pos (by omega)]
      rw [hst]
      simpa using ih1
    · intro l hl
      rw [List.map_cons] at hl
      rcases List.mem_cons.1 hl with q|q
      · subst q;exact l2
      · exact ih2 l q
theorem run_Q (P : List S50) (A : List S48) (hA : A ≠ []) (ha : accOk [] A = true) (hna : ∀ x ∈ A,NameOk x.f0 = true) : ∀ (s p : List S52) (part n : Int),(part = 2 ∨ (part = 1∧s ≠ []))→5 < n→(∀ x ∈ s,NameOk x.f0 = true∧(0≤x.f1∧x.f1≤1048576)∧(1≤x.f2∧x.f2≤1048576))→COK c P (p ++ s) A = true→runP ⟨part,n,c,P,p,[]⟩ (s.map classJ ++ A.map accJ) [] = okR_ c P (p ++ s) A∧∀ l ∈ s.map classJ ++ A.map accJ,(10 : UInt8) ∉ l
  | [],p,part,n,hp,hn,hs,hc=>by
    have h3 : part = 2:=by
      rcases hp with q|q
      · exact q
      · exact absurd rfl q.2
    rw [List.append_nil] at hc ⊢
    rw [List.map_nil,List.nil_append]
    exact run_A c P p A [] part n (Or.inr ⟨h3,hA⟩) hn ha hna hc
  | a :: s,p,part,n,hp,hn,hs,hc=>by
    obtain ⟨q1,q2,q3⟩:=hs a (List.mem_cons_self ..)
    obtain ⟨l1,l2⟩:=later_class a q1 (by omega) (by omega) P p []
    obtain ⟨ih1,ih2⟩:=run_Q P A hA ha hna s (p ++ [a]) 2 (n + 1) (Or.inl rfl) (by omega) (fun x hx=>hs x (List.mem_cons_of_mem _ hx)) (by simpa using hc)
    constructor
    · rw [List.map_cons,List.cons_append,runP]
      have hst : stepP ⟨part,n,c,P,p,[]⟩ (classJ a) = some ⟨2,n + 1,c,P,p ++ [a],[]⟩:=by
        unfold stepP
        rw [if_neg (by show ¬ n≤5;omega)]
        simp only [l1]
        rw [if_pos (by omega)]
      rw [hst]
      simpa using ih1
    · intro l hl
      rw [List.map_cons,List.cons_append] at hl
      rcases List.mem_cons.1 hl with q|q
      · subst q;exact l2
      · exact ih2 l q
theorem run_P (Q : List S52) (A : List S48) (hQ : Q ≠ []) (hq : ∀ x ∈ Q,NameOk x.f0 = true∧(0≤x.f1∧x.f1≤1048576)∧(1≤x.f2∧x.f2≤1048576)) (hA : A ≠ []) (ha : accOk [] A = true) (hna : ∀ x ∈ A,NameOk x.f0 = true) : ∀ (s p : List S50) (part n : Int),(part = 1 ∨ (part = 0∧s ≠ []))→5 < n→(∀ x ∈ s,NameOk x.f0 = true∧(0≤x.f1∧x.f1≤10)∧(0≤x.f2∧x.f2≤1048576)∧(1≤x.f3∧x.f3≤1073741824))→COK c (p ++ s) Q A = true→runP ⟨part,n,c,p,[],[]⟩ (s.map partJ ++ (Q.map classJ ++ A.map accJ)) [] = okR_ c (p ++ s) Q A∧∀ l ∈ s.map partJ ++ (Q.map classJ ++ A.map accJ),(10 : UInt8) ∉ l
  | [],p,part,n,hp,hn,hs,hc=>by
    have h3 : part = 1:=by
      rcases hp with q|q
      · exact q
      · exact absurd rfl q.2
    rw [List.append_nil] at hc ⊢
    rw [List.map_nil,List.nil_append]
    exact run_Q c p A hA ha hna Q [] part n (Or.inr ⟨h3,hQ⟩) hn hq hc
  | a :: s,p,part,n,hp,hn,hs,hc=>by
    obtain ⟨q1,q2,q3,q4⟩:=hs a (List.mem_cons_self ..)
    obtain ⟨l1,l2⟩:=later_part a q1 (by omega) (by omega) (by omega) p [] []
    obtain ⟨ih1,ih2⟩:=run_P Q A hQ hq hA ha hna s (p ++ [a]) 1 (n + 1) (Or.inl rfl) (by omega) (fun x hx=>hs x (List.mem_cons_of_mem _ hx)) (by simpa using hc)
    constructor
    · rw [List.map_cons,List.cons_append,runP]
      have hst : stepP ⟨part,n,c,p,[],[]⟩ (partJ a) = some ⟨1,n + 1,c,p ++ [a],[],[]⟩:=by
        unfold stepP
        rw [if_neg (by show ¬ n≤5;omega)]
        simp only [l1]
        rw [if_pos (by omega)]
      rw [hst]
      simpa using ih1
    · intro l hl
      rw [List.map_cons,List.cons_append] at hl
      rcases List.mem_cons.1 hl with q|q
      · subst q;exact l2
      · exact ih2 l q
end
theorem nn {x : Int} (h : 0≤x∧x≤4294967296) : ∀ y ∈ [x],0≤y∧y≤4294967296:=by
  intro y hy;rw [List.mem_singleton.1 hy];exact h
theorem noN : ∀ w ∈ ([] : List (List UInt8)),NameOk (mk w) = true:=by intro w hw;cases hw
theorem first1 (c : Hd) (x : Int) (h : 0≤x∧x≤4294967296) : firstP 1 (Lib.join [wHalf,d_ x] [32]) c = some { c with f1:=x }∧(10 : UInt8) ∉ Lib.join [wHalf,d_ x] [32]:=by
  have hf:=forth halfL.data.toList [x] [] (by rw [spl_half];rfl) (by rw [spl_half];rfl) (nn h) noN
  have h10:=forth10 halfL.data.toList [x] [] (by rw [spl_half];decide) noN
  rw [fill_half] at hf h10
  refine ⟨?_,h10⟩
  unfold firstP
  rw [if_neg (by decide),if_pos rfl,hf.2];rfl
theorem first2 (c : Hd) (x : Int) (h : 0≤x∧x≤4294967296) : firstP 2 (Lib.join [wQuantum,d_ x] [32]) c = some { c with f2:=x }∧(10 : UInt8) ∉ Lib.join [wQuantum,d_ x] [32]:=by
  have hf:=forth quantL.data.toList [x] [] (by rw [spl_quant];rfl) (by rw [spl_quant];rfl) (nn h) noN
  have h10:=forth10 quantL.data.toList [x] [] (by rw [spl_quant];decide) noN
  rw [fill_quant] at hf h10
  refine ⟨?_,h10⟩
  unfold firstP
  rw [if_neg (by decide),if_neg (by decide),if_pos rfl,hf.2];rfl
theorem first3 (c : Hd) (x : Int) (h : 0≤x∧x≤4294967296) : firstP 3 (Lib.join [wRequeues,d_ x] [32]) c = some { c with f3:=x }∧(10 : UInt8) ∉ Lib.join [wRequeues,d_ x] [32]:=by
  have hf:=forth requL.data.toList [x] [] (by rw [spl_requ];rfl) (by rw [spl_requ];rfl) (nn h) noN
  have h10:=forth10 requL.data.toList [x] [] (by rw [spl_requ];decide) noN
  rw [fill_requ] at hf h10
  refine ⟨?_,h10⟩
  unfold firstP
  rw [if_neg (by decide),if_neg (by decide),if_neg (by decide),if_pos rfl,hf.2];rfl
theorem first4 (c : Hd) (x y z u v : Int) (h1 : 0≤x∧x≤4294967296) (h2 : 0≤y∧y≤4294967296) (h3 : 0≤z∧z≤4294967296) (h4 : 0≤u∧u≤4294967296) (h5 : 0≤v∧v≤4294967296) : firstP 4 (Lib.join [wWeights,d_ x,d_ y,d_ z,d_ u,d_ v] [32]) c = some { c with f4:=x,f5:=y,f6:=z,f7:=u,f8:=v }∧(10 : UInt8) ∉ Lib.join [wWeights,d_ x,d_ y,d_ z,d_ u,d_ v] [32]:=by
  have hb : ∀ w ∈ [x,y,z,u,v],0≤w∧w≤4294967296:=by
    intro w hw
    simp only [List.mem_cons,List.not_mem_nil,or_false] at hw
    rcases hw with rfl|rfl|rfl|rfl|rfl <;> assumption
  have hf:=forth weigL.data.toList [x,y,z,u,v] [] (by rw [spl_weig];rfl) (by rw [spl_weig];rfl) hb noN
  have h10:=forth10 weigL.data.toList [x,y,z,u,v] [] (by rw [spl_weig];decide) noN
  rw [fill_weig] at hf h10
  refine ⟨?_,h10⟩
  unfold firstP
  rw [if_neg (by decide),if_neg (by decide),if_neg (by decide),if_neg (by decide),hf.2];rfl
theorem first0 (c : Hd) (p : Int) (h : 1≤p∧p≤4) : firstP 0 (Lib.join [wPolicy,polT p] [32]) { c with f0:=0 } = some { c with f0:=p }∧(10 : UInt8) ∉ Lib.join [wPolicy,polT p] [32]:=by
  have hv : polF (mk (Lib.join [wPolicy,polT p] [32])) polW 0 0 = p:=by
    rcases (show p = 1 ∨ p = 2 ∨ p = 3 ∨ p = 4 by omega) with rfl|rfl|rfl|rfl
    all_goals (simp only [polF,polW,ByteArray.toList_eq,mk_data];decide)
  constructor
  · unfold firstP
    rw [if_pos rfl]
    simp only [hv]
    rw [if_pos (by omega)]
  · rcases (show p = 1 ∨ p = 2 ∨ p = 3 ∨ p = 4 by omega) with rfl|rfl|rfl|rfl <;> decide
/-- a printed text's lines -/
def linesT (h : Hd) (P : List S50) (Q : List S52) (A : List S48) : List (List UInt8):=Lib.join [wPolicy,polT h.f0] [32] :: Lib.join [wHalf,d_ h.f1] [32] :: Lib.join [wQuantum,d_ h.f2] [32] :: Lib.join [wRequeues,d_ h.f3] [32] :: Lib.join [wWeights,d_ h.f4,d_ h.f5,d_ h.f6,d_ h.f7,d_ h.f8] [32] :: (P.map partJ ++ (Q.map classJ ++ A.map accJ))
theorem glue_app (a b : List (List UInt8)) : glue (a ++ b) = glue a ++ glue b:=by simp [glue]
theorem glue_part : ∀ P : List S50,glue (P.map partJ) = P.flatMap partT
  | []=>rfl
  | p :: P=>by
    have ih:=glue_part P
    unfold glue at ih ⊢
    rw [List.map_cons,List.flatMap_cons,ih,List.flatMap_cons];rfl
theorem glue_class : ∀ P : List S52,glue (P.map classJ) = P.flatMap classT
  | []=>rfl
  | p :: P=>by
    have ih:=glue_class P
    unfold glue at ih ⊢
    rw [List.map_cons,List.flatMap_cons,ih,List.flatMap_cons];rfl
theorem glue_acc : ∀ P : List S48,glue (P.map accJ) = P.flatMap accT
  | []=>rfl
  | p :: P=>by
    have ih:=glue_acc P
    unfold glue at ih ⊢
    rw [List.map_cons,List.flatMap_cons,ih,List.flatMap_cons,accJ_T]
theorem lines_text (h : Hd) (P : List S50) (Q : List S52) (A : List S48) : glue (linesT h P Q A) = textT h P Q A:=by
  have e : glue (linesT h P Q A) = headT h ++ glue (P.map partJ ++ (Q.map classJ ++ A.map accJ)):=by simp [glue,linesT,headT,line]
  rw [e,glue_app,glue_app,glue_part,glue_class,glue_acc]
  simp [textT]
theorem first_step {n : Int} {c c' : Hd} {l : List UInt8} {ls : List (List UInt8)} {t : List UInt8} (h5 : n≤5) (hf : firstP (n - 1) l c = some c') : runP ⟨0,n,c,[],[],[]⟩ (l :: ls) t = runP ⟨0,n + 1,c',[],[],[]⟩ ls t:=by
  rw [runP]
  have : stepP ⟨0,n,c,[],[],[]⟩ l = some ⟨0,n + 1,c',[],[],[]⟩:=by
    unfold stepP
    rw [if_pos h5]
    simp only [hf]
    rfl
  rw [this]
/-- printed, read: the same -/
theorem parse_forth (h : Hd) (P : List S50) (Q : List S52) (A : List S48) (hc : COK h P Q A = true) : runP start (linesT h P Q A) [] = okR_ h P Q A∧∀ l ∈ linesT h P Q A,(10 : UInt8) ∉ l:=by
  have hb:=cok_b hc
  obtain ⟨b0,b1,b2,b3,b4,b5,b6,b7,b8⟩:=hb.hb
  obtain ⟨x0,x1,x2,x3,x4,x5,x6,x7,x8⟩:=h
  simp only [] at b0 b1 b2 b3 b4 b5 b6 b7 b8
  have hp:=names_all _ _ hb.np
  have hq:=names_all _ _ hb.nq
  have ha:=names_all _ _ hb.na
  have ne {α : Type} {l : List α} (h : 1≤l.length) : l ≠ []:=fun e=>by subst e;simp at h
  obtain ⟨r1,r2⟩:=run_P ⟨x0,x1,x2,x3,x4,x5,x6,x7,x8⟩ Q A (ne hb.lq.1) (fun x hx=>⟨hq _ (List.mem_map_of_mem hx),hb.q x hx⟩) (ne hb.la.1) hb.acc (fun x hx=>ha _ (List.mem_map_of_mem hx)) P [] 0 6 (Or.inr ⟨rfl,ne hb.lp.1⟩) (by decide) (fun x hx=>⟨hp _ (List.mem_map_of_mem hx),hb.p x hx⟩) hc
  have f0:=first0 ⟨0,0,0,0,0,0,0,0,0⟩ x0 b0
  have f1:=first1 ⟨x0,0,0,0,0,0,0,0,0⟩ x1 (by omega)
  have f2:=first2 ⟨x0,x1,0,0,0,0,0,0,0⟩ x2 (by omega)
  have f3:=first3 ⟨x0,x1,x2,0,0,0,0,0,0⟩ x3 (by omega)
  have f4:=first4 ⟨x0,x1,x2,x3,0,0,0,0,0⟩ x4 x5 x6 x7 x8 (by omega) (by omega) (by omega) (by omega) (by omega)
  constructor
  · unfold start linesT
    rw [first_step (by decide) (show firstP (1 - 1) _ _ = _ from f0.1),first_step (by decide) (show firstP (1 + 1 - 1) _ _ = _ from f1.1),first_step (by decide) (show firstP (1 + 1 + 1 - 1) _ _ = _ from f2.1),first_step (by decide) (show firstP (1 + 1 + 1 + 1 - 1) _ _ = _ from f3.1),first_step (by decide) (show firstP (1 + 1 + 1 + 1 + 1 - 1) _ _ = _ from f4.1)]
    exact r1
  · intro l hl
    unfold linesT at hl
    simp only [List.mem_cons] at hl
    rcases hl with rfl|rfl|rfl|rfl|rfl|hl
    · exact f0.2
    · exact f1.2
    · exact f2.2
    · exact f3.2
    · exact f4.2
    · exact r2 l hl
end Go.Proofs.YtgidipomfbikiaaDoor.Cnf

namespace Go.Proofs.YtgidipomfbikiaaDoor.Cnf
open Go.RowKit Go.Proofs.YtgidipomfbikiaaDoorW.PrintWords Go.Proofs.YtgidipomfbikiaaDoorW.PrintLast Go.Proofs.YtgidipomfbikiaaDoorW.PrintMore Go.Proofs.YtgidipomfbikiaaDoor.P Go.Proofs.YtgidipomfbikiaaDoor.NumM
set_option linter.unusedVariables false
set_option linter.unusedSimpArgs false
def nlPos : List UInt8→Nat→List Int
  | [],_=>[]
  | c :: r,i=>if c = 10 then ((i + 1 : Nat) : Int) :: nlPos r (i + 1) else nlPos r (i + 1)
theorem cuts_l0 (s : ByteArray) (hs : s.size≤1000000) : ∀ (r : List UInt8) (i : Nat) (acc : List Int),s.data.toList.drop i = r→i + r.length = s.size→acc.length≤i + 1→Ev (fun k=>gangerlaw10_cuts.l0 k s acc (i : Int)) (acc ++ nlPos r i)
  | [],i,acc,e,hl,ha=>by
    refine Ev.step (fun k=>by rw [gangerlaw10_cuts.l0]) ?_
    rw [nlPos,List.append_nil]
    exact ev_neg (by rw [List.length_nil] at hl;omega) (Ev.now _)
  | c :: r,i,acc,e,hl,ha=>by
    rw [List.length_cons] at hl
    have hi : i < s.size:=by omega
    have e2:=get_list s i hi
    rw [e] at e2
    obtain ⟨ec,er⟩:=List.cons.inj e2
    have hb : bt s (i : Int) = (c.toNat : Int):=by
      rw [bt,dif_pos (show (i : Int).toNat < s.size by simpa using hi),ec];rfl
    have ew : wrap64 ((i : Int) + 1) = ((i + 1 : Nat) : Int):=by rw [w64 (by omega)];omega
    refine Ev.step (fun k=>by rw [gangerlaw10_cuts.l0]) ?_
    refine ev_pos (by omega) (ev_pos (by omega) ?_)
    rw [hb,ew,nlPos]
    by_cases g : c = 10
    · rw [if_pos g]
      subst g
      refine ev_pos rfl (ev_pos (by omega) ?_)
      have:=cuts_l0 s hs r (i + 1) (acc ++ [((i + 1 : Nat) : Int)]) er.symm (by omega) (by simp;omega)
      simpa using this
    · rw [if_neg g]
      have g2 : ¬ ((c.toNat : Int) = 10):=by
        intro z
        apply g
        have : c.toNat = (10 : UInt8).toNat:=by
          show c.toNat = 10
          omega
        exact UInt8.toNat_inj.1 this
      exact ev_neg g2 (cuts_l0 s hs r (i + 1) acc er.symm (by omega) (by omega))
theorem cuts_ev (s : ByteArray) (hs : s.size≤1000000) : Ev (fun k=>gangerlaw10_cuts.f k s) ((0 : Int) :: nlPos s.data.toList 0):=by
  unfold gangerlaw10_cuts.f
  exact cuts_l0 s hs s.data.toList 0 [0] rfl (by rw [Nat.zero_add,szl]) (by simp)
theorem nl_none : ∀ (l : List UInt8) (i : Nat),nlPos l i = []→(10 : UInt8) ∉ l
  | [],i,h=>by simp
  | c :: l,i,h=>by
    rw [nlPos] at h
    split at h
    · cases h
    · rename_i hc
      simp only [List.mem_cons,not_or]
      exact ⟨fun z=>hc z.symm,nl_none l _ h⟩
/-! ### the first lines, read -/
def foldS : St→List (List UInt8)→Option St
  | s,[]=>some s
  | s,l :: ls=>match stepP s l with
    | some s'=>foldS s' ls
    | none=>none
theorem run_fold : ∀ (ls : List (List UInt8)) (s s' : St) (r : List (List UInt8)) (t : List UInt8),foldS s ls = some s'→runP s (ls ++ r) t = runP s' r t
  | [],s,s',r,t,h=>by rw [foldS] at h;rw [Option.some.inj h];rfl
  | l :: ls,s,s',r,t,h=>by
    rw [foldS] at h
    rw [List.cons_append,runP]
    cases hs : stepP s l with
    | none=>rw [hs] at h;cases h
    | some u=>rw [hs] at h;exact run_fold ls u s' r t h
theorem fold_of : ∀ (ls : List (List UInt8)) (s : St) (r : List (List UInt8)) (t : List UInt8),errOf (runP s (ls ++ r) t) = 0→∃ s',foldS s ls = some s'
  | [],s,r,t,h=>⟨s,rfl⟩
  | l :: ls,s,r,t,h=>by
    rw [List.cons_append,runP] at h
    rw [foldS]
    cases hs : stepP s l with
    | none=>rw [hs] at h;exact absurd h (by rw [err_errR];decide)
    | some u=>rw [hs] at h;exact fold_of ls u r t h
structure Inv (s : St) : Prop where
  n1 : 1≤s.n
  sh : Shape s
  p3 : s.part≤3
  a3 : s.part = 3→s.A ≠ []
  n5 : s.n≤5→s.part = 0
  n6 : 6≤s.n→s.n = 6 + (s.P.length : Int) + (s.Q.length : Int) + (s.A.length : Int)
theorem inv_start : Inv start:=⟨by decide,⟨by decide,fun _=>rfl,fun _=>rfl,fun _=>rfl⟩,by decide,fun h=>absurd h (by decide),fun _=>rfl,fun h=>absurd h (by decide)⟩
theorem step_inv {s s' : St} {l : List UInt8} (hi : Inv s) (h : stepP s l = some s') : Inv s'∧s'.n = s.n + 1∧s.P.length≤s'.P.length∧s.Q.length≤s'.Q.length∧(s.part = 3→s'.part = 3∧s'.P = s.P∧s'.Q = s.Q):=by
  have hn:=stepP_n h
  obtain ⟨n1,⟨s0,s1,s2,s3⟩,p3,a3,n5,n6⟩:=hi
  unfold stepP at h
  split at h
  · rename_i h5
    have z:=n5 h5
    cases he : firstP (s.n - 1) l s.c with
    | none=>rw [he] at h;simp at h
    | some c =>
      rw [he] at h
      have e:=Option.some.inj h
      subst e
      have e1:=s1 (by omega)
      have e2:=s2 (by omega)
      have e3:=s3 (by omega)
      refine ⟨⟨by show 1≤s.n + 1;omega,⟨s0,s1,s2,s3⟩,p3,a3,fun _=>z,fun _=>?_⟩,hn,Nat.le_refl _,Nat.le_refl _,fun w=>by omega⟩
      show s.n + 1 = 6 + (s.P.length : Int) + (s.Q.length : Int) + (s.A.length : Int)
      rename_i h6
      have h6' : 6≤s.n + 1:=h6
      rw [e1,e2,e3];simp;omega
  · rename_i h5
    have hc:=n6 (by omega)
    split at h
    · rename_i hk
      have e:=Option.some.inj h
      subst e
      rcases later_cases l s.P s.Q s.A with q|⟨p,q,e⟩|⟨p,q,e⟩|⟨p,q,e⟩
      · rw [q] at hk;omega
      · rw [q] at hk ⊢
        simp only [] at hk
        have z1:=s2 (by omega)
        have z2:=s3 (by omega)
        refine ⟨⟨by show 1≤s.n + 1;omega,⟨by show (0 : Int)≤1;omega,fun w=>absurd w (by show ¬ (1 : Int)≤0;omega),fun _=>z1,fun _=>z2⟩,by show (1 : Int)≤3;omega,fun w=>absurd w (by show ¬ (1 : Int) = 3;omega),fun w=>absurd w (by show ¬ s.n + 1≤5;omega),fun _=>?_⟩,rfl,by simp,Nat.le_refl _,fun w=>by omega⟩
        show s.n + 1 = 6 + ((s.P ++ [p]).length : Int) + (s.Q.length : Int) + (s.A.length : Int)
        rw [hc];simp;omega
      · rw [q] at hk ⊢
        simp only [] at hk
        have z2:=s3 (by omega)
        refine ⟨⟨by show 1≤s.n + 1;omega,⟨by show (0 : Int)≤2;omega,fun w=>absurd w (by show ¬ (2 : Int)≤0;omega),fun w=>absurd w (by show ¬ (2 : Int)≤1;omega),fun _=>z2⟩,by show (2 : Int)≤3;omega,fun w=>absurd w (by show ¬ (2 : Int) = 3;omega),fun w=>absurd w (by show ¬ s.n + 1≤5;omega),fun _=>?_⟩,rfl,Nat.le_refl _,by simp,fun w=>by omega⟩
        show s.n + 1 = 6 + (s.P.length : Int) + ((s.Q ++ [p]).length : Int) + (s.A.length : Int)
        rw [hc];simp;omega
      · rw [q] at hk ⊢
        refine ⟨⟨by show 1≤s.n + 1;omega,⟨by show (0 : Int)≤3;omega,fun w=>absurd w (by show ¬ (3 : Int)≤0;omega),fun w=>absurd w (by show ¬ (3 : Int)≤1;omega),fun w=>absurd w (by show ¬ (3 : Int)≤2;omega)⟩,by show (3 : Int)≤3;omega,fun _=>by simp,fun w=>absurd w (by show ¬ s.n + 1≤5;omega),fun _=>?_⟩,rfl,Nat.le_refl _,Nat.le_refl _,fun _=>⟨rfl,rfl,rfl⟩⟩
        show s.n + 1 = 6 + (s.P.length : Int) + (s.Q.length : Int) + ((s.A ++ [p]).length : Int)
        rw [hc];simp;omega
    · cases h
theorem fold_inv : ∀ (ls : List (List UInt8)) (s s' : St),Inv s→foldS s ls = some s'→Inv s'∧s'.n = s.n + (ls.length : Int)
  | [],s,s',hi,h=>by rw [foldS] at h;rw [← Option.some.inj h];exact ⟨hi,by simp⟩
  | l :: ls,s,s',hi,h=>by
    rw [foldS] at h
    cases hs : stepP s l with
    | none=>rw [hs] at h;cases h
    | some u =>
      rw [hs] at h
      obtain ⟨i1,i2,_⟩:=step_inv hi hs
      obtain ⟨j1,j2⟩:=fold_inv ls u s' i1 h
      exact ⟨j1,by rw [j2,i2,List.length_cons];omega⟩
end Go.Proofs.YtgidipomfbikiaaDoor.Cnf

namespace Go.Proofs.YtgidipomfbikiaaDoor.Cnf
open Go.RowKit Go.Proofs.YtgidipomfbikiaaDoorW.PrintWords Go.Proofs.YtgidipomfbikiaaDoorW.PrintLast Go.Proofs.YtgidipomfbikiaaDoorW.PrintMore Go.Proofs.YtgidipomfbikiaaDoor.P Go.Proofs.YtgidipomfbikiaaDoor.NumM
set_option linter.unusedVariables false
set_option linter.unusedSimpArgs false
theorem spl_app (c : UInt8) (b : List UInt8) : ∀ a : List UInt8,spl c (a ++ c :: b) = spl c a ++ spl c b
  | []=>by simp [spl]
  | x :: a=>by
    have ih:=spl_app c b a
    rw [List.cons_append,spl,spl]
    by_cases g : x = c
    · rw [if_pos g,if_pos g,ih,List.cons_append]
    · rw [if_neg g,if_neg g,ih]
      cases hs : spl c a with
      | nil=>exact absurd hs (spl_ne c a)
      | cons w ws=>rfl
theorem accOk_snoc : ∀ (s p : List S48) (a : S48),accOk p (s ++ [a]) = (accOk p s && accOk (p ++ s) [a])
  | [],p,a=>by simp [accOk]
  | b :: s,p,a=>by
    have e : ∀ t,accOk p (b :: t) = ((inB b.f2 1 1048576 && (((p.length : Int) == 0) == (b.f1.toList == [])) && (p.isEmpty || hasT (p.map (·.f0)) b.f1)) && accOk (p ++ [b]) t):=fun t=>by rw [accOk]
    rw [List.cons_append,e,e,accOk_snoc s (p ++ [b]) a,List.append_assoc]
    simp only [Bool.and_assoc]
    rfl
theorem namesOk_snoc : ∀ (s p : List ByteArray) (a : ByteArray),namesOk p (s ++ [a]) = (namesOk p s && (NameOk a && !hasT (p ++ s) a))
  | [],p,a=>by simp [namesOk]
  | b :: s,p,a=>by
    rw [List.cons_append,namesOk,namesOk_snoc s (p ++ [b]) a,namesOk,List.append_assoc]
    simp [Bool.and_assoc]
/-- an account more: may it be? -/
theorem join_cok {h : Hd} {P : List S50} {Q : List S52} {A : List S48} (hc : COK h P Q A = true) (a : S48) (h1 : 1≤a.f2∧a.f2≤1048576) (hp : hasT (A.map (·.f0)) a.f1 = true) (hne : a.f1.toList ≠ []) (hn : NameOk a.f0 = true) : COK h P Q (A ++ [a]) = (decide (A.length < 50) && !hasT (A.map (·.f0)) a.f0):=by
  have hb:=cok_b hc
  have q3:=hb.la
  unfold COK TOK at hc ⊢
  rw [Bool.and_eq_true,Bool.and_eq_true,Bool.and_eq_true] at hc
  obtain ⟨⟨⟨e1,e2⟩,e3⟩,e4⟩:=hc
  have ha : accOk ([] ++ A) [a] = true:=by
    rw [List.nil_append,accOk,accOk]
    have k1 : inB a.f2 1 1048576 = true:=(inB_iff _ _ _).2 h1
    have k2 : ((A.length : Int) == 0) = false:=by simp;intro z;subst z;simp at q3
    have k3 : (a.f1.toList == []) = false:=by simpa using hne
    rw [k1,k2,k3,hp];simp
  rw [e1,e2,e3,accOk_snoc,hb.acc,ha,List.map_append,List.map_cons,List.map_nil,namesOk_snoc,hb.na,hn,List.nil_append]
  have k4 : inB (((A ++ [a]).length : Nat) : Int) 1 50 = decide (A.length < 50):=by
    rw [Bool.eq_iff_iff,inB_iff,List.length_append,List.length_singleton,decide_eq_true_eq]
    omega
  rw [k4]
  simp
/-- a line that tells of an account more -/
def joinL (x p : List UInt8) (n : Int) : List UInt8:=Lib.join [wAccount,x,wParent,p,wShares,d_ n] [32]
theorem joinL_eq (x p : List UInt8) (n : Int) : joinL x p n = wAccount ++ 32 :: (x ++ 32 :: (wParent ++ 32 :: (p ++ 32 :: (wShares ++ 32 :: d_ n)))):=by
  simp [joinL,Lib.join_cons,Lib.joinTail]
theorem joinL_spl (x p : List UInt8) (n : Int) (hp : (32 : UInt8) ∉ p) : spl 32 (joinL x p n) = wAccount :: (spl 32 x ++ [wParent,p,wShares,d_ n]):=by
  rw [joinL_eq,spl_hit 32 _ wAccount (by decide),spl_app,spl_hit 32 _ wParent (by decide),spl_hit 32 _ p hp,spl_hit 32 _ wShares (by decide),spl_miss 32 _ (d_no n (Or.inl rfl))]
theorem joinL_no (x p : List UInt8) (n : Int) (hx : (10 : UInt8) ∉ x) (hp : (10 : UInt8) ∉ p) : (10 : UInt8) ∉ joinL x p n:=by
  refine join_no 10 (by decide) _ ?_
  intro w hw
  simp only [List.mem_cons,List.not_mem_nil,or_false] at hw
  rcases hw with rfl|rfl|rfl|rfl|rfl|rfl
  · decide
  · exact hx
  · decide
  · exact hp
  · decide
  · exact d_no n (Or.inr rfl)
/-- no name: no account -/
theorem join_bad (x p : List UInt8) (n : Int) (hp : (32 : UInt8) ∉ p) (hx : NameOk (mk x) = false) (P : List S50) (Q : List S52) (A : List S48) (hA : A ≠ []) : (laterP (joinL x p n) P Q A).1 = 0:=by
  have e:=joinL_spl x p n hp
  have hacc : formL (joinL x p n) accL.data.toList = none:=by
    unfold formL
    rw [spl_acc,e]
    cases hs : spl 32 x with
    | nil=>exact absurd hs (spl_ne 32 x)
    | cons w ws =>
      cases ws with
      | nil =>
        have hw : x = w:=by
          have:=spl_join x
          rw [hs] at this
          rw [← this];simp [Lib.join_cons,Lib.joinTail]
        subst hw
        rw [formP,if_neg (by decide),if_neg (by decide),if_pos rfl,List.cons_append,formP,if_neg (by decide),if_pos rfl,if_neg (by rw [hx];simp)]
      | cons v vs =>
        refine formP_len _ _ ?_
        simp
  unfold laterP
  rw [hd_part _ _ _ e (by decide),hd_class _ _ _ e (by decide),hacc,if_pos (List.length_pos_iff.2 hA),if_neg (fun z=>hA (List.length_eq_zero_iff.1 z))]
/-- behind all lines of a text -/
theorem all_lines {h : Hd} {P : List S50} {Q : List S52} {A : List S48} (hc : COK h P Q A = true) : ∃ s,Inv s∧s.part = 3∧6≤s.n∧s.c = h∧s.P = P∧s.Q = Q∧s.A = A∧∀ r t,runP start (linesT h P Q A ++ r) t = runP s r t:=by
  obtain ⟨r1,r2⟩:=parse_forth h P Q A hc
  have hr : runP start (linesT h P Q A ++ []) [] = okR_ h P Q A:=by rw [List.append_nil];exact r1
  obtain ⟨s,hs⟩:=fold_of _ _ _ _ (by rw [hr];rfl : errOf (runP start (linesT h P Q A ++ []) []) = 0)
  obtain ⟨i1,i2⟩:=fold_inv _ _ _ inv_start hs
  rw [run_fold _ _ _ _ _ hs,runP,if_pos rfl] at hr
  have he : errOf (endP s) = 0:=by rw [hr];rfl
  unfold endP at hr he
  by_cases h3 : s.part = 3
  · rw [if_pos h3] at hr he
    by_cases hk : COK s.c s.P s.Q s.A = true
    · rw [if_pos hk] at hr
      unfold okR_ at hr
      simp only [Prod.mk.injEq] at hr
      obtain ⟨k0,k1,k2,k3,k4,k5,k6,k7,k8,e1,e2,e3,_⟩:=hr
      refine ⟨s,i1,h3,?_,?_,e1,e2,e3,fun r t=>run_fold _ _ _ _ _ hs⟩
      · have:=i1.n5
        have : ¬ s.n≤5:=fun y=>by have:=i1.n5 y;omega
        omega
      · obtain ⟨x0,x1,x2,x3,x4,x5,x6,x7,x8⟩:=h
        cases hcc : s.c with
        | mk y0 y1 y2 y3 y4 y5 y6 y7 y8 =>
          rw [hcc] at k0 k1 k2 k3 k4 k5 k6 k7 k8
          simp only [] at k0 k1 k2 k3 k4 k5 k6 k7 k8
          rw [k0,k1,k2,k3,k4,k5,k6,k7,k8]
    · rw [if_neg hk] at he;exact absurd he (by rw [err_errR];decide)
  · rw [if_neg h3] at he;exact absurd he (by rw [err_errR];decide)
/-- a text and an account more, read -/
theorem run_join {h : Hd} {P : List S50} {Q : List S52} {A : List S48} (hc : COK h P Q A = true) (x : ByteArray) (b : S48) (hb : b ∈ A) (n : Int) (hn : 1≤n∧n≤1048576) : (NameOk x = false→errOf (runP start (linesT h P Q A ++ [joinL x.data.toList b.f0.data.toList n]) []) = 60)∧(NameOk x = true→runP start (linesT h P Q A ++ [joinL x.data.toList b.f0.data.toList n]) [] = if (decide (A.length < 50) && !hasT (A.map (·.f0)) x) = true then okR_ h P Q (A ++ [⟨x,b.f0,n⟩]) else errR 0 100):=by
  obtain ⟨s,i1,h3,h6,e0,e1,e2,e3,hrun⟩:=all_lines hc
  have cb:=cok_b hc
  have ha:=names_all _ _ cb.na
  have hbn:=ha b.f0 (List.mem_map_of_mem hb)
  have hA : A ≠ []:=fun z=>by subst z;cases hb
  rw [hrun]
  constructor
  · intro hx
    have hz:=join_bad x.data.toList b.f0.data.toList n (name_no hbn (Or.inl rfl)) (by rw [mk_list];exact hx) s.P s.Q s.A (by rw [e3];exact hA)
    have hst : stepP s (joinL x.data.toList b.f0.data.toList n) = none:=by
      unfold stepP
      rw [if_neg (by omega),hz,if_neg (by omega)]
    rw [runP,hst];rfl
  · intro hx
    have hne : b.f0.toList ≠ []:=by
      have:=name_ne (w:=b.f0.data.toList) (by rw [mk_list];exact hbn)
      rw [ByteArray.toList_eq];exact this
    have hl:=later_acc ⟨x,b.f0,n⟩ hx ⟨by show 0≤n;omega,by show n≤4294967296;omega⟩ s.P s.Q s.A (fun z=>absurd z (by rw [e3];exact hA)) (fun _=>⟨hne,hbn⟩)
    have hj : accJ ⟨x,b.f0,n⟩ = joinL x.data.toList b.f0.data.toList n:=by
      unfold accJ joinL
      rw [if_neg hne]
    rw [hj] at hl
    have hst : stepP s (joinL x.data.toList b.f0.data.toList n) = some ⟨3,s.n + 1,s.c,s.P,s.Q,s.A ++ [⟨x,b.f0,n⟩]⟩:=by
      unfold stepP
      rw [if_neg (by omega)]
      simp only [hl.1]
      rw [if_pos (by omega)]
    have hk:=join_cok hc ⟨x,b.f0,n⟩ hn (by
      unfold hasT
      rw [List.any_eq_true]
      exact ⟨b.f0,List.mem_map_of_mem hb,decide_eq_true rfl⟩) hne hx
    rw [runP,hst]
    show runP ⟨3,s.n + 1,s.c,s.P,s.Q,s.A ++ [⟨x,b.f0,n⟩]⟩ [] [] = _
    rw [runP,if_pos rfl]
    unfold endP
    simp only [e0,e1,e2,e3]
    rw [if_pos trivial,hk]
end Go.Proofs.YtgidipomfbikiaaDoor.Cnf
