/- cut to what one law reaches -/
import Derived.Test.YtakdneopmojjdaaDoorBkBookDig
import Derived.Test.YtakdneopmojjdaaDoorBkP0
import Derived.Test.YtakdneopmojjdaaDoorBkP4
namespace Go.Proofs.YtakdneopmojjdaaDoor.Bk
open Go.RowKit Go.Proofs.YtakdneopmojjdaaDoorW.PrintWords Go.Proofs.YtakdneopmojjdaaDoorW.PrintLast Go.Proofs.YtakdneopmojjdaaDoorW.PrintMore Go.Proofs.YtakdneopmojjdaaDoor.P Go.Proofs.YtakdneopmojjdaaDoor.NumM
set_option linter.unusedVariables false
set_option linter.unusedSimpArgs false
/-- what stands between signs -/
def spl (c : UInt8) : List UInt8→List (List UInt8)
  | []=>[[]]
  | x :: r=>if x = c then [] :: spl c r else (match spl c r with|[]=>[[x]]|w :: ws=>(x :: w) :: ws)
theorem spl_ne (c : UInt8) : ∀ l,spl c l ≠ []
  | []=>by simp [spl]
  | x :: r=>by
    rw [spl]
    split
    · simp
    · split <;> simp
theorem spl_miss (c : UInt8) : ∀ l : List UInt8,c ∉ l→spl c l = [l]
  | [],_=>rfl
  | x :: r,h=>by
    rw [List.mem_cons,not_or] at h
    rw [spl,if_neg (fun e=>h.1 e.symm),spl_miss c r h.2]
theorem spl_hit (c : UInt8) (b : List UInt8) : ∀ a : List UInt8,c ∉ a→spl c (a ++ c :: b) = a :: spl c b
  | [],_=>by rw [List.nil_append,spl,if_pos rfl]
  | x :: a,h=>by
    rw [List.mem_cons,not_or] at h
    rw [List.cons_append,spl,if_neg (fun e=>h.1 e.symm),spl_hit c b a h.2]
theorem cut_at (c : UInt8) : ∀ l : List UInt8,c ∉ l ∨ ∃ a b,l = a ++ c :: b∧c ∉ a
  | []=>Or.inl (by simp)
  | x :: r=>by
    by_cases e : x = c
    · exact Or.inr ⟨[],r,by rw [e];rfl,by simp⟩
    · rcases cut_at c r with h|⟨a,b,h1,h2⟩
      · exact Or.inl (by rw [List.mem_cons,not_or];exact ⟨fun z=>e z.symm,h⟩)
      · exact Or.inr ⟨x :: a,b,by rw [h1];rfl,by rw [List.mem_cons,not_or];exact ⟨fun z=>e z.symm,h2⟩⟩
theorem pre1 (c x : UInt8) (l : List UInt8) : [c].isPrefixOf (x :: l) = (c == x):=by simp [List.isPrefixOf]
theorem idx_miss (c : UInt8) : ∀ l : List UInt8,c ∉ l→Lib.index l [c] = -1
  | [],_=>rfl
  | x :: r,h=>by
    rw [List.mem_cons,not_or] at h
    rw [Lib.index,pre1,if_neg (by simpa using h.1),idx_miss c r h.2]
    rfl
theorem idx_hit (c : UInt8) (b : List UInt8) : ∀ a : List UInt8,c ∉ a→Lib.index (a ++ c :: b) [c] = (a.length : Int)
  | [],_=>by rw [List.nil_append,Lib.index,pre1,if_pos (by simp)];rfl
  | x :: a,h=>by
    rw [List.mem_cons,not_or] at h
    rw [List.cons_append,Lib.index,pre1,if_neg (by simpa using h.1),idx_hit c b a h.2,if_neg (by simp)]
    simp
theorem cut_miss (c : UInt8) (l : List UInt8) (h : c ∉ l) : Lib.cut l [c] = (l,[],false):=by
  unfold Lib.cut
  rw [idx_miss c l h,if_neg (by omega)]
theorem cut_hit (c : UInt8) (a b : List UInt8) (h : c ∉ a) : Lib.cut (a ++ c :: b) [c] = (a,b,true):=by
  unfold Lib.cut
  rw [idx_hit c b a h,if_pos (by omega)]
  simp
theorem splitK_spl (c : UInt8) : ∀ (n : Nat) (l : List UInt8) (fuel : Nat),l.length≤n→l.length < fuel→Lib.splitK [c] 0 (Lib.countFrom [c] fuel l) l = spl c l
  | n,l,fuel,hn,hf=>by
    obtain ⟨fuel,rfl⟩ : ∃ m,fuel = m + 1:=⟨fuel - 1,by omega⟩
    rcases cut_at c l with h|⟨a,b,rfl,h⟩
    · rw [Lib.countFrom,idx_miss c l h,if_pos (by rfl),Lib.splitK,spl_miss c l h]
    · have e : (Lib.index (a ++ c :: b) [c] == -1) = false:=by rw [idx_hit c b a h];simp
      have ed : (a ++ c :: b).drop ((Lib.index (a ++ c :: b) [c]).toNat + [c].length) = b:=by rw [idx_hit c b a h];simp
      rw [List.length_append,List.length_cons] at hn hf
      cases n with
      | zero=>omega
      | succ n =>
        rw [Lib.countFrom,e,if_neg (by simp),ed,Nat.add_comm 1,Lib.splitK,e,if_neg (by simp),ed,splitK_spl c n b fuel (by omega) (by omega),idx_hit c b a h,spl_hit c b a h]
        simp
theorem split_f (s : ByteArray) (h : s.size≤1000000) : ∃ l,strings_Split.f s (⟨#[32]⟩ : ByteArray) = some l∧l.map (·.data.toList) = spl 32 s.data.toList:=by
  unfold strings_Split.f
  rw [if_pos (by omega),if_pos (by decide)]
  refine ⟨_,rfl,?_⟩
  rw [Lib.splitB_data]
  show Lib.splitK [32] 0 (Lib.count s.data.toList [32]) s.data.toList = _
  exact splitK_spl 32 s.data.toList.length _ _ (Nat.le_refl _) (Nat.lt_succ_self _)
theorem spl_join : ∀ l : List UInt8,Lib.join (spl 32 l) [32] = l
  | l=>by
    have : ∀ (n : Nat) (l : List UInt8),l.length≤n→Lib.join (spl 32 l) [32] = l:=by
      intro n
      induction n with
      | zero=>intro l h;have : l = []:=List.length_eq_zero_iff.1 (by omega);subst this;rfl
      | succ n ih =>
        intro l h
        rcases cut_at 32 l with g|⟨a,b,rfl,g⟩
        · rw [spl_miss 32 l g,Lib.join_one]
        · rw [List.length_append,List.length_cons] at h
          have e:=ih b (by omega)
          rw [spl_hit 32 b a g]
          cases hb : spl 32 b with
          | nil=>exact absurd hb (spl_ne 32 b)
          | cons w ws =>
            rw [hb,Lib.join_cons] at e
            rw [Lib.join_cons]
            rw [← e]
            simp [Lib.joinTail]
    exact this l.length l (Nat.le_refl _)
theorem join_spl : ∀ (ws : List (List UInt8)),ws ≠ []→(∀ w ∈ ws,(32 : UInt8) ∉ w)→spl 32 (Lib.join ws [32]) = ws
  | [],h,_=>absurd rfl h
  | [w],_,h=>by rw [Lib.join_one];exact spl_miss 32 w (h w (List.mem_cons_self ..))
  | w :: v :: ws,_,h=>by
    have ih:=join_spl (v :: ws) (by simp) (fun x hx=>h x (List.mem_cons_of_mem _ hx))
    have e : Lib.join (w :: v :: ws) [32] = w ++ 32 :: Lib.join (v :: ws) [32]:=by
      rw [Lib.join_cons,Lib.join_cons];simp [Lib.joinTail]
    rw [e,spl_hit 32 _ w (h w (List.mem_cons_self ..)),ih]
/-! ### numbers -/
/-- a number in a word -/
def numP (w : List UInt8) : Option Int:=if w ≠ []∧w.length≤13∧w.all isD = true∧(w = [48] ∨ w[0]? ≠ some 48) then some (val w 0 : Nat) else none
theorem dec_cons (n : Nat) : ∃ c r,dec n = c :: r:=by
  cases h : dec n with
  | nil=>exact absurd h (dec_ne n)
  | cons c r=>exact ⟨c,r,rfl⟩
theorem dec_first : ∀ n : Nat,1≤n→(dec n)[0]? ≠ some 48:=by
  intro n
  induction n using Nat.strongRecOn with
  | ind n ih =>
    intro h1
    by_cases h : n < 10
    · rw [dec_small h]
      intro e
      have e2 : UInt8.ofNat (48 + n) = 48:=by simpa using e
      have:=congrArg UInt8.toNat e2
      rw [toNat_dg h] at this
      have e3 : (48 : UInt8).toNat = 48:=rfl
      omega
    · rw [dec_big h]
      obtain ⟨c,r,e⟩:=dec_cons (n / 10)
      have:=ih (n / 10) (by omega) (by omega)
      rw [e] at this ⊢
      simpa using this
theorem numP_dec {n : Nat} (h : n < 10000000000000) : numP (dec n) = some (n : Int):=by
  have hz : dec n = [48] ∨ (dec n)[0]? ≠ some 48:=by
    by_cases h0 : n = 0
    · subst h0;exact Or.inl (by rw [dec_small (by omega)];rfl)
    · exact Or.inr (dec_first n (by omega))
  unfold numP
  rw [if_pos ⟨dec_ne n,dec_len 13 n (by omega) (by omega),dec_all n,hz⟩,dec_val]
theorem val_pos : ∀ (l : List UInt8) (m : Nat),1≤m→1≤val l m
  | [],m,h=>h
  | c :: r,m,h=>by rw [val];exact val_pos r _ (by omega)
theorem isD_dg' {c : UInt8} (h : isD c = true) : UInt8.ofNat (48 + (c.toNat - 48)) = c∧c.toNat - 48 < 10:=by
  unfold isD at h
  simp only [Bool.and_eq_true,decide_eq_true_eq] at h
  refine ⟨?_,by omega⟩
  have : 48 + (c.toNat - 48) = c.toNat:=by omega
  rw [this];exact UInt8.ofNat_toNat
theorem dec_canon : ∀ (n : Nat) (w : List UInt8),w.length≤n→w ≠ []→w.all isD = true→(w = [48] ∨ w[0]? ≠ some 48)→dec (val w 0) = w
  | 0,w,hn,h1,_,_=>absurd (List.length_eq_zero_iff.1 (by omega)) h1
  | n + 1,w,hn,h1,h2,h3=>by
    rcases List.eq_nil_or_concat w with e|⟨u,c,e⟩
    · exact absurd e h1
    · rw [List.concat_eq_append] at e
      subst e
      rw [List.all_append,Bool.and_eq_true] at h2
      have hc : isD c = true:=by simpa using h2.2
      obtain ⟨hc1,hc2⟩:=isD_dg' hc
      rw [val_snoc]
      cases u with
      | nil =>
        rw [val,Nat.mul_zero,Nat.zero_add,dec_small hc2,hc1];rfl
      | cons x u =>
        have hx : x ≠ 48:=by
          rcases h3 with q|q
          · simp at q
          · intro z;apply q;rw [z];rfl
        have hx0 : isD x = true:=by simp at h2;exact h2.1.1
        have ih:=dec_canon n (x :: u) (by simp at hn ⊢;omega) (by simp) h2.1 (Or.inr (by simpa using hx))
        have hp : 1≤val (x :: u) 0:=by
          rw [val]
          refine val_pos u _ ?_
          have : x.toNat ≠ 48:=fun z=>hx (UInt8.toNat_inj.1 z)
          unfold isD at hx0
          simp only [Bool.and_eq_true,decide_eq_true_eq] at hx0
          omega
        have e1 : (10 * val (x :: u) 0 + (c.toNat - 48)) / 10 = val (x :: u) 0:=by omega
        have e2 : (10 * val (x :: u) 0 + (c.toNat - 48)) % 10 = c.toNat - 48:=by omega
        rw [dec_big (by omega),e1,e2,ih,hc1]
theorem numP_canon {w : List UInt8} {x : Int} (h : numP w = some x) : w = d_ x∧0≤x∧x < 10000000000000:=by
  unfold numP at h
  split at h
  · rename_i g
    obtain ⟨g1,g2,g3,g4⟩:=g
    have e:=Option.some.inj h
    have hv:=val_lt w 0 1 g3 (by omega)
    have hp : 10 ^ w.length≤10 ^ 13:=Nat.pow_le_pow_right (by omega) g2
    refine ⟨?_,by omega,by omega⟩
    rw [← e]
    unfold d_
    rw [Int.toNat_natCast]
    exact (dec_canon w.length w (Nat.le_refl _) g1 g3 g4).symm
  · cases h
theorem numP_d {x : Int} (h0 : 0≤x) (h1 : x≤9999999999999) : numP (d_ x) = some x:=by
  unfold d_
  rw [numP_dec (by omega),Int.toNat_of_nonneg h0]
end Go.Proofs.YtakdneopmojjdaaDoor.Bk
