/- cut to what one law reaches -/
import Derived.Test.YtgidipomfbikiaaDoorQfCnfBase
import Derived.Test.YtgidipomfbikiaaDoorQfP0
import Derived.Test.YtgidipomfbikiaaDoorQfP7
import Derived.Test.YtgidipomfbikiaaDoorQfP17
namespace Go.Proofs.YtgidipomfbikiaaDoor.Cnf
open Go.RowKit Go.Proofs.YtgidipomfbikiaaDoorW.PrintWords Go.Proofs.YtgidipomfbikiaaDoorW.PrintLast Go.Proofs.YtgidipomfbikiaaDoorW.PrintMore Go.Proofs.YtgidipomfbikiaaDoor.P Go.Proofs.YtgidipomfbikiaaDoor.NumM
set_option linter.unusedVariables false
set_option linter.unusedSimpArgs false
def mk (l : List UInt8) : ByteArray:=⟨l.toArray⟩
theorem mk_data (l : List UInt8) : (mk l).data.toList = l:=rfl
theorem mk_size (l : List UInt8) : (mk l).size = l.length:=rfl
theorem mk_toList (l : List UInt8) : (mk l).toList = l:=by rw [ByteArray.toList_eq];rfl
theorem mk_self (a : ByteArray) : a = mk a.data.toList:=by obtain ⟨⟨x⟩⟩:=a;rfl
theorem mk_append (a b : List UInt8) : mk a ++ mk b = mk (a ++ b):=by
  have h : (mk a ++ mk b).data.toList = (mk (a ++ b)).data.toList:=by simp [mk]
  rw [mk_self (mk a ++ mk b),h];rfl
/-! ### numbers -/
def isD (c : UInt8) : Bool:=decide (48≤c.toNat) && decide (c.toNat≤57)
def val : List UInt8→Nat→Nat
  | [],n=>n
  | c :: r,n=>val r (10 * n + (c.toNat - 48))
theorem val_lt : ∀ (l : List UInt8) (n m : Nat),l.all isD = true→n < m→val l n < m * 10 ^ l.length
  | [],n,m,_,h=>by simpa [val] using h
  | c :: r,n,m,hd,h=>by
    rw [List.all_cons,Bool.and_eq_true] at hd
    have hc : c.toNat - 48 < 10:=by simp [isD] at hd;omega
    have:=val_lt r (10 * n + (c.toNat - 48)) (m * 10) hd.2 (by omega)
    rw [val,List.length_cons,Nat.pow_succ']
    rw [Nat.mul_assoc] at this
    exact this
abbrev dec:=Lib.decDigits
theorem dec_small {n : Nat} (h : n < 10) : dec n = [UInt8.ofNat (48 + n)]:=by
  rw [dec,Lib.decDigits,dif_pos h]
theorem dec_big {n : Nat} (h : ¬ n < 10) : dec n = dec (n / 10) ++ [UInt8.ofNat (48 + n % 10)]:=by
  rw [dec,Lib.decDigits,dif_neg h]
theorem toNat_dg {n : Nat} (h : n < 10) : (UInt8.ofNat (48 + n)).toNat = 48 + n:=by
  simp [UInt8.toNat_ofNat];omega
theorem strOne (x : Int) (n : Nat) (h : n < 10) (hx : x = 48 + (n : Int)) : strOfNums [(wrap64 x) % 256] = mk [UInt8.ofNat (48 + n)]:=by
  have : (wrap64 x) % 256 = ((48 + n : Nat) : Int):=by rw [w64 (by omega)];omega
  rw [this]
  show mk [UInt8.ofNat (((48 + n : Nat) : Int)).toNat] = _
  rw [Int.toNat_natCast]
theorem digits_eq : ∀ n : Nat,n≤1000000000000000000→Ev (fun k=>gangerref06_Digits.f k (n : Int)) (mk (dec n)):=by
  intro n
  induction n using Nat.strongRecOn with
  | ind n ih =>
    intro hn
    by_cases h : n < 10
    · refine ev_at 1 fun k=>?_
      rw [gangerref06_Digits.f,if_pos (by omega),strOne _ n h rfl,dec_small h]
    · refine Ev.step (f:=fun k=>(gangerref06_Digits.f k ((n / 10 : Nat) : Int)).bind fun t=>if t.size + (mk [UInt8.ofNat (48 + n % 10)]).size≤9223372036854775807 then some (t ++ mk [UInt8.ofNat (48 + n % 10)]) else none) (fun k=>?_) ?_
      · rw [gangerref06_Digits.f,if_neg (by omega)]
        have e1 : wrap64 (Int.tdiv (n : Int) 10) = ((n / 10 : Nat) : Int):=by
          rw [Int.tdiv_eq_ediv_of_nonneg (by omega),w64 (by omega)];omega
        have e2 : Int.tmod (n : Int) 10 = ((n % 10 : Nat) : Int):=by
          rw [Int.tmod_eq_emod_of_nonneg (by omega)];omega
        rw [e1,e2]
        simp only [Option.bind_some]
        rw [strOne _ (n % 10) (by omega) rfl]
      · have hlen : (dec (n / 10)).length≤1000:=by
          rw [dec,Lib.decDigits_length]
          have hp:=Lib.lt_pow_nDigits (n / 10)
          by_cases hz : n / 10 = 0
          · omega
          · rcases Nat.lt_or_ge (Lib.nDigits (n / 10)) 1000 with h'|h'
            · omega
            · exfalso
              have hlow : ∀ u : Nat,10≤u→10 ^ (Lib.nDigits u - 1)≤u:=by
                intro u
                induction u using Nat.strongRecOn with
                | ind u ihu =>
                  intro hu
                  rw [Lib.nDigits_big (by omega)]
                  by_cases h10 : 10≤u / 10
                  · have:=ihu (u / 10) (by omega) h10
                    have hpos:=Lib.nDigits_pos (u / 10)
                    rw [Nat.add_sub_cancel,show Lib.nDigits (u / 10) = (Lib.nDigits (u / 10) - 1) + 1 by omega,Nat.pow_succ]
                    omega
                  · rw [Lib.nDigits_small (by omega)];omega
              by_cases h10 : 10≤n / 10
              · have h1:=hlow (n / 10) h10
                have h2 : 10 ^ 20≤10 ^ (Lib.nDigits (n / 10) - 1):=Nat.pow_le_pow_right (by omega) (by omega)
                omega
              · rw [Lib.nDigits_small (by omega)] at h';omega
        refine Ev.bind (ih (n / 10) (by omega) (by omega)) ?_
        rw [if_pos (by rw [mk_size,mk_size];simp;omega),mk_append,dec_big h]
        exact Ev.now _
theorem val_snoc (c : UInt8) : ∀ (l : List UInt8) (m : Nat),val (l ++ [c]) m = 10 * val l m + (c.toNat - 48)
  | [],m=>rfl
  | b :: l,m=>by rw [List.cons_append,val,val_snoc c l];rfl
theorem isD_dg {n : Nat} (h : n < 10) : isD (UInt8.ofNat (48 + n)) = true:=by
  simp only [isD,toNat_dg h];simp;omega
theorem dec_all : ∀ n : Nat,(dec n).all isD = true:=by
  intro n
  induction n using Nat.strongRecOn with
  | ind n ih =>
    by_cases h : n < 10
    · rw [dec_small h,List.all_cons,isD_dg h];rfl
    · rw [dec_big h,List.all_append,ih (n / 10) (by omega),List.all_cons,isD_dg (show n % 10 < 10 by omega)];rfl
theorem dec_val : ∀ n : Nat,val (dec n) 0 = n:=by
  intro n
  induction n using Nat.strongRecOn with
  | ind n ih =>
    by_cases h : n < 10
    · rw [dec_small h,val,val,toNat_dg h];omega
    · rw [dec_big h,val_snoc,ih (n / 10) (by omega),toNat_dg (by omega)];omega
theorem dec_len : ∀ (k n : Nat),1≤k→n < 10 ^ k→(dec n).length≤k:=by
  intro k
  induction k with
  | zero=>intro n h;omega
  | succ k ih =>
    intro n _ hn
    by_cases h : n < 10
    · rw [dec_small h];simp
    · rw [dec_big h]
      have hk : 1≤k:=by
        rcases Nat.eq_zero_or_pos k with h0|h0
        · subst h0;simp at hn;omega
        · exact h0
      have:=ih (n / 10) hk (by rw [Nat.pow_succ] at hn;omega)
      simp;omega
theorem dec_ne (n : Nat) : dec n ≠ []:=by
  by_cases h : n < 10
  · rw [dec_small h];simp
  · rw [dec_big h];simp
theorem nod {l : List UInt8} (h : l.all isD = true) {c : UInt8} (hc : isD c = false) : c ∉ l:=fun hm=>by
  have:=List.all_eq_true.mp h c hm
  rw [hc] at this;cases this
theorem itoa_nat (n : Nat) (h : n≤1000000000000000000) : strconv_Itoa_30.f (n : Int) = some (mk (dec n)):=by
  unfold strconv_Itoa_30.f
  rw [if_pos (by omega),if_pos (by omega)]
  unfold Lib.itoa
  rw [if_neg (by omega)];rfl
end Go.Proofs.YtgidipomfbikiaaDoor.Cnf
