/- cut to what one law reaches -/
import Derived.Test.YtakdneopmojjdaaDoorBkBookBase
import Derived.Test.YtakdneopmojjdaaDoorBkP0
import Derived.Test.YtakdneopmojjdaaDoorBkP4
namespace Go.Proofs.YtakdneopmojjdaaDoor.Bk
open Go.RowKit Go.Proofs.YtakdneopmojjdaaDoorW.PrintWords Go.Proofs.YtakdneopmojjdaaDoorW.PrintLast Go.Proofs.YtakdneopmojjdaaDoorW.PrintMore Go.Proofs.YtakdneopmojjdaaDoor.P Go.Proofs.YtakdneopmojjdaaDoor.NumM
set_option linter.unusedVariables false
set_option linter.unusedSimpArgs false
def mk (l : List UInt8) : ByteArray:=⟨l.toArray⟩
theorem mk_data (l : List UInt8) : (mk l).data.toList = l:=rfl
theorem mk_size (l : List UInt8) : (mk l).size = l.length:=rfl
theorem mk_toList (l : List UInt8) : (mk l).toList = l:=by rw [ByteArray.toList_eq];rfl
theorem mk_self (a : ByteArray) : a = mk a.data.toList:=by obtain ⟨⟨x⟩⟩:=a;rfl
theorem mk_append (a b : List UInt8) : mk a ++ mk b = mk (a ++ b):=by
  have h : (mk a ++ mk b).data.toList = (mk (a ++ b)).data.toList:=by simp [mk]
  rw [mk_self (mk a ++ mk b),h];rfl
/-! ### numbers -/
def isD (c : UInt8) : Bool:=decide (48≤c.toNat) && decide (c.toNat≤57)
def val : List UInt8→Nat→Nat
  | [],n=>n
  | c :: r,n=>val r (10 * n + (c.toNat - 48))
theorem val_lt : ∀ (l : List UInt8) (n m : Nat),l.all isD = true→n < m→val l n < m * 10 ^ l.length
  | [],n,m,_,h=>by simpa [val] using h
  | c :: r,n,m,hd,h=>by
    rw [List.all_cons,Bool.and_eq_true] at hd
    have hc : c.toNat - 48 < 10:=by simp [isD] at hd;omega
    have:=val_lt r (10 * n + (c.toNat - 48)) (m * 10) hd.2 (by omega)
    rw [val,List.length_cons,Nat.pow_succ']
    rw [Nat.mul_assoc] at this
    exact this
abbrev dec:=Lib.decDigits
theorem dec_small {n : Nat} (h : n < 10) : dec n = [UInt8.ofNat (48 + n)]:=by
  rw [dec,Lib.decDigits,dif_pos h]
theorem dec_big {n : Nat} (h : ¬ n < 10) : dec n = dec (n / 10) ++ [UInt8.ofNat (48 + n % 10)]:=by
  rw [dec,Lib.decDigits,dif_neg h]
theorem toNat_dg {n : Nat} (h : n < 10) : (UInt8.ofNat (48 + n)).toNat = 48 + n:=by
  simp [UInt8.toNat_ofNat];omega
theorem val_snoc (c : UInt8) : ∀ (l : List UInt8) (m : Nat),val (l ++ [c]) m = 10 * val l m + (c.toNat - 48)
  | [],m=>rfl
  | b :: l,m=>by rw [List.cons_append,val,val_snoc c l];rfl
theorem isD_dg {n : Nat} (h : n < 10) : isD (UInt8.ofNat (48 + n)) = true:=by
  simp only [isD,toNat_dg h];simp;omega
theorem dec_all : ∀ n : Nat,(dec n).all isD = true:=by
  intro n
  induction n using Nat.strongRecOn with
  | ind n ih =>
    by_cases h : n < 10
    · rw [dec_small h,List.all_cons,isD_dg h];rfl
    · rw [dec_big h,List.all_append,ih (n / 10) (by omega),List.all_cons,isD_dg (show n % 10 < 10 by omega)];rfl
theorem dec_val : ∀ n : Nat,val (dec n) 0 = n:=by
  intro n
  induction n using Nat.strongRecOn with
  | ind n ih =>
    by_cases h : n < 10
    · rw [dec_small h,val,val,toNat_dg h];omega
    · rw [dec_big h,val_snoc,ih (n / 10) (by omega),toNat_dg (by omega)];omega
theorem dec_len : ∀ (k n : Nat),1≤k→n < 10 ^ k→(dec n).length≤k:=by
  intro k
  induction k with
  | zero=>intro n h;omega
  | succ k ih =>
    intro n _ hn
    by_cases h : n < 10
    · rw [dec_small h];simp
    · rw [dec_big h]
      have hk : 1≤k:=by
        rcases Nat.eq_zero_or_pos k with h0|h0
        · subst h0;simp at hn;omega
        · exact h0
      have:=ih (n / 10) hk (by rw [Nat.pow_succ] at hn;omega)
      simp;omega
theorem dec_ne (n : Nat) : dec n ≠ []:=by
  by_cases h : n < 10
  · rw [dec_small h];simp
  · rw [dec_big h];simp
theorem nod {l : List UInt8} (h : l.all isD = true) {c : UInt8} (hc : isD c = false) : c ∉ l:=fun hm=>by
  have:=List.all_eq_true.mp h c hm
  rw [hc] at this;cases this
theorem itoa_nat (n : Nat) (h : n≤1000000000000000000) : strconv_Itoa_20.f (n : Int) = some (mk (dec n)):=by
  unfold strconv_Itoa_20.f
  rw [if_pos (by omega),if_pos (by omega)]
  unfold Lib.itoa
  rw [if_neg (by omega)];rfl
def d_ (n : Int) : List UInt8:=dec n.toNat
theorem itoa_n {x : Int} (h0 : 0≤x) (h1 : x≤9999999999999) : strconv_Itoa_20.f x = some (mk (d_ x)):=by
  have:=itoa_nat x.toNat (by omega)
  rw [Int.toNat_of_nonneg h0] at this
  exact this
theorem d_len {x : Int} (h1 : x≤9999999999999) : (d_ x).length≤13:=dec_len 13 x.toNat (by omega) (by omega)
theorem d_no {x : Int} {c : UInt8} (hc : isD c = false) : c ∉ d_ x:=nod (dec_all _) hc
end Go.Proofs.YtakdneopmojjdaaDoor.Bk
