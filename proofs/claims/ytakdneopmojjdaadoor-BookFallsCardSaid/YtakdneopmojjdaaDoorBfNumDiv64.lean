/- cut to what one law reaches -/
import Derived.Test.YtakdneopmojjdaaDoorBfNumCut
import Derived.Test.YtakdneopmojjdaaDoorBfP0
import Derived.Test.YtakdneopmojjdaaDoorBfP4
import Derived.Test.YtakdneopmojjdaaDoorBfP7
import Derived.Test.YtakdneopmojjdaaDoorBfP8
namespace Go.Proofs.YtakdneopmojjdaaDoor.NumM
open Go.RowKit Go.Proofs.YtakdneopmojjdaaDoorW.PrintWords Go.Proofs.YtakdneopmojjdaaDoorW.PrintLast Go.Proofs.YtakdneopmojjdaaDoorW.PrintMore Go.Proofs.YtakdneopmojjdaaDoor.P
set_option linter.unusedVariables false
theorem bitLen_aux : ∀ (f x : Nat),x < 2 ^ f→x < 2 ^ Lib.bitLenAux f x∧(x > 0→2 ^ Lib.bitLenAux f x≤2 * x)∧Lib.bitLenAux f x≤f:=by
  intro f
  induction f with
  | zero=>intro x h;simp at h;subst h;simp [Lib.bitLenAux]
  | succ f ih =>
    intro x h
    unfold Lib.bitLenAux
    by_cases c : x = 0
    · rw [if_pos c];simp [c]
    · rw [if_neg c]
      have h2:=ih (x / 2) (by rw [Nat.pow_succ] at h;omega)
      rw [show 1 + Lib.bitLenAux f (x / 2) = Lib.bitLenAux f (x / 2) + 1 by omega,Nat.pow_succ]
      refine ⟨by omega,fun _=>?_,by omega⟩
      by_cases z : x / 2 > 0
      · have:=h2.2.1 z;omega
      · have hz : x / 2 = 0:=by omega
        rw [hz]
        have : Lib.bitLenAux f 0 = 0:=by cases f <;> simp [Lib.bitLenAux]
        rw [this];omega
theorem bitLen_spec (x : Nat) (h : x < 2 ^ 64) : x < 2 ^ Lib.bitLen x∧(x > 0→2 ^ Lib.bitLen x≤2 * x)∧Lib.bitLen x≤64:=bitLen_aux 64 x h
theorem and32 (x : Int) (h : 0≤x∧x < 18446744073709551616) : Go.bits .and .u64 x 4294967295 = x % 4294967296:=by
  obtain ⟨n,rfl⟩ : ∃ n : Nat,x = n:=⟨x.toNat,by omega⟩
  show IntKind.u64.wrap ((BitVec.ofInt 64 (n : Int) &&& BitVec.ofInt 64 4294967295).toNat : Int) = _
  have e : (BitVec.ofInt 64 (n : Int) &&& BitVec.ofInt 64 4294967295).toNat = n % 4294967296:=by
    rw [BitVec.toNat_and]
    have e1 : (BitVec.ofInt 64 (n : Int)).toNat = n:=by rw [BitVec.toNat_ofInt];omega
    have e2 : (BitVec.ofInt 64 4294967295).toNat = 2 ^ 32 - 1:=by decide
    rw [e1,e2,Nat.and_two_pow_sub_one_eq_mod]
  rw [e,IntKind.wrap_u64];omega
theorem or_add (a b : Int) (s : Nat) (ha : 0≤a) (hb : 0≤b∧b < 2 ^ s) (hs : a * 2 ^ s + b < 18446744073709551616) : Go.bits .or .u64 (a * 2 ^ s) b = a * 2 ^ s + b:=by
  obtain ⟨m,rfl⟩ : ∃ n : Nat,a = n:=⟨a.toNat,by omega⟩
  obtain ⟨n,rfl⟩ : ∃ n : Nat,b = n:=⟨b.toNat,by omega⟩
  have h4 : ((2 : Nat) : Int) = 2:=rfl
  have e0 : (m : Int) * 2 ^ s = ((m * 2 ^ s : Nat) : Int):=by rw [Int.natCast_mul,Int.natCast_pow,h4]
  have hn : n < 2 ^ s:=by have:=hb.2;rw [← h4,← Int.natCast_pow] at this;exact_mod_cast this
  rw [e0] at hs ⊢
  show IntKind.u64.wrap ((BitVec.ofInt 64 ((m * 2 ^ s : Nat) : Int) ||| BitVec.ofInt 64 (n : Int)).toNat : Int) = _
  have e : (BitVec.ofInt 64 ((m * 2 ^ s : Nat) : Int) ||| BitVec.ofInt 64 (n : Int)).toNat = m * 2 ^ s + n:=by
    rw [BitVec.toNat_or]
    have e1 : (BitVec.ofInt 64 ((m * 2 ^ s : Nat) : Int)).toNat = m * 2 ^ s:=by rw [BitVec.toNat_ofInt];omega
    have e2 : (BitVec.ofInt 64 (n : Int)).toNat = n:=by rw [BitVec.toNat_ofInt];omega
    rw [e1,e2,Nat.mul_comm,Nat.two_pow_add_eq_or_of_lt hn]
  rw [e,IntKind.wrap_u64]
  omega
theorem quot_unique {N Y q : Int} (hY : 0 < Y) (h1 : q * Y≤N) (h2 : N / Y≤q) : q = N / Y:=by
  have:=(Int.le_ediv_iff_mul_le hY).mpr h1
  omega
theorem knuth_round {Y yn1 yn0 u u1 q r : Int} (hY : Y = yn1 * 4294967296 + yn0) (h1 : 0 < yn1) (h1' : yn1 < 4294967296) (h0 : 0≤yn0) (h0' : yn0 < 4294967296) (hu0 : 0≤u) (hu : u < Y) (hu1 : 0≤u1) (hu1' : u1 < 4294967296)
    (hr : 0≤r) (hr' : r < 4294967296) (hq : 0≤q) (he : q * yn1 + r = u) (hc : (u * 4294967296 + u1) / Y≤q) :
    ((q ≥ 4294967296 ∨ q * yn0 > 4294967296 * r + u1)→(1≤q∧(u * 4294967296 + u1) / Y≤q - 1∧(r + yn1 ≥ 4294967296→q - 1 = (u * 4294967296 + u1) / Y))) ∧
    (¬ (q ≥ 4294967296 ∨ q * yn0 > 4294967296 * r + u1)→q = (u * 4294967296 + u1) / Y):=by
  have hYp : 0 < Y:=by omega
  have hqY : q * Y = (u - r) * 4294967296 + q * yn0:=by
    rw [hY,Int.mul_add,← Int.mul_assoc,show q * yn1 = u - r by omega]
  have hQ0 : 0≤(u * 4294967296 + u1) / Y:=Int.ediv_nonneg (by omega) (by omega)
  have hQB : (u * 4294967296 + u1) / Y < 4294967296:=by
    rw [Int.ediv_lt_iff_lt_mul hYp];omega
  have hQm : (u * 4294967296 + u1) / Y * Y≤u * 4294967296 + u1:=Int.ediv_mul_le _ (by omega)
  refine ⟨fun h=>?_,fun h=>?_⟩
  · have hgt : (u * 4294967296 + u1) / Y < q:=by
      rcases h with h|h
      · omega
      · have h2 : u * 4294967296 + u1 < q * Y:=by omega
        exact Int.ediv_lt_of_lt_mul hYp h2
    refine ⟨by omega,by omega,fun hb=>?_⟩
    refine quot_unique hYp ?_ (by omega)
    have e1 : (q - 1) * Y = q * Y - Y:=by rw [Int.sub_mul,Int.one_mul]
    have e2 : q * yn0 - yn0 = (q - 1) * yn0:=by rw [Int.sub_mul,Int.one_mul]
    have hlt : q - 1≤4294967295:=by
      by_cases z : q - 1≤4294967295
      · exact z
      · exfalso
        have h3 : 4294967296 * yn1≤(q - 1) * yn1:=Int.mul_le_mul_of_nonneg_right (by omega) (by omega)
        rw [Int.sub_mul,Int.one_mul] at h3
        omega
    have h4 : (q - 1) * yn0≤4294967295 * 4294967295:=Int.mul_le_mul hlt (by omega) h0 (by omega)
    omega
  · refine quot_unique hYp ?_ hc
    omega
/-- the first of the two loops: it comes out with the quotient's upper half -/
theorem div_l0 {Y yn1 yn0 u u1 : Int} (s u0 : Int) (hY : Y = yn1 * 4294967296 + yn0) (hY' : Y < 18446744073709551616) (h1 : 0 < yn1) (h1' : yn1 < 4294967296) (h0 : 0≤yn0) (h0' : yn0 < 4294967296) (hu0 : 0≤u) (hu : u < Y) (hu1 : 0≤u1) (hu1' : u1 < 4294967296)
    (res : Int × Int) (hres : Ev (fun k=>bits_Div64.j2 k Y s yn1 yn0 u u1 u0 ((u * 4294967296 + u1) / Y)) res) (d : Nat) :
    ∀ (q r : Int),0≤r→r < 4294967296→0≤q→q < 18446744073709551616→q * yn1 + r = u→(u * 4294967296 + u1) / Y≤q→4294967296 - r≤d→Ev (fun k=>bits_Div64.l0 k Y s yn1 yn0 u u1 u0 q r) res:=by
  induction d with
  | zero=>intro q r hr hr' hq hq' he hc hd;omega
  | succ d ih =>
    intro q r hr hr' hq hq' he hc hd
    obtain ⟨hT,hF⟩:=knuth_round hY h1 h1' h0 h0' hu0 hu hu1 hu1' hr hr' hq he hc
    have hj1 : (q ≥ 4294967296 ∨ q * yn0 > 4294967296 * r + u1)→Ev (fun k=>bits_Div64.j1 k Y s yn1 yn0 u u1 u0 q r true) res:=by
      intro h
      obtain ⟨t1,t2,t3⟩:=hT h
      refine Ev.step (fun k=>by rw [bits_Div64.j1]) ?_
      rw [u64 (x:=r + yn1) (by omega),u64 (x:=q - 1) (by omega)]
      simp only [if_true]
      by_cases hb : r + yn1 ≥ 4294967296
      · simp only [if_pos hb]
        rw [t3 hb];exact hres
      · simp only [if_neg hb]
        exact ih (q - 1) (r + yn1) (by omega) (by omega) (by omega) (by omega) (by rw [Int.sub_mul,Int.one_mul];omega) t2 (by omega)
    refine Ev.step (fun k=>by rw [bits_Div64.l0]) ?_
    by_cases hB : q ≥ 4294967296
    · simp only [if_pos hB];exact hj1 (.inl hB)
    · simp only [if_neg hB]
      have hm0 : 0≤q * yn0:=Int.mul_nonneg hq h0
      have hm1 : q * yn0≤4294967295 * 4294967295:=Int.mul_le_mul (by omega) (by omega) h0 (by omega)
      rw [u64 (x:=q * yn0) (by omega),u64 (x:=4294967296 * r) (by omega),u64 (x:=4294967296 * r + u1) (by omega)]
      by_cases ht : q * yn0 > 4294967296 * r + u1
      · rw [decide_eq_true ht];exact hj1 (.inr ht)
      · rw [decide_eq_false ht]
        refine Ev.step (fun k=>by rw [bits_Div64.j1]) ?_
        simp only [Bool.false_eq_true,if_false]
        have:=hF (by omega)
        rw [← this] at hres
        exact hres
/-- the second one: the lower half, and what is left -/
theorem div_l1 {Y yn1 yn0 u u0 : Int} (s : Nat) (q1 : Int) (hs : s≤64) (hq1 : 0≤q1) (hq1' : q1 < 4294967296) (hY : Y = yn1 * 4294967296 + yn0) (hY' : Y < 18446744073709551616) (h1 : 0 < yn1) (h1' : yn1 < 4294967296) (h0 : 0≤yn0) (h0' : yn0 < 4294967296) (hu0 : 0≤u) (hu : u < Y) (hu1 : 0≤u0) (hu1' : u0 < 4294967296) (d : Nat) :
    ∀ (q r : Int),0≤r→r < 4294967296→0≤q→q < 18446744073709551616→q * yn1 + r = u→(u * 4294967296 + u0) / Y≤q→4294967296 - r≤d→Ev (fun k=>bits_Div64.l1 k Y s yn1 yn0 u0 q1 r u q) (q1 * 4294967296 + (u * 4294967296 + u0) / Y,(u * 4294967296 + u0) % Y / 2 ^ s):=by
  have hYp : 0 < Y:=by omega
  have hQ0 : 0≤(u * 4294967296 + u0) / Y:=Int.ediv_nonneg (by omega) (by omega)
  have hQB : (u * 4294967296 + u0) / Y < 4294967296:=by rw [Int.ediv_lt_iff_lt_mul hYp];omega
  have hm0:=Int.emod_nonneg (u * 4294967296 + u0) (show Y ≠ 0 by omega)
  have hm1:=Int.emod_lt_of_pos (u * 4294967296 + u0) hYp
  have hme:=Int.mul_ediv_add_emod (u * 4294967296 + u0) Y
  have hout : ∀ q,q = (u * 4294967296 + u0) / Y→(IntKind.u64.wrap ((IntKind.u64.wrap (q1 * 4294967296)) + q),shr .u64 (IntKind.u64.wrap ((IntKind.u64.wrap ((IntKind.u64.wrap (u * 4294967296)) + u0)) - (IntKind.u64.wrap (q * Y)))) s) = (q1 * 4294967296 + (u * 4294967296 + u0) / Y,(u * 4294967296 + u0) % Y / 2 ^ s):=by
    intro q hq
    have hqY : q * Y = u * 4294967296 + u0 - (u * 4294967296 + u0) % Y:=by rw [hq,Int.mul_comm];omega
    generalize (u * 4294967296 + u0) % Y = R at *
    generalize (u * 4294967296 + u0) / Y = Q at *
    generalize q * Y = P at *
    have e : IntKind.u64.wrap ((IntKind.u64.wrap ((IntKind.u64.wrap (u * 4294967296)) + u0)) - (IntKind.u64.wrap P)) = R:=by
      simp only [IntKind.wrap_u64];omega
    rw [e,u64 (x:=q1 * 4294967296) (by omega),u64 (by omega),hq]
    unfold shr
    rw [show min ((s : Int)).toNat (IntKind.bits .u64) = s by rw [Int.toNat_natCast];simp [IntKind.bits];omega]
  induction d with
  | zero=>intro q r hr hr' hq hq' he hc hd;omega
  | succ d ih =>
    intro q r hr hr' hq hq' he hc hd
    obtain ⟨hT,hF⟩:=knuth_round hY h1 h1' h0 h0' hu0 hu hu1 hu1' hr hr' hq he hc
    have hj1 : (q ≥ 4294967296 ∨ q * yn0 > 4294967296 * r + u0)→Ev (fun k=>bits_Div64.j4 k Y s yn1 yn0 u0 q1 r u q true) (q1 * 4294967296 + (u * 4294967296 + u0) / Y,(u * 4294967296 + u0) % Y / 2 ^ s):=by
      intro h
      obtain ⟨t1,t2,t3⟩:=hT h
      refine Ev.step (fun k=>by rw [bits_Div64.j4]) ?_
      rw [u64 (x:=r + yn1) (by omega),u64 (x:=q - 1) (by omega)]
      simp only [if_true]
      by_cases hb : r + yn1 ≥ 4294967296
      · simp only [if_pos hb,if_pos (show (0 : Int)≤s by omega)]
        rw [hout (q - 1) (t3 hb)];exact Ev.now _
      · simp only [if_neg hb]
        exact ih (q - 1) (r + yn1) (by omega) (by omega) (by omega) (by omega) (by rw [Int.sub_mul,Int.one_mul];omega) t2 (by omega)
    refine Ev.step (fun k=>by rw [bits_Div64.l1]) ?_
    by_cases hB : q ≥ 4294967296
    · simp only [if_pos hB];exact hj1 (.inl hB)
    · simp only [if_neg hB]
      have hm0 : 0≤q * yn0:=Int.mul_nonneg hq h0
      have hm1 : q * yn0≤4294967295 * 4294967295:=Int.mul_le_mul (by omega) (by omega) h0 (by omega)
      rw [u64 (x:=q * yn0) (by omega),u64 (x:=4294967296 * r) (by omega),u64 (x:=4294967296 * r + u0) (by omega)]
      by_cases ht : q * yn0 > 4294967296 * r + u0
      · rw [decide_eq_true ht];exact hj1 (.inr ht)
      · rw [decide_eq_false ht]
        refine Ev.step (fun k=>by rw [bits_Div64.j4]) ?_
        simp only [Bool.false_eq_true,if_false,if_pos (show (0 : Int)≤s by omega)]
        rw [hout q (hF (by omega))];exact Ev.now _
theorem rhat_start {u yn1 : Int} (h1 : 0 < yn1) (hu : 0≤u) : 0≤u / yn1∧u / yn1≤u∧0≤u % yn1∧u % yn1 < yn1∧u / yn1 * yn1 + u % yn1 = u:=by
  refine ⟨Int.ediv_nonneg hu (by omega),Int.ediv_le_self _ hu,Int.emod_nonneg _ (by omega),Int.emod_lt_of_pos _ h1,?_⟩
  have:=Int.mul_ediv_add_emod u yn1
  rw [Int.mul_comm] at this;exact this
theorem guess_ge {Y yn1 yn0 u u1 : Int} (hY : Y = yn1 * 4294967296 + yn0) (h1 : 0 < yn1) (h0 : 0≤yn0) (hu : 0≤u) (hu1 : 0≤u1) (hu1' : u1 < 4294967296) : (u * 4294967296 + u1) / Y≤u / yn1:=by
  have hYp : 0 < Y:=by omega
  have hQ0 : 0≤(u * 4294967296 + u1) / Y:=Int.ediv_nonneg (by omega) (by omega)
  rw [Int.le_ediv_iff_mul_le h1]
  have hQm : (u * 4294967296 + u1) / Y * Y≤u * 4294967296 + u1:=Int.ediv_mul_le _ (by omega)
  generalize (u * 4294967296 + u1) / Y = Q at *
  rw [hY,Int.mul_add,← Int.mul_assoc] at hQm
  have : 0≤Q * yn0:=Int.mul_nonneg hQ0 h0
  omega
theorem div_j2 {Y yn1 yn0 u u1 u0 : Int} (s : Nat) (hs : s≤64) (hY : Y = yn1 * 4294967296 + yn0) (hY' : Y < 18446744073709551616) (h1 : 0 < yn1) (h1' : yn1 < 4294967296) (h0 : 0≤yn0) (h0' : yn0 < 4294967296) (hu0 : 0≤u) (hu : u < Y) (hu1 : 0≤u1) (hu1' : u1 < 4294967296) (h00 : 0≤u0) (h00' : u0 < 4294967296) :
    Ev (fun k=>bits_Div64.j2 k Y s yn1 yn0 u u1 u0 ((u * 4294967296 + u1) / Y)) ((u * 4294967296 + u1) / Y * 4294967296 + ((u * 4294967296 + u1) % Y * 4294967296 + u0) / Y,((u * 4294967296 + u1) % Y * 4294967296 + u0) % Y / 2 ^ s):=by
  have hYp : 0 < Y:=by omega
  have hQ0 : 0≤(u * 4294967296 + u1) / Y:=Int.ediv_nonneg (by omega) (by omega)
  have hQB : (u * 4294967296 + u1) / Y < 4294967296:=by rw [Int.ediv_lt_iff_lt_mul hYp];omega
  have hm0:=Int.emod_nonneg (u * 4294967296 + u1) (show Y ≠ 0 by omega)
  have hm1:=Int.emod_lt_of_pos (u * 4294967296 + u1) hYp
  have hme:=Int.mul_ediv_add_emod (u * 4294967296 + u1) Y
  refine Ev.step (fun k=>by rw [bits_Div64.j2]) ?_
  have hqY : (u * 4294967296 + u1) / Y * Y = u * 4294967296 + u1 - (u * 4294967296 + u1) % Y:=by rw [Int.mul_comm];omega
  generalize hR : (u * 4294967296 + u1) % Y = R at *
  have e : IntKind.u64.wrap ((IntKind.u64.wrap ((IntKind.u64.wrap (u * 4294967296)) + u1)) - (IntKind.u64.wrap ((u * 4294967296 + u1) / Y * Y))) = R:=by
    rw [hqY];simp only [IntKind.wrap_u64];omega
  simp only [e,if_neg (show ¬ yn1 = 0 by omega)]
  obtain ⟨s1,s2,s3,s4,s5⟩:=rhat_start h1 hm0
  have hqm : R / yn1 * yn1≤R:=Int.ediv_mul_le _ (by omega)
  have hqn : 0≤R / yn1 * yn1:=Int.mul_nonneg s1 (by omega)
  rw [Int.tdiv_eq_ediv_of_nonneg hm0,u64 (x:=R / yn1) (by omega),u64 (x:=R / yn1 * yn1) (by omega),show R - R / yn1 * yn1 = R % yn1 by omega,u64 (x:=R % yn1) (by omega)]
  exact div_l1 s _ hs hQ0 hQB hY hY' h1 h1' h0 h0' hm0 hm1 h00 h00' 4294967296 (R / yn1) (R % yn1) s3 (by omega) s1 (by omega) s5 (guess_ge hY h1 h0 hm0 h00 h00') (by omega)
theorem pow_cast (n : Nat) : ((2 ^ n : Nat) : Int) = (2 : Int) ^ n:=by rw [Int.natCast_pow];rfl
/-- the division of 128 bits by 64, where the quotient is below 2^64 -/
theorem div64_ev (hi lo y : Int) (hhi : 0≤hi) (hlo : 0≤lo∧lo < 18446744073709551616) (hy : 0 < y∧y < 18446744073709551616) (hlt : hi < y) :
    Ev (fun k=>bits_Div64.f k hi lo y) ((hi * 18446744073709551616 + lo) / y,(hi * 18446744073709551616 + lo) % y):=by
  unfold bits_Div64.f
  simp only [if_neg (show ¬ y = 0 by omega),if_neg (show ¬ y≤hi by omega)]
  by_cases h0 : hi = 0
  · subst h0
    simp only [if_true,Int.zero_mul,Int.zero_add,Int.tdiv_eq_ediv_of_nonneg hlo.1,Int.tmod_eq_emod_of_nonneg hlo.1]
    have:=Int.ediv_nonneg hlo.1 (show 0≤y by omega)
    have:=Int.ediv_le_self y hlo.1
    rw [u64 (by omega)]
    exact Ev.now _
  · simp only [if_neg h0]
    obtain ⟨n,rfl⟩ : ∃ n : Nat,y = n:=⟨y.toNat,by omega⟩
    have hb:=bitLen_spec n (by omega)
    have hLZ : bits_LeadingZeros64.f (n : Int) = some ((64 - Lib.bitLen n : Nat) : Int):=by
      unfold bits_LeadingZeros64.f bits_Len64.f
      rw [if_pos (by omega),if_pos (by omega),Option.bind_some,Int.toNat_natCast,w64 (by omega)]
      congr 1;omega
    rw [hLZ]
    simp only [Option.bind_some]
    have hL1 : 1≤Lib.bitLen n:=by
      rcases Nat.eq_zero_or_pos (Lib.bitLen n) with z|z
      · rw [z] at hb;simp at hb;omega
      · exact z
    generalize hs : 64 - Lib.bitLen n = s at *
    have hs63 : s≤63:=by omega
    have hL : Lib.bitLen n = 64 - s:=by omega
    rw [hL] at hb
    have hpow : 2 ^ (64 - s) * 2 ^ s = 18446744073709551616:=by rw [← Nat.pow_add,show 64 - s + s = 64 by omega]
    have hsp : 0 < 2 ^ s:=Nat.pow_pos (by omega)
    have hY1 : n * 2 ^ s < 18446744073709551616:=by rw [← hpow];exact Nat.mul_lt_mul_of_pos_right hb.1 hsp
    have hY2 : 18446744073709551616≤2 * (n * 2 ^ s):=by
      rw [← hpow,← Nat.mul_assoc];exact Nat.mul_le_mul_right _ (hb.2.1 (by omega))
    obtain ⟨m,rfl⟩ : ∃ m : Nat,hi = m:=⟨hi.toNat,by omega⟩
    obtain ⟨l,rfl⟩ : ∃ l : Nat,lo = l:=⟨lo.toNat,by omega⟩
    have hml : l / 2 ^ (64 - s) < 2 ^ s:=by
      rw [Nat.div_lt_iff_lt_mul (Nat.pow_pos (by omega)),Nat.mul_comm,hpow];omega
    have hmn : m * 2 ^ s + 2 ^ s≤n * 2 ^ s:=by
      have:=Nat.mul_le_mul_right (2 ^ s) (show m + 1≤n by omega)
      rw [Nat.add_mul,Nat.one_mul] at this;exact this
    have w1 : IntKind.u64.wrap ((s : Nat) : Int) = (s : Int):=u64 (by omega)
    have w2 : IntKind.u64.wrap (64 - (s : Int)) = ((64 - s : Nat) : Int):=by rw [u64 (by omega)];omega
    have hsh : ∀ (x j : Nat),j≤64→shl .u64 (x : Int) (j : Int) = ((x * 2 ^ j % 18446744073709551616 : Nat) : Int):=by
      intro x j hj
      unfold shl
      rw [show min ((j : Int)).toNat (IntKind.bits .u64) = j by rw [Int.toNat_natCast];simp [IntKind.bits];omega,IntKind.wrap_u64,← pow_cast,← Int.natCast_mul]
      omega
    have hsr : ∀ (x j : Nat),j≤64→shr .u64 (x : Int) (j : Int) = ((x / 2 ^ j : Nat) : Int):=by
      intro x j hj
      unfold shr
      rw [show min ((j : Int)).toNat (IntKind.bits .u64) = j by rw [Int.toNat_natCast];simp [IntKind.bits];omega,← pow_cast,← Int.natCast_ediv]
    simp only [w1,w2,if_pos (show (0 : Int)≤(s : Int) by omega),if_pos (show (0 : Int)≤((64 - s : Nat) : Int) by omega),hsh n s (by omega),hsh m s (by omega),hsh l s (by omega),hsr l (64 - s) (by omega)]
    rw [Nat.mod_eq_of_lt hY1,Nat.mod_eq_of_lt (show m * 2 ^ s < 18446744073709551616 by omega)]
    -- the numbers
    have hor : Go.bits .or .u64 ((m * 2 ^ s : Nat) : Int) ((l / 2 ^ (64 - s) : Nat) : Int) = ((m * 2 ^ s + l / 2 ^ (64 - s) : Nat) : Int):=by
      rw [Int.natCast_mul,pow_cast,or_add _ _ s (by omega) ⟨Int.natCast_nonneg _,by rw [← pow_cast];exact_mod_cast hml⟩ (by rw [← pow_cast,← Int.natCast_mul];omega)]
      rw [Int.natCast_add,Int.natCast_mul,pow_cast]
    rw [hor]
    have hl2 : l * 2 ^ s % 18446744073709551616 < 18446744073709551616:=Nat.mod_lt _ (by omega)
    have hlsplit : l * 2 ^ s = (l / 2 ^ (64 - s)) * 18446744073709551616 + l * 2 ^ s % 18446744073709551616:=by
      have e1:=Nat.div_add_mod (l * 2 ^ s) 18446744073709551616
      have e2 : l * 2 ^ s / 18446744073709551616 = l / 2 ^ (64 - s):=by
        rw [← hpow,Nat.mul_comm (2 ^ (64 - s)),Nat.mul_comm l,Nat.mul_div_mul_left _ _ hsp]
      rw [e2] at e1;omega
    have hW : (m * 18446744073709551616 + l) * 2 ^ s = (m * 2 ^ s + l / 2 ^ (64 - s)) * 18446744073709551616 + l * 2 ^ s % 18446744073709551616:=by
      rw [Nat.add_mul,Nat.mul_right_comm];omega
    have hgoal : (((m : Int) * 18446744073709551616 + l) / (n : Int),((m : Int) * 18446744073709551616 + l) % (n : Int)) = ((((m * 18446744073709551616 + l) * 2 ^ s / (n * 2 ^ s) : Nat) : Int),(((m * 18446744073709551616 + l) * 2 ^ s % (n * 2 ^ s) / 2 ^ s : Nat) : Int)):=by
      rw [Nat.mul_div_mul_right _ _ hsp,Nat.mul_mod_mul_right,Nat.mul_div_cancel _ hsp]
      rw [Int.natCast_ediv,Int.natCast_emod,Int.natCast_add,Int.natCast_mul]
      rfl
    rw [hgoal,hW]
    generalize hYg : n * 2 ^ s = Y at *
    generalize hUg : m * 2 ^ s + l / 2 ^ (64 - s) = U at *
    generalize hug : l * 2 ^ s % 18446744073709551616 = u at *
    have hU : U < Y:=by omega
    clear hsh hsr hor hgoal hW hlsplit hmn hml hLZ hlt h0 hy hlo hhi
    rw [and32 _ (by omega),and32 _ (by omega)]
    simp only [if_neg (show ¬ ((Y : Int) / 4294967296 = 0) by omega)]
    have hy1 : (0 : Int) < (Y : Int) / 4294967296:=by omega
    have hy1' : (Y : Int) / 4294967296 < 4294967296:=by omega
    obtain ⟨s1,s2,s3,s4,s5⟩:=rhat_start hy1 (show (0 : Int)≤(U : Int) by omega)
    have hqm : (U : Int) / ((Y : Int) / 4294967296) * ((Y : Int) / 4294967296)≤U:=Int.ediv_mul_le _ (by omega)
    have hqn : 0≤(U : Int) / ((Y : Int) / 4294967296) * ((Y : Int) / 4294967296):=Int.mul_nonneg s1 (by omega)
    rw [Int.tdiv_eq_ediv_of_nonneg (show (0 : Int)≤(U : Int) by omega),u64 (x:=(U : Int) / ((Y : Int) / 4294967296)) (by omega),u64 (x:=(U : Int) / ((Y : Int) / 4294967296) * ((Y : Int) / 4294967296)) (by omega),show (U : Int) - (U : Int) / ((Y : Int) / 4294967296) * ((Y : Int) / 4294967296) = (U : Int) % ((Y : Int) / 4294967296) by omega,u64 (x:=(U : Int) % ((Y : Int) / 4294967296)) (by omega)]
    have hYe : (Y : Int) = (Y : Int) / 4294967296 * 4294967296 + (Y : Int) % 4294967296:=by omega
    have hj2:=div_j2 (Y:=(Y : Int)) (yn1:=(Y : Int) / 4294967296) (yn0:=(Y : Int) % 4294967296) (u:=(U : Int)) (u1:=(u : Int) / 4294967296) (u0:=(u : Int) % 4294967296) s (by omega) hYe (by omega) hy1 hy1' (by omega) (by omega) (by omega) (by omega) (by omega) (by omega) (by omega) (by omega)
    have hres : ((U : Int) * 4294967296 + (u : Int) / 4294967296) / Y * 4294967296 + (((U : Int) * 4294967296 + (u : Int) / 4294967296) % Y * 4294967296 + (u : Int) % 4294967296) / Y = (((U * 18446744073709551616 + u) / Y : Nat) : Int)∧(((U : Int) * 4294967296 + (u : Int) / 4294967296) % Y * 4294967296 + (u : Int) % 4294967296) % Y = (((U * 18446744073709551616 + u) % Y : Nat) : Int):=by
      have hYp : (0 : Int) < (Y : Int):=by omega
      generalize hN : (U : Int) * 4294967296 + (u : Int) / 4294967296 = N
      have e1:=Int.mul_ediv_add_emod N (Y : Int)
      have eT : ((U * 18446744073709551616 + u : Nat) : Int) = (N % Y * 4294967296 + (u : Int) % 4294967296) + (Y : Int) * (N / Y * 4294967296):=by
        rw [← Int.mul_assoc];omega
      rw [Int.natCast_ediv,Int.natCast_emod,eT,Int.add_mul_ediv_left _ _ (by omega),Int.add_mul_emod_self_left]
      exact ⟨by omega,rfl⟩
    rw [hres.1,hres.2,← pow_cast,← Int.natCast_ediv] at hj2
    exact div_l0 s _ hYe (by omega) hy1 hy1' (by omega) (by omega) (by omega) (by omega) (by omega) (by omega) _ hj2 4294967296 _ _ s3 (by omega) s1 (by omega) s5 (guess_ge hYe hy1 (by omega) (by omega) (by omega) (by omega)) (by omega)
/-- a product, divided -/
theorem muldiv_ev (a b c : Int) (ha : fits a) (hb : fits b) (hc : fits c) :
    Ev (fun k=>num_MulDiv.f k a b c) (if a < 0 ∨ b < 0 ∨ c < 1 then (0,2) else if fits (a * b / c) then (a * b / c,0) else (0,10)):=by
  unfold fits at ha hb hc
  unfold num_MulDiv.f
  have hno : Ev (fun k=>num_MulDiv.j0 k a b c true) (0,2):=by
    refine Ev.step (fun k=>by rw [num_MulDiv.j0]) ?_
    simp only [if_true];exact Ev.now _
  by_cases h1 : a < 0
  · simp only [if_pos h1,if_pos (show a < 0 ∨ b < 0 ∨ c < 1 from .inl h1)];exact hno
  · simp only [if_neg h1]
    by_cases h2 : b < 0
    · simp only [if_pos h2,if_pos (show a < 0 ∨ b < 0 ∨ c < 1 from .inr (.inl h2))];exact hno
    · simp only [if_neg h2]
      by_cases h3 : c < 1
      · rw [decide_eq_true h3,if_pos (show a < 0 ∨ b < 0 ∨ c < 1 from .inr (.inr h3))];exact hno
      · rw [decide_eq_false h3,if_neg (show ¬ (a < 0 ∨ b < 0 ∨ c < 1) by omega)]
        refine Ev.step (fun k=>by rw [num_MulDiv.j0]) ?_
        rw [u64 (x:=a) (by omega),u64 (x:=b) (by omega),u64 (x:=c) (by omega),mul64_f _ _ (by omega) (by omega)]
        simp only [Bool.false_eq_true,if_false,Option.bind_some]
        have hab : 0≤a * b:=Int.mul_nonneg (by omega) (by omega)
        have hcp : 0 < c:=by omega
        by_cases h4 : a * b / 18446744073709551616 ≥ c
        · simp only [if_pos h4]
          have h5 : 18446744073709551616≤a * b / c:=by
            rw [Int.le_ediv_iff_mul_le hcp]
            omega
          rw [if_neg (show ¬ fits (a * b / c) by unfold fits;omega)]
          exact Ev.now _
        · simp only [if_neg h4]
          have hd:=div64_ev (a * b / 18446744073709551616) (a * b % 18446744073709551616) c (by omega) (by omega) (by omega) (by omega)
          rw [show a * b / 18446744073709551616 * 18446744073709551616 + a * b % 18446744073709551616 = a * b by omega] at hd
          refine Ev.bind hd ?_
          have hq:=Int.ediv_nonneg hab (show 0≤c by omega)
          by_cases h5 : a * b / c > 9223372036854775807
          · simp only [if_pos h5,if_neg (show ¬ fits (a * b / c) by unfold fits;omega)];exact Ev.now _
          · simp only [if_neg h5,if_pos (show fits (a * b / c) by unfold fits;omega)]
            rw [w64 (by omega)];exact Ev.now _
end Go.Proofs.YtakdneopmojjdaaDoor.NumM
