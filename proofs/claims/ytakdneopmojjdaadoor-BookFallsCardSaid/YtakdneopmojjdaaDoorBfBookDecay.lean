/- cut to what one law reaches -/
import Derived.Test.YtakdneopmojjdaaDoorBfNumDiv64
import Derived.Test.YtakdneopmojjdaaDoorBfNumSum
import Derived.Test.YtakdneopmojjdaaDoorBfP0
import Derived.Test.YtakdneopmojjdaaDoorBfP7
import Derived.Test.YtakdneopmojjdaaDoorBfP8
import Derived.Test.YtakdneopmojjdaaDoorBfP9
namespace Go.Proofs.YtakdneopmojjdaaDoor.Dcy
open Go.RowKit Go.Proofs.YtakdneopmojjdaaDoorW.PrintWords Go.Proofs.YtakdneopmojjdaaDoorW.PrintLast Go.Proofs.YtakdneopmojjdaaDoorW.PrintMore Go.Proofs.YtakdneopmojjdaaDoor.P Go.Proofs.YtakdneopmojjdaaDoor.NumM
set_option linter.unusedVariables false
set_option linter.unusedSimpArgs false
def tab (i : Int) : Int:=rd [65536,62757,60097,57549,55109,52773,50535,48393,46341,44376,42495,40693,38968,37316,35734,34219] i
theorem tab_fin : ∀ i : Fin 16,34219≤tab (i.val : Int)∧tab (i.val : Int)≤65536:=by decide
theorem tab_fin2 : ∀ i j : Fin 16,i.val≤j.val→tab (j.val : Int)≤tab (i.val : Int):=by decide
theorem tab_bd {i : Int} (h : 0≤i∧i < 16) : 34219≤tab i∧tab i≤65536:=by
  have:=tab_fin ⟨i.toNat,by omega⟩
  rwa [show ((i.toNat : Nat) : Int) = i by omega] at this
theorem tab_mono {i j : Int} (hi : 0≤i) (hij : i≤j) (hj : j < 16) : tab j≤tab i:=by
  have:=tab_fin2 ⟨i.toNat,by omega⟩ ⟨j.toNat,by omega⟩ (by show i.toNat≤j.toNat;omega)
  rwa [show ((i.toNat : Nat) : Int) = i by omega,show ((j.toNat : Nat) : Int) = j by omega] at this
theorem tab_0 : tab 0 = 65536:=by decide
def bad (t h : Int) : Prop:=t < 0 ∨ t > 1099511627776 ∨ h < 1 ∨ h > 1099511627776
instance (t h : Int) : Decidable (bad t h):=inferInstanceAs (Decidable (_ ∨ _ ∨ _ ∨ _))
def step (t h : Int) : Int:=t % h * 16 / h
theorem step_bd {t h : Int} (hb : ¬ bad t h) : 0≤step t h∧step t h < 16:=by
  unfold bad at hb;unfold step
  have h0:=Int.emod_nonneg t (show h ≠ 0 by omega)
  have h1:=Int.emod_lt_of_pos t (show 0 < h by omega)
  exact ⟨Int.ediv_nonneg (by omega) (by omega),Int.ediv_lt_of_lt_mul (by omega) (by omega)⟩
theorem factor_f (t h : Int) : decay_Factor.f t h = some (if bad t h then (0,0,2) else (t / h,tab (step t h),0)):=by
  unfold decay_Factor.f
  by_cases h1 : t < 0
  · rw [if_pos h1,if_pos (show bad t h from .inl h1)]
  · rw [if_neg h1]
    by_cases h2 : t > 1099511627776
    · rw [if_pos h2,if_pos (show bad t h from .inr (.inl h2))]
    · rw [if_neg h2]
      by_cases h3 : h < 1
      · rw [if_pos h3,if_pos (show bad t h from .inr (.inr (.inl h3)))]
      · rw [if_neg h3]
        by_cases h4 : h > 1099511627776
        · rw [if_pos h4,if_pos (show bad t h from .inr (.inr (.inr h4)))]
        · have hb : ¬ bad t h:=by unfold bad;omega
          rw [if_neg h4,if_neg (show ¬ h = 0 by omega),if_neg hb]
          have hs:=step_bd hb
          unfold step at *
          have m0:=Int.emod_nonneg t (show h ≠ 0 by omega)
          have m1:=Int.emod_lt_of_pos t (show 0 < h by omega)
          have q0:=Int.ediv_nonneg (show 0≤t by omega) (show 0≤h by omega)
          have q1:=Int.ediv_le_self h (show 0≤t by omega)
          rw [Int.tmod_eq_emod_of_nonneg (by omega),Int.tdiv_eq_ediv_of_nonneg (show 0≤t by omega),w64 (x:=t % h * 16) (by omega),Int.tdiv_eq_ediv_of_nonneg (show 0≤t % h * 16 by omega),w64 (x:=t / h) (by omega),w64 (x:=t % h * 16 / h) (by omega)]
          have e : decay_steps.f (t % h * 16 / h) = some (tab (t % h * 16 / h)):=by
            unfold decay_steps.f tab;rw [if_pos hs.1,if_pos hs.2]
          rw [e,Option.bind_some]
/-- what n counts for, t ticks later -/
def aft (n t h : Int) : Int:=n / 2 ^ (mn (t / h) 63).toNat * tab (step t h) / 65536
theorem pow_pos (n : Nat) : (0 : Int) < 2 ^ n:=Int.pow_pos (by omega)
theorem after_bd {n t h : Int} (hb : ¬ bad t h) (hn : 0≤n) : 0≤aft n t h∧aft n t h≤n:=by
  unfold aft
  have hN0 : 0≤n / 2 ^ (mn (t / h) 63).toNat:=Int.ediv_nonneg hn (Int.le_of_lt (pow_pos _))
  have hN1 : n / 2 ^ (mn (t / h) 63).toNat≤n:=Int.ediv_le_self _ hn
  have ht:=tab_bd (step_bd hb)
  generalize n / 2 ^ (mn (t / h) 63).toNat = N at *
  generalize tab (step t h) = T at *
  have h1 : 0≤N * T:=Int.mul_nonneg hN0 (by omega)
  have h2 : N * T≤N * 65536:=Int.mul_le_mul_of_nonneg_left ht.2 hN0
  omega
theorem after_no (n t h : Int) (hb : bad t h) : Ev (fun k=>decay_After.f k n t h) (0,2):=by
  unfold decay_After.f
  simp only [factor_f,if_pos hb,Option.bind_some]
  exact Ev.now _
theorem after_ev (n t h : Int) (hn : 0≤n∧n≤9223372036854775807) (hb : ¬ bad t h) : Ev (fun k=>decay_After.f k n t h) (aft n t h,0):=by
  unfold decay_After.f
  have hq : 0≤t / h:=by unfold bad at hb;exact Int.ediv_nonneg (by omega) (by omega)
  have hm : 0≤mn (t / h) 63:=by unfold mn;split <;> omega
  simp only [factor_f,Option.bind_some,if_neg hb,if_true,if_neg (show ¬ n < 0 by omega),if_pos hm]
  have hN0 : 0≤n / 2 ^ (mn (t / h) 63).toNat:=Int.ediv_nonneg hn.1 (Int.le_of_lt (pow_pos _))
  have hN1 : n / 2 ^ (mn (t / h) 63).toNat≤n:=Int.ediv_le_self _ hn.1
  have ht:=tab_bd (step_bd hb)
  have hm:=muldiv_ev (n / 2 ^ (mn (t / h) 63).toNat) (tab (step t h)) 65536 (by unfold fits;omega) (by unfold fits;omega) (by unfold fits;omega)
  have ha:=after_bd hb hn.1
  unfold aft at *
  rw [if_neg (by omega),if_pos (by unfold fits;omega)] at hm
  exact Ev.bind hm (Ev.now _)
def cbad (n at' now more : Int) : Prop:=n < 0 ∨ at' < 0 ∨ at' > now ∨ now > 1099511627776 ∨ more < 0
instance (n a b m : Int) : Decidable (cbad n a b m):=inferInstanceAs (Decidable (_ ∨ _ ∨ _ ∨ _ ∨ _))
theorem sum2_ev (a b : Int) (ha : fits a) (hb : fits b) : Ev (fun k=>num_Sum.f k [a,b]) (cutoff (a + b)):=by
  have h:=sum_ev [a,b] (fun x hx=>by simp at hx;rcases hx with rfl|rfl <;> assumption) (by simp)
  have e : csum [a,b] = cutoff (a + b):=by
    unfold csum
    simp only [List.foldl_cons,List.foldl_nil,Int.zero_add]
    have : cutoff a = a:=by unfold cutoff;unfold fits at ha;rw [if_neg (by omega),if_neg (by omega)]
    rw [this]
  rw [e] at h;exact h
theorem charge_ev (n a now more h : Int) (hn : fits n) (ha : fits a) (hnow : fits now) (hm : fits more) :
    Ev (fun k=>decay_Charge.f k n a now more h) (if cbad n a now more then (0,0,2) else if bad (now - a) h then (0,0,2) else (cutoff (aft n (now - a) h + more),now,0)):=by
  unfold decay_Charge.f
  have hno : Ev (fun k=>decay_Charge.j0 k now more h true n a) (0,0,2):=by
    refine Ev.step (fun k=>by rw [decay_Charge.j0]) ?_
    simp only [if_true];exact Ev.now _
  unfold fits at hn ha hnow hm
  by_cases h1 : n < 0
  · simp only [if_pos h1,if_pos (show cbad n a now more from .inl h1)];exact hno
  · simp only [if_neg h1]
    by_cases h2 : a < 0
    · simp only [if_pos h2,if_pos (show cbad n a now more from .inr (.inl h2))];exact hno
    · simp only [if_neg h2]
      by_cases h3 : a > now
      · simp only [if_pos h3,if_pos (show cbad n a now more from .inr (.inr (.inl h3)))];exact hno
      · simp only [if_neg h3]
        by_cases h4 : now > 1099511627776
        · simp only [if_pos h4,if_pos (show cbad n a now more from .inr (.inr (.inr (.inl h4))))];exact hno
        · simp only [if_neg h4]
          by_cases h5 : more < 0
          · rw [decide_eq_true h5,if_pos (show cbad n a now more from .inr (.inr (.inr (.inr h5))))];exact hno
          · have hc : ¬ cbad n a now more:=by unfold cbad;omega
            rw [decide_eq_false h5,if_neg hc]
            refine Ev.step (fun k=>by rw [decay_Charge.j0]) ?_
            simp only [Bool.false_eq_true,if_false]
            rw [w64 (x:=now - a) (by omega)]
            by_cases hb : bad (now - a) h
            · rw [if_pos hb]
              refine Ev.bind (after_no n _ h hb) ?_
              exact Ev.now _
            · rw [if_neg hb]
              refine Ev.bind (after_ev n _ h (by omega) hb) ?_
              simp only [if_true]
              have hab:=after_bd hb (show 0≤n by omega)
              refine Ev.bind (sum2_ev _ _ (by unfold fits;omega) (by unfold fits;omega)) ?_
              exact Ev.now _
theorem after_cap {n whole : Int} (hn : 0≤n∧n≤9223372036854775807) (hw : 0≤whole) : n / 2 ^ (mn whole 63).toNat = n / 2 ^ whole.toNat:=by
  unfold mn
  by_cases c : 63 < whole
  · rw [if_pos c]
    have h1 : n / 2 ^ (63 : Int).toNat = 0:=Int.ediv_eq_zero_of_lt hn.1 (by show n < 2 ^ 63;omega)
    have h2 : n / 2 ^ whole.toNat = 0:=by
      refine Int.ediv_eq_zero_of_lt hn.1 ?_
      have : 2 ^ 63≤2 ^ whole.toNat:=Nat.pow_le_pow_right (by omega) (show 63≤whole.toNat by omega)
      have h3 : ((2 ^ 63 : Nat) : Int)≤((2 ^ whole.toNat : Nat) : Int):=by exact_mod_cast this
      rw [pow_cast,pow_cast] at h3
      omega
    rw [h1,h2]
  · rw [if_neg c]
theorem pow_split (e e' : Nat) (h : e < e') : (2 : Int) ^ e' = 2 ^ e * (2 * 2 ^ (e' - e - 1)):=by
  rw [← Int.pow_succ',← Int.pow_add,show e + (e' - e - 1 + 1) = e' by omega]
theorem after_mono_t {n t t' h : Int} (hb : ¬ bad t h) (hb' : ¬ bad t' h) (hn : 0≤n∧n≤9223372036854775807) (htt : t≤t') : aft n t' h≤aft n t h:=by
  have hq : 0≤t / h:=by unfold bad at hb;exact Int.ediv_nonneg (by omega) (by omega)
  have hq' : 0≤t' / h:=by unfold bad at hb';exact Int.ediv_nonneg (by omega) (by omega)
  have hh : 0 < h:=by unfold bad at hb;omega
  have hle : t / h≤t' / h:=Int.ediv_le_ediv hh htt
  unfold aft
  rw [after_cap hn hq,after_cap hn hq']
  have ht:=tab_bd (step_bd hb)
  have ht':=tab_bd (step_bd hb')
  by_cases e : t / h = t' / h
  · rw [e]
    have hi : step t h≤step t' h:=by
      unfold step
      have e1:=Int.mul_ediv_add_emod t h
      have e2:=Int.mul_ediv_add_emod t' h
      rw [e] at e1
      exact Int.ediv_le_ediv hh (by omega)
    have hm:=tab_mono (step_bd hb).1 hi (step_bd hb').2
    have hN : 0≤n / 2 ^ (t' / h).toNat:=Int.ediv_nonneg hn.1 (Int.le_of_lt (pow_pos _))
    have h2:=Int.mul_le_mul_of_nonneg_left hm hN
    omega
  · have hlt : (t / h).toNat < (t' / h).toNat:=by omega
    have hN : 0≤n / 2 ^ (t / h).toNat:=Int.ediv_nonneg hn.1 (Int.le_of_lt (pow_pos _))
    have hN' : 0≤n / 2 ^ (t' / h).toNat:=Int.ediv_nonneg hn.1 (Int.le_of_lt (pow_pos _))
    have hhalf : n / 2 ^ (t' / h).toNat≤n / 2 ^ (t / h).toNat / 2:=by
      rw [pow_split _ _ hlt,← Int.ediv_ediv_of_nonneg (Int.le_of_lt (pow_pos _)),← Int.ediv_ediv_of_nonneg (by omega)]
      exact Int.ediv_le_self _ (by omega)
    generalize n / 2 ^ (t / h).toNat = N at *
    generalize n / 2 ^ (t' / h).toNat = N' at *
    have h1:=Int.mul_le_mul_of_nonneg_left ht.1 hN
    have h2:=Int.mul_le_mul_of_nonneg_left ht'.2 hN'
    omega
/-- whole half-lives and what is left -/
theorem after_whole {n w l h : Int} (hh : 1≤h) (hl : 0≤l∧l < h) : aft n (w * h + l) h = n / 2 ^ (mn w 63).toNat * tab (l * 16 / h) / 65536:=by
  unfold aft step
  have e1 : (w * h + l) / h = w:=by
    rw [Int.add_comm,Int.add_mul_ediv_right _ _ (by omega),Int.ediv_eq_zero_of_lt hl.1 hl.2,Int.zero_add]
  have e2 : (w * h + l) % h = l:=by rw [Int.add_comm,Int.add_mul_emod_self_right,Int.emod_eq_of_lt hl.1 hl.2]
  rw [e1,e2]
theorem after_times {n w h : Int} (hh : 1≤h) : aft n (w * h) h = n / 2 ^ (mn w 63).toNat:=by
  have:=after_whole (n:=n) (w:=w) (l:=0) hh (by omega)
  rw [Int.add_zero,Int.zero_mul,Int.zero_ediv,tab_0] at this
  rw [this];omega
theorem after_zero {n h : Int} (hh : 1≤h) : aft n 0 h = n:=by
  have:=after_times (n:=n) (w:=0) hh
  rw [Int.zero_mul] at this
  rw [this];unfold mn;simp
end Go.Proofs.YtakdneopmojjdaaDoor.Dcy
