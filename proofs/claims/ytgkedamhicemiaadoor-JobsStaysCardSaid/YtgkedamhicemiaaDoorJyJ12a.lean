/- cut to what one law reaches -/
import Derived.Test.YtgkedamhicemiaaDoorJyJ11
namespace Go.Proofs.YtgkedamhicemiaaDoor.P
open Go.RowKit Go.Proofs.YtgkedamhicemiaaDoorW.PrintWords Go.Proofs.YtgkedamhicemiaaDoorW.PrintLast Go.Proofs.YtgkedamhicemiaaDoorW.PrintMore
attribute [local go_sem] max2_int min2_int max_two min_two max_three min_three max_four min_four
set_option linter.unusedVariables false
set_option linter.unusedSimpArgs false
attribute [local go_sem] isSome_setCell
theorem C_zero {α : Type} (d : Kd α) (w : World) (A : Option Addr) : Kd.C d w A 0 [] := ⟨rfl, by omega, fun h => absurd h (Nat.lt_irrefl 0)⟩
def nmMain : ByteArray := ⟨#[109, 97, 105, 110]⟩
def nmGpu : ByteArray := ⟨#[103, 112, 117]⟩
def nmNormal : ByteArray := ⟨#[110, 111, 114, 109, 97, 108]⟩
def nmHigh : ByteArray := ⟨#[104, 105, 103, 104]⟩
def nmAnn : ByteArray := ⟨#[97, 110, 110]⟩
/-- the laws' own spec: its partition, its class, its size, its limit, its array -/
def spc (pt qos : ByteArray) (size limit : Int) (l : List Int) : S41 := ⟨⟨#[106]⟩, nmAnn, pt, qos, size, limit, ⟨l, 0⟩, ⟨false, []⟩, 0, 0, false, false, ⟨#[]⟩⟩
theorem spc_good (gpu high : Bool) (size limit : Int) (h1 : 1 ≤ size) (h2 : size ≤ 1024) (h3 : 1 ≤ limit) (h4 : limit ≤ 1073741824) (l : List Int) (hl : l = [] ∨ l = [0, 1]) : GoodS (spc (if gpu = true then nmGpu else nmMain) (if high = true then nmHigh else nmNormal) size limit l) :=
  ⟨rfl, rfl, by cases gpu; exact Or.inl rfl; exact Or.inr rfl, by cases high; exact Or.inl rfl; exact Or.inr rfl, h1, h2, h3, h4, hl, rfl, rfl, rfl, rfl, rfl, rfl⟩
theorem spc_sz (pt qos : ByteArray) (size limit : Int) (l : List Int) (hp : pt.size ≤ 10) (hq : qos.size ≤ 10) (hl : l.length < 17592186044416) : szS (spc pt qos size limit l) :=
  ⟨by show (1 : Nat) ≤ _; omega, by show (3 : Nat) ≤ _; omega, by show pt.size ≤ _; omega, by show qos.size ≤ _; omega, hl, by show (0 : Nat) < _; omega, fun n h => (List.not_mem_nil h).elim, by show (0 : Nat) ≤ _; omega⟩
theorem fx2 {a b nm : ByteArray} {r : Int} (h : Fx [a, b] nm r) (hab : a ≠ b) : (nm = a → r = 0) ∧ (nm = b → r = 1) := by
  rcases h with ⟨rfl, h⟩ | ⟨i, rfl, hi, he⟩
  · exact ⟨fun e => absurd e.symm (h a (by simp)), fun e => absurd e.symm (h b (by simp))⟩
  · have hi2 : i = 0 ∨ i = 1 := by simp at hi; omega
    rcases hi2 with rfl | rfl
    · exact ⟨fun _ => rfl, fun e => absurd (he.trans e) hab⟩
    · exact ⟨fun e => absurd (he.trans e).symm hab, fun _ => rfl⟩
def maxL (gpu : Bool) : Int := if gpu = true then 50 else 100
def maxO (gpu : Bool) : Int := if gpu = true then 1 else 3
def room (high : Bool) : Int := if high = true then 2 else 8
/-- what admits says to the laws' own specs -/
theorem adm_sm {rq : Int} {x : Cg} (hX : SmX rq x) {gpu high : Bool} {size limit : Int} {l : List Int} {now n : Int} {L : List S58} {p q : Int}
    (h : AdmR x (spc (if gpu = true then nmGpu else nmMain) (if high = true then nmHigh else nmNormal) size limit l) now n L p q) (hn0 : 0 ≤ now) (hn1 : now ≤ 1099511627776) :
    (p, q) = if maxO gpu < upO size then (0, 2) else if maxL gpu < limit then (0, 3) else if 500 < (L.length : Int) + n ∨ room high < aboutP (if high = true then nmHigh else nmNormal) L + n then (0, 5) else (if gpu = true then 1 else 0, 0) := by
  obtain ⟨pr, cr, ac, hp, hc, ha, h⟩ := h
  obtain ⟨_, eP, eQ, eA⟩ := hX
  rw [eP] at hp
  rw [eQ] at hc
  rw [eA] at ha
  have hpr : pr = if gpu = true then 1 else 0 := by
    have h2 := fx2 (a := nmMain) (b := nmGpu) hp (by decide +kernel)
    cases gpu
    · exact h2.1 rfl
    · exact h2.2 rfl
  have hcr : cr = if high = true then 1 else 0 := by
    have h2 := fx2 (a := nmNormal) (b := nmHigh) hc (by decide +kernel)
    cases high
    · exact h2.1 rfl
    · exact h2.2 rfl
  have hac : ac = true := ha.2 (List.mem_cons_of_mem _ (List.mem_cons_self ..))
  subst hpr
  subst hcr
  subst hac
  rw [h, admE, eP, eQ]
  have b1 : ¬ (now < 0 ∨ 1099511627776 < now) := by omega
  cases gpu <;> cases high <;> simp [b1, smP, smQ, rd_T85, rd_T87, maxO, maxL, room, spc]
theorem Tb_only {W w1 : World} {B t : Nat} {M : Nat → Prop} {x : Cg} {L : List S58} {g : Nat} (h : Only g W w1) (c : Tb W B M t x L) (hn : ∀ k, M k → k ≠ g) : Tb w1 B M t x L := by
  obtain ⟨Aj, cj, c⟩ := c
  exact ⟨Aj, cj, Tab.keep c (fun k hk _ => h.block k (hn k hk))⟩
end Go.Proofs.YtgkedamhicemiaaDoor.P
