/- cut to what one law reaches -/
import Derived.WalkKit
import Derived.ProofKit
import Derived.OpenShut
import Derived.ShutString
import Derived.ChangeOld
import Derived.ChangeArms
import Derived.Below
import Derived.SizedLaws
import Derived.Deep.Slices
import Derived.Test.YtgkedamhicemiaaDoorJyP0
namespace Go.Proofs.YtgkedamhicemiaaDoor.OpensZ
open Go.RowKit Go.WideShapes Go.Proofs.YtgkedamhicemiaaDoorW.PrintWords Go.Proofs.YtgkedamhicemiaaDoorW.PrintLast Go.Proofs.YtgkedamhicemiaaDoorW.PrintMore
set_option linter.unusedVariables false
/-- whatever of type t is read as data is of the kind d, and what G says -/
structure Opn (P : Program) (t : TypeId) {α : Type} (d : Kd α) (G : α → Prop) : Prop where
  sz : P.cellsOf t = d.sz
  get : ∀ {H : Type} (enc : TypeId × Value → H) (w : World) (base : Nat) (spare : Nat → Bool) (held : Bool) (fuel : Nat) (cs : List Value) (y : DataW H × List MemPlace),
    DataW.trod enc P w base spare held fuel t cs = some y → (∀ n ∈ y.1.weights P t, n ≤ reachBytes) → ∃ x, d.K w x cs ∧ G x
theorem Opn.int {P : Program} {t : TypeId} {k : IntKind} (h : P.underlying t = some (.int k)) (hc : P.cellsOf t = 1) : Opn P t (Kd.int k) (fun n => (Lit.int k n).wf = true) where
  sz := hc
  get := by
    intro H enc w base spare held fuel cs y ht hw_
    obtain ⟨n, rfl, _, hw⟩ := DataW.trod_int h ht
    exact ⟨n, rfl, hw⟩
theorem Opn.bool {P : Program} {t : TypeId} (h : P.underlying t = some .bool) (hc : P.cellsOf t = 1) : Opn P t Kd.bool (fun _ => True) where
  sz := hc
  get := by
    intro H enc w base spare held fuel cs y ht hw_
    obtain ⟨b, rfl, _⟩ := DataW.trod_bool h ht
    exact ⟨b, rfl, trivial⟩
theorem Opn.string {P : Program} {t : TypeId} (h : P.underlying t = some .string) (hc : P.cellsOf t = 1) : Opn P t Kd.string (fun s => s.size ≤ 140737488351232) where
  sz := hc
  get := by
    intro H enc w base spare held fuel cs y ht hw_
    obtain ⟨s, rfl, rfl, hs⟩ := DataW.trod_string h ht
    exact ⟨s, rfl, hw_ _ (by simp [DataW.weights])⟩
theorem cells_get {w : World} {base n : Nat} {a : Addr} {cs : List Value} (h : w.cells? base a n = some cs) : cs.length = n ∧ ∀ i u, cs[i]? = some u → w.cell? (a.add i) = some u := by
  unfold World.cells? at h
  split at h
  · have hl : cs.length = n := by simpa using mapM_some_length h
    refine ⟨hl, fun i u hu => ?_⟩
    have hi : i < n := by
      rcases Nat.lt_or_ge i cs.length with hi | hi
      · omega
      · rw [List.getElem?_eq_none hi] at hu; cases hu
    have := mapM_some_get h i i (by simp [hi])
    rw [this, hu]
  · cases h
theorem weightsAll_mem {H : Type} {P : Program} {e : TypeId} : ∀ {l : List (DataW H)} {d : DataW H}, d ∈ l → ∀ n ∈ d.weights P e, n ∈ DataW.weightsAll P e l
  | [], _, h, _, _ => absurd h (by simp)
  | _ :: r, d, h, n, hn => by
    rw [DataW.weightsAll, List.mem_append]
    rcases List.mem_cons.mp h with rfl | h
    · exact Or.inl hn
    · exact Or.inr (weightsAll_mem h n hn)
theorem weightsEach_mem {H : Type} {P : Program} : ∀ {ts : List TypeId} {l : List (DataW H)} {i : Nat} {t : TypeId} {d : DataW H}, ts[i]? = some t → l[i]? = some d → ∀ n ∈ d.weights P t, n ∈ DataW.weightsEach P ts l
  | [], _, _, _, _, h, _, _, _ => by simp at h
  | _ :: _, [], _, _, _, _, h, _, _ => by simp at h
  | t' :: ts, d' :: l, 0, t, d, ht, hd, n, hn => by
    simp at ht hd
    subst ht; subst hd
    rw [DataW.weightsEach, List.mem_append]
    exact Or.inl hn
  | t' :: ts, d' :: l, i + 1, t, d, ht, hd, n, hn => by
    rw [DataW.weightsEach, List.mem_append]
    exact Or.inr (weightsEach_mem (i := i) (by simpa using ht) (by simpa using hd) n hn)
theorem Opn.slice {P : Program} {t e : TypeId} {α : Type} {d : Kd α} {G : α → Prop} (h : P.underlying t = some (.slice e)) (hc : P.cellsOf t = 1) (he : Opn P e d G) :
    Opn P t (Kd.slice e d) (fun xs => xs.length * P.bytesOf e ≤ 140737488351232 ∧ ∀ x ∈ xs, G x) where
  sz := hc
  get := by
    intro H enc w base spare held fuel cs y ht hw_
    rcases Deep.open_slice h ht with ⟨rfl, _⟩ | ⟨a, len, cap, m, n, D, Pl, rfl, hb, hl, hm, hme, rfl, hall⟩
    · exact ⟨[], ⟨none, 0, rfl, Nat.le_refl _, rfl, by simp, fun h => absurd h (by simp)⟩, by simp, by simp⟩
    · have hex : ∀ i : Fin len, ∃ x, ∃ c, c.length = d.sz ∧ d.K w x c ∧ G x ∧ ∀ j u, c[j]? = some u → w.cell? (a.add (i * d.sz + j)) = some u := by
        intro i
        obtain ⟨c, hcells, htr⟩ := hall i (by rw [hme]; have := i.2; split <;> omega)
        obtain ⟨x, hK, hG⟩ := he.get enc w base spare held n c _ htr (fun n hn => hw_ n (by
          simp only [DataW.weights, h]
          rw [List.mem_cons, List.mem_append]
          exact Or.inr (Or.inl (weightsAll_mem (List.mem_map.mpr ⟨i.1, by simp, rfl⟩) n hn))))
        obtain ⟨hlen, hg⟩ := cells_get hcells
        rw [he.sz] at hlen hg
        refine ⟨x, c, hlen, hK, hG, fun j u hu => ?_⟩
        rw [← Deep.add_add]
        exact hg j u hu
      have hbytes : (List.ofFn (fun i => Classical.choose (hex i))).length * P.bytesOf e ≤ 140737488351232 := by
        have h1 := hw_ ((((List.range len).map D).length + ((List.range (m - len)).map fun j => D (len + j)).length) * P.bytesOf e) (by simp only [DataW.weights, h]; exact List.mem_cons_self)
        refine Nat.le_trans ?_ h1
        rw [List.length_ofFn, List.length_map, List.length_range]
        exact Nat.mul_le_mul_right _ (Nat.le_add_right _ _)
      refine ⟨List.ofFn (fun i => Classical.choose (hex i)), ⟨some a, cap, by simp, by simpa using hl, by simp, by simp [maxLen] at hm ⊢; omega, fun _ => ⟨a, rfl, fun j p hj => ?_⟩⟩, hbytes, fun x hx => ?_⟩
      · rw [List.getElem?_ofFn] at hj
        split at hj
        · rename_i hlt
          injection hj with hj
          subst hj
          obtain ⟨c, h1, h2, _, h3⟩ := Classical.choose_spec (hex ⟨j, hlt⟩)
          exact ⟨c, h1, h2, h3⟩
        · cases hj
      · obtain ⟨i, rfl⟩ := List.mem_ofFn.mp hx
        obtain ⟨_, _, _, hG, _⟩ := Classical.choose_spec (hex i)
        exact hG
/-- a struct's fields, from a place on -/
structure OpF (P : Program) (fs : List Field) (off : Nat) {α : Type} (d : Kd α) (G : α → Prop) : Prop where
  get : ∀ {H : Type} (enc : TypeId × Value → H) (w : World) (base : Nat) (spare : Nat → Bool) (held : Bool) (n : Nat) (cs : List Value),
    (∀ f ∈ fs, ∃ y, DataW.trod enc P w base spare held n f.type ((cs.drop f.offset).take (P.cellsOf f.type)) = some y ∧ ∀ k ∈ y.1.weights P f.type, k ≤ reachBytes) → cs.length = off + d.sz → ∃ x, d.K w x (cs.drop off) ∧ G x
theorem OpF.one {P : Program} {f : Field} {off : Nat} {α : Type} {d : Kd α} {G : α → Prop} (ho : f.offset = off) (h : Opn P f.type d G) : OpF P [f] off d G := by
  constructor
  intro H enc w base spare held n cs hy hl
  obtain ⟨y, hy, hk⟩ := hy f (by simp)
  rw [ho, h.sz, List.take_of_length_le (by simp; omega)] at hy
  exact h.get enc w base spare held n _ y hy hk
theorem OpF.cons {P : Program} {f : Field} {fs : List Field} {off : Nat} {α β : Type} {d : Kd α} {G : α → Prop} {d' : Kd β} {G' : β → Prop} (ho : f.offset = off) (h : Opn P f.type d G) (hs : OpF P fs (off + d.sz) d' G') :
    OpF P (f :: fs) off (Kd.pair d d') (fun x => G x.1 ∧ G' x.2) := by
  constructor
  intro H enc w base spare held n cs hy hl
  have hl' : cs.length = off + (d.sz + d'.sz) := hl
  obtain ⟨y, hy0, hk0⟩ := hy f (by simp)
  rw [ho, h.sz] at hy0
  obtain ⟨x, hK, hG⟩ := h.get enc w base spare held n _ y hy0 hk0
  obtain ⟨x', hK', hG'⟩ := hs.get enc w base spare held n cs (fun g hg => hy g (by simp [hg])) (by omega)
  exact ⟨(x, x'), ⟨_, _, by rw [← List.drop_drop, List.take_append_drop], hK, hK'⟩, hG, hG'⟩
theorem Opn.struct {P : Program} {t : TypeId} {fs : Array Field} {α : Type} {d : Kd α} {G : α → Prop} (h : P.underlying t = some (.struct fs)) (hc : P.cellsOf t = d.sz) (hs : OpF P fs.toList 0 d G) : Opn P t d G where
  sz := hc
  get := by
    intro H enc w base spare held fuel cs y ht hw_
    obtain ⟨xs, n, _, rfl, hl, hlen, hf⟩ := DataW.trod_struct h ht
    refine hs.get enc w base spare held n cs (fun f hfm => ?_) (by omega)
    obtain ⟨i, hi, rfl⟩ := List.mem_iff_getElem.mp hfm
    have h1 := hf i fs.toList[i] (by simp at hi ⊢)
    have hi2 : i < xs.length := by simp at hi; omega
    rw [h1, List.getElem?_eq_getElem hi2]
    refine ⟨_, rfl, fun k hk => hw_ k ?_⟩
    simp only [DataW.weights, h]
    refine weightsEach_mem (i := i) (t := fs.toList[i].type) (d := xs[i].1) ?_ ?_ k hk
    · rw [List.getElem?_map, List.getElem?_eq_getElem hi]; rfl
    · rw [List.getElem?_map, List.getElem?_eq_getElem hi2]; rfl
theorem Opn.iso {P : Program} {t : TypeId} {α β : Type} {d : Kd α} {G : α → Prop} (f : β → α) (g : α → β) (hfg : ∀ x, f (g x) = x) (h : Opn P t d G) : Opn P t (Kd.iso d f) (fun x => G (f x)) where
  sz := h.sz
  get := by
    intro H enc w base spare held fuel cs y ht hw_
    obtain ⟨x, hK, hG⟩ := h.get enc w base spare held fuel cs y ht hw_
    exact ⟨g x, by show d.K w (f (g x)) cs; rw [hfg]; exact hK, by rw [hfg]; exact hG⟩
theorem Opn.weaken {P : Program} {t : TypeId} {α : Type} {d : Kd α} {G G' : α → Prop} (h : Opn P t d G) (hg : ∀ x, G x → G' x) : Opn P t d G' where
  sz := h.sz
  get := by
    intro H enc w base spare held fuel cs y a b
    obtain ⟨x, k, g⟩ := h.get enc w base spare held fuel cs y a b
    exact ⟨x, k, hg x g⟩
end Go.Proofs.YtgkedamhicemiaaDoor.OpensZ
