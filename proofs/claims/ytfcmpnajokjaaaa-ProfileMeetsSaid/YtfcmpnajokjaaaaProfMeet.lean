/- The lesser of two: both sides. -/
import Derived.Test.YtfcmpnajokjaaaaProfEnds
import Derived.Test.YtfcmpnajokjaaaaProfMore
import Derived.Test.YtfcmpnajokjaaaaP0
import Derived.Test.YtfcmpnajokjaaaaP2
import Derived.Test.YtfcmpnajokjaaaaP5
import Derived.Test.YtfcmpnajokjaaaaP9
import Derived.Test.YtfcmpnajokjaaaaP17
import Derived.Test.YtfcmpnajokjaaaaP18
namespace Go.Proofs.Ytfcmpnajokjaaaa.Prof
open Go.RowKit Go.Proofs.YtfcmpnajokjaaaaW.PrintWords Go.Proofs.YtfcmpnajokjaaaaW.PrintLast Go.Proofs.YtfcmpnajokjaaaaW.PrintMore Go.Proofs.Ytfcmpnajokjaaaa.P
/-- a tick of a list -/
def T (l : List S39) (u : Int) : Prop := ∃ z ∈ l, z.f0 = u
theorem T_nil (u : Int) : T [] u ↔ False := by simp [T]
theorem T_cons (x : S39) (l : List S39) (u : Int) : T (x :: l) u ↔ u = x.f0 ∨ T l u := by
  unfold T
  constructor
  · rintro ⟨z, hz, rfl⟩
    rcases List.mem_cons.1 hz with rfl | hz
    · exact .inl rfl
    · exact .inr ⟨z, hz, rfl⟩
  · rintro (rfl | ⟨z, hz, rfl⟩)
    · exact ⟨x, by simp, rfl⟩
    · exact ⟨z, by simp [hz], rfl⟩
theorem rd_next (p : List S39) (x y : S39) (r : List S39) : rd_T39 (p ++ x :: y :: r) ((p.length + 1 : Nat) : Int) = y := by
  have := rd_mid (p ++ [x]) y r
  rw [List.append_assoc, List.singleton_append] at this
  simpa using this
def MeetIs (a b ra rb : List S39) (t : Int) (s : List S39) : Prop :=
  Rise s ∧ (∀ u, T s u ↔ u = t ∨ T ra u ∨ T rb u) ∧ (∀ z ∈ s, z.f1 = mn (stp a z.f0) (stp b z.f0)) ∧ s.length ≤ 1 + ra.length + rb.length
theorem meet_cons {a b ra rb ra' rb' : List S39} {t t' v : Int} {s : List S39} (hv : v = mn (stp a t) (stp b t)) (h : MeetIs a b ra' rb' t' s) (hT : ∀ u, (u = t' ∨ T ra' u ∨ T rb' u) ↔ (T ra u ∨ T rb u)) (hlt : ∀ u, T ra u ∨ T rb u → t < u) (hn : 1 + ra'.length + rb'.length ≤ ra.length + rb.length) : MeetIs a b ra rb t (⟨t, v⟩ :: s) := by
  obtain ⟨h1, h2, h3, h4⟩ := h
  refine ⟨List.pairwise_cons.2 ⟨fun z hz => hlt z.f0 ((hT z.f0).1 ((h2 z.f0).1 ⟨z, hz, rfl⟩)), h1⟩, fun u => ?_, fun z hz => ?_, by simp; omega⟩
  · rw [T_cons, h2, hT]
  · rcases List.mem_cons.1 hz with rfl | hz
    · exact hv
    · exact h3 z hz
theorem meet_l (a b : List S39) (ha : a.length < 5000) (hb : b.length < 5000) (hra : Rise a) (hrb : Rise b) : ∀ (d : Nat) (pa ra pb rb : List S39) (x y : S39) (t : Int) (out : List S39), ra.length + rb.length = d → pa ++ x :: ra = a → pb ++ y :: rb = b → x.f0 ≤ t → y.f0 ≤ t → (∀ z ∈ ra, t < z.f0) → (∀ z ∈ rb, t < z.f0) → out.length + d < 20000 →
    ∃ s, Ev (fun k => profile_Meet.l0 k a b t ((pa.length : Nat) : Int) ((pb.length : Nat) : Int) out) (cf (out ++ s), 0) ∧ MeetIs a b ra rb t s := by
  intro d
  induction d using Nat.strongRecOn with
  | _ d IH =>
  intro pa ra pb rb x y t out hd ea eb hx hy hza hzb ho
  have hva' : ∀ _ : Unit, mn x.f1 y.f1 = mn (stp a t) (stp b t) := fun _ => by
    have hva : stp a t = x.f1 := by rw [← ea]; exact stp_mid hx hza
    have hvb : stp b t = y.f1 := by rw [← eb]; exact stp_mid hy hzb
    rw [hva, hvb]
  have hla : pa.length + 1 + ra.length = a.length := by rw [← ea]; simp; omega
  have hlb : pb.length + 1 + rb.length = b.length := by rw [← eb]; simp; omega
  have hwa : ∀ _ : Unit, wrap64 (((pa.length : Nat) : Int) + 1) = ((pa.length + 1 : Nat) : Int) := fun _ => by rw [w64 (by omega)]; simp
  have hwb : ∀ _ : Unit, wrap64 (((pb.length : Nat) : Int) + 1) = ((pb.length + 1 : Nat) : Int) := fun _ => by rw [w64 (by omega)]; simp
  have hrda : rd_T39 a ((pa.length : Nat) : Int) = x := by rw [← ea]; exact rd_mid pa x ra
  have hrdb : rd_T39 b ((pb.length : Nat) : Int) = y := by rw [← eb]; exact rd_mid pb y rb
  have hra1 : Rise (x :: ra) := by rw [← ea] at hra; exact (List.pairwise_append.1 hra).2.1
  have hrb1 : Rise (y :: rb) := by rw [← eb] at hrb; exact (List.pairwise_append.1 hrb).2.1
  have hlt : ∀ u, T ra u ∨ T rb u → t < u := by
    rintro u (⟨z, hz, rfl⟩ | ⟨z, hz, rfl⟩)
    · exact hza z hz
    · exact hzb z hz
  have z1 : (0 : Int) ≤ ((pa.length : Nat) : Int) := by omega
  have z2 : (0 : Int) ≤ ((pb.length : Nat) : Int) := by omega
  have z3 : ((pa.length : Nat) : Int) < (a.length : Int) := by omega
  have z4 : ((pb.length : Nat) : Int) < (b.length : Int) := by omega
  have z5 : out.length < 8796093022208 := by omega
  have z6 : (0 : Int) ≤ ((pa.length + 1 : Nat) : Int) := by omega
  have z7 : (0 : Int) ≤ ((pb.length + 1 : Nat) : Int) := by omega
  have z8 : ¬ ((pb.length + 1 : Nat) : Int) = (b.length : Int) → ((pb.length + 1 : Nat) : Int) < (b.length : Int) := by omega
  have start : ∀ (fl : Bool) (v : List S39 × Int),
      ((((pa.length + 1 : Nat) : Int) < (a.length : Int) ∧ ((pb.length + 1 : Nat) : Int) = (b.length : Int) ∧ fl = true) ∨
       (((pa.length + 1 : Nat) : Int) < (a.length : Int) ∧ ¬ ((pb.length + 1 : Nat) : Int) = (b.length : Int) ∧ decide ((rd_T39 a ((pa.length + 1 : Nat) : Int)).f0 < (rd_T39 b ((pb.length + 1 : Nat) : Int)).f0) = fl) ∨
       (¬ ((pa.length + 1 : Nat) : Int) < (a.length : Int) ∧ fl = false)) →
      Ev (fun k => profile_Meet.j2 k a b ((pa.length : Nat) : Int) ((pb.length : Nat) : Int) (out ++ [⟨t, mn x.f1 y.f1⟩]) fl) v → Ev (fun k => profile_Meet.l0 k a b t ((pa.length : Nat) : Int) ((pb.length : Nat) : Int) out) v := by
    intro fl v hc h
    refine Ev.step (fun k => by rw [profile_Meet.l0]) ?_
    simp only [if_pos z1, if_pos z2, if_pos z3, if_pos z4, if_pos z5, hrda, hrdb, hwa (), hwb (), Option.bind_some, if_pos z6, if_pos z7]
    rcases hc with ⟨q1, q2, rfl⟩ | ⟨q1, q2, q3⟩ | ⟨q1, rfl⟩
    · simp only [if_pos q1, if_pos q2]; exact h
    · simp only [if_pos q1, if_neg q2, if_pos (z8 q2), q3]; exact h
    · simp only [if_neg q1]; exact h
  have e1 : (out ++ [(⟨t, mn x.f1 y.f1⟩ : S39)]).length = out.length + 1 := by simp
  cases ra with
  | nil =>
    have q1 : ¬ (((pa.length + 1 : Nat) : Int) < (a.length : Int)) := by simp at hla; omega
    cases rb with
    | nil =>
      have q2 : ¬ (((pb.length + 1 : Nat) : Int) < (b.length : Int)) := by simp at hlb; omega
      refine ⟨[⟨t, mn x.f1 y.f1⟩], start false _ (.inr (.inr ⟨q1, rfl⟩)) ?_, by simp [Rise], fun u => ?_, fun z hz => ?_, by simp⟩
      · refine Ev.step (fun k => by rw [profile_Meet.j2]) ?_
        simp only [Bool.false_eq_true, if_false, hwa (), hwb (), if_neg q2]
        refine Ev.step (fun k => by rw [profile_Meet.j3]) ?_
        simp only [Bool.false_eq_true, if_false, hwa (), if_neg q1, profile_compact.f, Option.bind_some]
        exact Ev.now _
      · rw [T_cons]; simp [T_nil]
      · have : z = ⟨t, mn x.f1 y.f1⟩ := by simpa using hz
        rw [this]; exact hva' ()
    | cons y' rb =>
      have q2 : ((pb.length + 1 : Nat) : Int) < (b.length : Int) := by simp at hlb; omega
      have q3 : ((pa.length + 1 : Nat) : Int) = (a.length : Int) := by simp at hla; omega
      have hrd2 : rd_T39 b ((pb.length + 1 : Nat) : Int) = y' := by rw [← eb]; exact rd_next pb y y' rb
      have hy' := hzb y' (by simp)
      obtain ⟨s, hs1, hs2⟩ := IH (0 + rb.length) (by simp at hd; omega) pa [] (pb ++ [y]) rb x y' y'.f0 (out ++ [⟨t, mn x.f1 y.f1⟩]) (by simp) ea (by rw [← eb]; simp) (by omega) (Int.le_refl _) (by simp) (List.pairwise_cons.1 (List.pairwise_cons.1 hrb1).2).1 (by simp at hd; omega)
      refine ⟨⟨t, mn x.f1 y.f1⟩ :: s, start false _ (.inr (.inr ⟨q1, rfl⟩)) ?_, meet_cons (hva' ()) hs2 (fun u => by rw [T_cons]; simp [T_nil]) hlt (by simp; omega)⟩
      refine Ev.step (fun k => by rw [profile_Meet.j2]) ?_
      simp only [Bool.false_eq_true, if_false, hwa (), hwb (), if_pos q2, if_pos q3]
      refine Ev.step (fun k => by rw [profile_Meet.j3]) ?_
      simp only [if_true, hwb (), show (0 : Int) ≤ ((pb.length + 1 : Nat) : Int) by omega, if_pos q2, hrd2]
      simpa using hs1
  | cons x' ra =>
    have q1 : ((pa.length + 1 : Nat) : Int) < (a.length : Int) := by simp at hla; omega
    have hrd1 : rd_T39 a ((pa.length + 1 : Nat) : Int) = x' := by rw [← ea]; exact rd_next pa x x' ra
    have hx' := hza x' (by simp)
    have hra2 := (List.pairwise_cons.1 (List.pairwise_cons.1 hra1).2).1
    cases rb with
    | nil =>
      have q2 : ((pb.length + 1 : Nat) : Int) = (b.length : Int) := by simp at hlb; omega
      obtain ⟨s, hs1, hs2⟩ := IH (ra.length + 0) (by simp at hd; omega) (pa ++ [x]) ra pb [] x' y x'.f0 (out ++ [⟨t, mn x.f1 y.f1⟩]) (by simp) (by rw [← ea]; simp) eb (Int.le_refl _) (by omega) hra2 (by simp) (by simp at hd; omega)
      refine ⟨⟨t, mn x.f1 y.f1⟩ :: s, start true _ (.inl ⟨q1, q2, rfl⟩) ?_, meet_cons (hva' ()) hs2 (fun u => by rw [T_cons]; simp [T_nil]) hlt (by simp; omega)⟩
      refine Ev.step (fun k => by rw [profile_Meet.j2]) ?_
      simp only [if_true, hwa (), show (0 : Int) ≤ ((pa.length + 1 : Nat) : Int) by omega, if_pos q1, hrd1]
      simpa using hs1
    | cons y' rb =>
      have q2 : ((pb.length + 1 : Nat) : Int) < (b.length : Int) := by simp at hlb; omega
      have hrd2 : rd_T39 b ((pb.length + 1 : Nat) : Int) = y' := by rw [← eb]; exact rd_next pb y y' rb
      have hy' := hzb y' (by simp)
      have hrb2 := (List.pairwise_cons.1 (List.pairwise_cons.1 hrb1).2).1
      have q2n : ¬ ((pb.length + 1 : Nat) : Int) = (b.length : Int) := by omega
      rcases Int.lt_trichotomy x'.f0 y'.f0 with c | c | c
      · obtain ⟨s, hs1, hs2⟩ := IH (ra.length + (y' :: rb).length) (by simp at hd ⊢; omega) (pa ++ [x]) ra pb (y' :: rb) x' y x'.f0 (out ++ [⟨t, mn x.f1 y.f1⟩]) (by simp) (by rw [← ea]; simp) eb (Int.le_refl _) (by omega) hra2 (fun z hz => by have := head_le (List.pairwise_cons.1 hrb1).2 z hz; omega) (by simp at hd ⊢; omega)
        refine ⟨⟨t, mn x.f1 y.f1⟩ :: s, start true _ (.inr (.inl ⟨q1, q2n, by rw [hrd1, hrd2]; exact decide_eq_true c⟩)) ?_, meet_cons (hva' ()) hs2 (fun u => by rw [T_cons, T_cons, or_assoc]) hlt (by simp; omega)⟩
        refine Ev.step (fun k => by rw [profile_Meet.j2]) ?_
        simp only [if_true, hwa (), show (0 : Int) ≤ ((pa.length + 1 : Nat) : Int) by omega, if_pos q1, hrd1]
        simpa using hs1
      · obtain ⟨s, hs1, hs2⟩ := IH (ra.length + rb.length) (by simp at hd; omega) (pa ++ [x]) ra (pb ++ [y]) rb x' y' x'.f0 (out ++ [⟨t, mn x.f1 y.f1⟩]) rfl (by rw [← ea]; simp) (by rw [← eb]; simp) (Int.le_refl _) (by omega) hra2 (fun z hz => by have := hrb2 z hz; omega) (by simp at hd ⊢; omega)
        refine ⟨⟨t, mn x.f1 y.f1⟩ :: s, start false _ (.inr (.inl ⟨q1, q2n, by rw [hrd1, hrd2]; exact decide_eq_false (by omega)⟩)) ?_, meet_cons (hva' ()) hs2 (fun u => by
          rw [T_cons, T_cons]
          constructor
          · rintro (h | h | h)
            · exact .inl (.inl h)
            · exact .inl (.inr h)
            · exact .inr (.inr h)
          · rintro ((h | h) | (h | h))
            · exact .inl h
            · exact .inr (.inl h)
            · exact .inl (h.trans c.symm)
            · exact .inr (.inr h)) hlt (by simp; omega)⟩
        refine Ev.step (fun k => by rw [profile_Meet.j2]) ?_
        simp only [Bool.false_eq_true, if_false, hwa (), hwb (), if_pos q2, if_neg (show ¬ ((pa.length + 1 : Nat) : Int) = (a.length : Int) by omega), show (0 : Int) ≤ ((pa.length + 1 : Nat) : Int) by omega, show (0 : Int) ≤ ((pb.length + 1 : Nat) : Int) by omega, if_true, if_pos q1, hrd1, hrd2, decide_eq_false (show ¬ y'.f0 < x'.f0 by omega)]
        refine Ev.step (fun k => by rw [profile_Meet.j3]) ?_
        simp only [Bool.false_eq_true, if_false, hwa (), hwb (), if_pos q1, show (0 : Int) ≤ ((pa.length + 1 : Nat) : Int) by omega, if_true, hrd1]
        simpa using hs1
      · obtain ⟨s, hs1, hs2⟩ := IH ((x' :: ra).length + rb.length) (by simp at hd ⊢; omega) pa (x' :: ra) (pb ++ [y]) rb x y' y'.f0 (out ++ [⟨t, mn x.f1 y.f1⟩]) rfl ea (by rw [← eb]; simp) (by omega) (Int.le_refl _) (fun z hz => by have := head_le (List.pairwise_cons.1 hra1).2 z hz; omega) hrb2 (by simp at hd ⊢; omega)
        refine ⟨⟨t, mn x.f1 y.f1⟩ :: s, start false _ (.inr (.inl ⟨q1, q2n, by rw [hrd1, hrd2]; exact decide_eq_false (by omega)⟩)) ?_, meet_cons (hva' ()) hs2 (fun u => by
          rw [T_cons, T_cons]
          constructor
          · rintro (h | (h | h) | h)
            · exact .inr (.inl h)
            · exact .inl (.inl h)
            · exact .inl (.inr h)
            · exact .inr (.inr h)
          · rintro ((h | h) | (h | h))
            · exact .inr (.inl (.inl h))
            · exact .inr (.inl (.inr h))
            · exact .inl h
            · exact .inr (.inr h)) hlt (by simp; omega)⟩
        refine Ev.step (fun k => by rw [profile_Meet.j2]) ?_
        simp only [Bool.false_eq_true, if_false, hwa (), hwb (), if_pos q2, if_neg (show ¬ ((pa.length + 1 : Nat) : Int) = (a.length : Int) by omega), show (0 : Int) ≤ ((pa.length + 1 : Nat) : Int) by omega, show (0 : Int) ≤ ((pb.length + 1 : Nat) : Int) by omega, if_true, if_pos q1, hrd1, hrd2, decide_eq_true c]
        refine Ev.step (fun k => by rw [profile_Meet.j3]) ?_
        simp only [if_true, hwb (), show (0 : Int) ≤ ((pb.length + 1 : Nat) : Int) by omega, if_pos q2, hrd2]
        simpa using hs1
theorem rmeet_l (a b : List S39) (ha : a.length < 5000) (hb : b.length < 5000) (hva : Valid a) (hvb : Valid b) (at_ : List Int) (hat : at_.length < 100000) (v : List S39) : ∀ (s p : List Int), p ++ s = at_ → Ev (fun k => gangerref05_of.f k at_ (at_.map (fun u => mn (stp a u) (stp b u)))) v →
    Ev (fun k => gangerref05_Meet.l0 k a b at_ (p.map (fun u => mn (stp a u) (stp b u))) (p.length : Int)) (v, 0)
  | [], p, e, h => by
    rw [List.append_nil] at e
    subst e
    refine Ev.step (fun k => by rw [gangerref05_Meet.l0]) ?_
    simp only [Int.lt_irrefl, if_false]
    exact Ev.bind h (Ev.now _)
  | x :: r, p, e, h => by
    have hq : p.length + 1 + r.length = at_.length := by rw [← e]; simp; omega
    have hw : wrap64 ((p.length : Int) + 1) = ((p ++ [x]).length : Int) := by rw [w64 (by omega)]; simp
    have hrd : rd at_ (p.length : Int) = x := by rw [← e]; exact rd_midI p x r
    refine Ev.step (fun k => by rw [gangerref05_Meet.l0]) ?_
    simp only [show (p.length : Int) < (at_.length : Int) by omega, if_true, show (0 : Int) ≤ (p.length : Int) by omega, hrd, hw, List.length_map, show p.length < 17592186044416 by omega]
    refine Ev.bind (rat_ok (by omega) hva x) ?_
    refine Ev.bind (rat_ok (by omega) hvb x) ?_
    have := rmeet_l a b ha hb hva hvb at_ hat v r (p ++ [x]) (by rw [← e]; simp) h
    rwa [List.map_append] at this
theorem told {s : List S39} {g : Int → Int} (h : ∀ z ∈ s, z.f1 = g z.f0) : s = (s.map (·.f0)).map (fun u => (⟨u, g u⟩ : S39)) := by
  rw [List.map_map]
  conv => lhs; rw [← List.map_id s]
  exact List.map_congr_left (fun z hz => by
    have := h z hz
    cases z
    simp at this ⊢
    exact this)
theorem mn_comm (a b : Int) : mn a b = mn b a := by unfold mn; split <;> split <;> omega
theorem meet_ok {x y : S39} {r q : List S39} (hl : (x :: r).length < 5000) (hl2 : (y :: q).length < 5000) (hv : Valid (x :: r)) (hv2 : Valid (y :: q)) :
    ∃ s, Ev (fun k => profile_Meet.f k (x :: r) (y :: q)) (cf s, 0) ∧ Ev (fun k => gangerref05_Meet.f k (x :: r) (y :: q)) (cf s, 0) ∧ Rise s ∧ (∀ u, T s u ↔ u = max x.f0 y.f0 ∨ (T (x :: r) u ∧ max x.f0 y.f0 < u) ∨ (T (y :: q) u ∧ max x.f0 y.f0 < u)) ∧ (∀ z ∈ s, z.f1 = mn (stp (x :: r) z.f0) (stp (y :: q) z.f0)) ∧ s.length ≤ 2 + (x :: r).length + (y :: q).length := by
  have hx := hv.bd x (by simp)
  have hy := hv2.bd y (by simp)
  obtain ⟨p1, x1, r1, e1, g1, h1⟩ := split r x (max x.f0 y.f0) hv.2.2.1 (by omega)
  obtain ⟨p2, y1, r2, e2, g2, h2⟩ := split q y (max x.f0 y.f0) hv2.2.2.1 (by omega)
  obtain ⟨s, hs1, hs2, hs3, hs4, hs5⟩ := meet_l (x :: r) (y :: q) hl hl2 hv.2.2.1 hv2.2.2.1 (r1.length + r2.length) p1 r1 p2 r2 x1 y1 (max x.f0 y.f0) [] rfl e1.symm e2.symm g1 g2 h1 h2 (by
    have a1 : (x :: r).length = p1.length + 1 + r1.length := by rw [e1]; simp; omega
    have a2 : (y :: q).length = p2.length + 1 + r2.length := by rw [e2]; simp; omega
    simp; omega)
  have tk : ∀ (p' r' : List S39) (z : S39) (l : List S39) (m : Int), l = p' ++ z :: r' → Rise l → z.f0 ≤ m → (∀ w ∈ r', m < w.f0) → ∀ u, T r' u ↔ T l u ∧ m < u := fun p' r' z l m e hr hz hw u => by
    subst e
    constructor
    · rintro ⟨w, h, rfl⟩; exact ⟨⟨w, by simp [h], rfl⟩, hw w h⟩
    · rintro ⟨⟨w, h, rfl⟩, hm⟩
      rcases List.mem_append.1 h with h | h
      · have := (List.pairwise_append.1 hr).2.2 w h z (by simp); omega
      · rcases List.mem_cons.1 h with rfl | h
        · omega
        · exact ⟨w, h, rfl⟩
  have hT : ∀ u, T s u ↔ u = max x.f0 y.f0 ∨ (T (x :: r) u ∧ max x.f0 y.f0 < u) ∨ (T (y :: q) u ∧ max x.f0 y.f0 < u) := fun u => by
    rw [hs3, tk p1 r1 x1 (x :: r) _ e1 hv.2.2.1 g1 h1 u, tk p2 r2 y1 (y :: q) _ e2 hv2.2.2.1 g2 h2 u]
  have hlen : r1.length ≤ (x :: r).length ∧ r2.length ≤ (y :: q).length := by rw [e1, e2]; simp; omega
  refine ⟨s, ?_, ?_, hs2, hT, hs4, by omega⟩
  · unfold profile_Meet.f
    refine Ev.bind (check_ok (by omega) hv) ?_
    simp only [if_true]
    refine Ev.bind (check_ok (by omega) hv2) ?_
    simp only [show ((0 : Int) != 0) = false by decide]
    refine Ev.step (fun k => by rw [profile_Meet.j0]) ?_
    simp only [Bool.false_eq_true, if_false, show 0 < ((x :: r).length : Int) by rw [List.length_cons]; omega, show 0 < ((y :: q).length : Int) by rw [List.length_cons]; omega, if_true, rd_zero, show mx x.f0 y.f0 = max x.f0 y.f0 by unfold mx; split <;> omega]
    have f1 : Ev (fun k => profile_find.f k (x :: r) (max x.f0 y.f0)) ((p1.length : Nat) : Int) := by
      have a := hv.bd
      have b := hv.2.2.1
      rw [e1] at a b
      have := find_ev p1 x1 r1 (max x.f0 y.f0) (by rw [← e1]; omega) b a (by omega) g1 h1
      rwa [← e1] at this
    have f2 : Ev (fun k => profile_find.f k (y :: q) (max x.f0 y.f0)) ((p2.length : Nat) : Int) := by
      have a := hv2.bd
      have b := hv2.2.2.1
      rw [e2] at a b
      have := find_ev p2 y1 r2 (max x.f0 y.f0) (by rw [← e2]; omega) b a (by omega) g2 h2
      rwa [← e2] at this
    refine Ev.bind f1 ?_
    refine Ev.bind f2 ?_
    rwa [List.nil_append] at hs1
  · unfold gangerref05_Meet.f
    refine Ev.bind (rcheck_ok (by omega) hv) ?_
    refine Ev.bind (rcheck_ok (by omega) hv2) ?_
    simp only [if_true, show ((0 : Int) != 0) = false by decide]
    refine Ev.step (fun k => by rw [gangerref05_Meet.j0]) ?_
    simp only [Bool.false_eq_true, if_false, show 0 < ((x :: r).length : Int) by rw [List.length_cons]; omega, show 0 < ((y :: q).length : Int) by rw [List.length_cons]; omega, if_true, rd_zero, show mx x.f0 y.f0 = max x.f0 y.f0 by unfold mx; split <;> omega]
    refine Ev.bind (ends_ev (x :: r) (y :: q) _ (by omega) (by omega)) ?_
    have hat : ends (x :: r) (y :: q) (max x.f0 y.f0) = s.map (·.f0) := by
      refine up_ext _ _ (up_ends _ _ _) (up_ticks hs2) (fun u => ?_)
      have : u ∈ s.map (·.f0) ↔ T s u := List.mem_map
      rw [mem_ends, this, hT]
      unfold T
      constructor
      · rintro (h | ⟨z, h, rfl, h'⟩ | ⟨z, h, rfl, h'⟩)
        · exact .inl h
        · exact .inr (.inl ⟨⟨z, h, rfl⟩, h'⟩)
        · exact .inr (.inr ⟨⟨z, h, rfl⟩, h'⟩)
      · rintro (h | ⟨⟨z, h, rfl⟩, h'⟩ | ⟨⟨z, h, rfl⟩, h'⟩)
        · exact .inl h
        · exact .inr (.inl ⟨z, h, rfl, h'⟩)
        · exact .inr (.inr ⟨z, h, rfl, h'⟩)
    have hfree : (ends (x :: r) (y :: q) (max x.f0 y.f0)).map (fun u => mn (stp (x :: r) u) (stp (y :: q) u)) = s.map (·.f1) := by
      rw [hat, List.map_map]
      exact List.map_congr_left (fun z hz => (hs4 z hz).symm)
    have hle := len_ends (x :: r) (y :: q) (max x.f0 y.f0)
    refine rmeet_l (x :: r) (y :: q) hl hl2 hv hv2 (ends (x :: r) (y :: q) (max x.f0 y.f0)) (by omega) (cf s) (ends (x :: r) (y :: q) (max x.f0 y.f0)) [] rfl ?_
    rw [hfree, hat]
    exact of_ev s (by omega)
theorem meet_no {a b : List S39} (ha : a.length < 5000) (hb : b.length < 5000) (h : ¬ (Valid a ∧ Valid b)) : Ev (fun k => profile_Meet.f k a b) ([], 50) ∧ Ev (fun k => gangerref05_Meet.f k a b) ([], 50) := by
  have j1 : Ev (fun k => profile_Meet.j0 k a b true) ([], 50) := by
    refine Ev.step (fun k => by rw [profile_Meet.j0]) ?_
    simp only [if_true]; exact Ev.now _
  have j2 : Ev (fun k => gangerref05_Meet.j0 k a b true) ([], 50) := by
    refine Ev.step (fun k => by rw [gangerref05_Meet.j0]) ?_
    simp only [if_true]; exact Ev.now _
  unfold profile_Meet.f gangerref05_Meet.f
  by_cases hv : Valid a
  · have hv2 : ¬ Valid b := fun h' => h ⟨hv, h'⟩
    constructor
    · refine Ev.bind (check_ok (by omega) hv) ?_
      simp only [if_true]
      refine Ev.bind (check_no (by omega) hv2) ?_
      simp only [show ((50 : Int) != 0) = true by decide]
      exact j1
    · refine Ev.bind (rcheck_ok (by omega) hv) ?_
      refine Ev.bind (rcheck_no (by omega) hv2) ?_
      simp only [if_true, show ((50 : Int) != 0) = true by decide]
      exact j2
  · constructor
    · refine Ev.bind (check_no (by omega) hv) ?_
      simp only [show ¬ (50 : Int) = 0 by decide, if_false]
      exact j1
    · refine Ev.bind (rcheck_no (by omega) hv) ?_
      by_cases hv2 : Valid b
      · refine Ev.bind (rcheck_ok (by omega) hv2) ?_
        simp only [show ¬ (50 : Int) = 0 by decide, if_false]
        exact j2
      · refine Ev.bind (rcheck_no (by omega) hv2) ?_
        simp only [show ¬ (50 : Int) = 0 by decide, if_false]
        exact j2
end Go.Proofs.Ytfcmpnajokjaaaa.Prof
