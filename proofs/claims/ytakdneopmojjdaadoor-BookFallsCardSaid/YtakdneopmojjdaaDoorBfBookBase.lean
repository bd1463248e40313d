/- cut to what one law reaches -/
import Derived.Test.YtakdneopmojjdaaDoorBfNumCut
import Derived.Test.YtakdneopmojjdaaDoorBfNumSum
import Derived.Test.YtakdneopmojjdaaDoorBfP0
import Derived.Test.YtakdneopmojjdaaDoorBfP2
import Derived.Test.YtakdneopmojjdaaDoorBfP3
import Derived.Test.YtakdneopmojjdaaDoorBfP6
import Derived.Test.YtakdneopmojjdaaDoorBfP7
import Derived.Test.YtakdneopmojjdaaDoorBfP9
import Derived.Test.YtakdneopmojjdaaDoorBfP10
namespace Go.Proofs.YtakdneopmojjdaaDoor.Bk
open Go.RowKit Go.Proofs.YtakdneopmojjdaaDoorW.PrintWords Go.Proofs.YtakdneopmojjdaaDoorW.PrintLast Go.Proofs.YtakdneopmojjdaaDoorW.PrintMore Go.Proofs.YtakdneopmojjdaaDoor.P Go.Proofs.YtakdneopmojjdaaDoor.NumM
set_option linter.unusedVariables false
set_option linter.unusedSimpArgs false
theorem ev_pos {α : Type} {c : Prop} [Decidable c] {f g : Nat→Option α} {r : α} (hc : c) (h : Ev f r) : Ev (fun k=>if c then f k else g k) r:=by simpa only [if_pos hc] using h
theorem ev_neg {α : Type} {c : Prop} [Decidable c] {f g : Nat→Option α} {r : α} (hc : ¬ c) (h : Ev g r) : Ev (fun k=>if c then f k else g k) r:=by simpa only [if_neg hc] using h
theorem known_ev : Ev (fun k=>gangerlaw20_known.f k) true:=Ev.of (fun k=>gangerlaw20_known.mono k) (k:=80) (by decide +kernel)
theorem hk : Ev (fun n=>(gangerlaw20_known.f n).bind fun t=>some t) true:=Ev.bind known_ev (Ev.now _)
theorem rd24_mid (p : List S24) (x : S24) (r : List S24) : rd_T24 (p ++ x :: r) (p.length : Int) = x:=by
  unfold rd_T24;simp [List.getD]
theorem wsucc {α : Type} (p : List α) (x : α) (h : p.length < 1000000) : wrap64 ((p.length : Int) + 1) = ((p ++ [x]).length : Int):=by rw [w64 (by omega)];simp
def inB (n lo hi : Int) : Bool:=decide (lo≤n) && decide (n≤hi)
def NameOk (s : ByteArray) : Bool:=nameAt (s.size + 1) s 0
theorem name_f {s : ByteArray} (h : s.size≤1000000) : script_Name.f s = some (NameOk s):=by
  unfold script_Name.f;rw [if_pos (by omega)];rfl
def wordOk (h : Int) : Bool:=decide (h = 0) || inB h 5 8
def rightB (c : S24) : Bool:=decide (0 < c.f0) && NameOk c.f1 && inB c.f2 1 1024 && inB c.f3 0 1073741824 && wordOk c.f4 && inB c.f5 0 1099511627776
/-- the state's word -/
def wordT (h : Int) : ByteArray:=rdOf ByteArray.empty ([(⟨#[114,101,113,117,101,117,101,100]⟩ : ByteArray),(⟨#[]⟩ : ByteArray),(⟨#[]⟩ : ByteArray),(⟨#[]⟩ : ByteArray),(⟨#[]⟩ : ByteArray),(⟨#[100,111,110,101]⟩ : ByteArray),(⟨#[102,97,105,108,101,100]⟩ : ByteArray),(⟨#[99,97,110,99,101,108,108,101,100]⟩ : ByteArray),(⟨#[108,97,116,101]⟩ : ByteArray)] : List ByteArray) h
theorem nine {h : Int} (h0 : 0≤h) (h9 : h < 9) : h = 0 ∨ h = 1 ∨ h = 2 ∨ h = 3 ∨ h = 4 ∨ h = 5 ∨ h = 6 ∨ h = 7 ∨ h = 8:=by omega
theorem word_none {h : Int} (h0 : 0≤h) (h9 : h < 9) : (wordT h).toList = [] ↔ wordOk h = false:=by
  rcases nine h0 h9 with rfl|rfl|rfl|rfl|rfl|rfl|rfl|rfl|rfl <;> decide +kernel
theorem word_out {h : Int} (q : ¬ (0≤h∧h < 9)) : wordOk h = false:=by
  unfold wordOk inB
  simp
  omega
theorem right_f {c0 : Int} {c1 : ByteArray} {c2 c3 c4 c5 : Int} (hs : c1.size≤1000000) : book_right.f c0 c1 c2 c3 c4 c5 = some (rightB ⟨c0,c1,c2,c3,c4,c5⟩):=by
  have hn:=name_f hs
  unfold book_right.f book_names.f
  simp only [hn,Option.bind_some]
  unfold rightB
  dsimp only
  generalize NameOk c1 = nm
  by_cases p4 : c4 ≥ 0
  · by_cases p9 : c4 < 9
    · have hw:=word_none p4 p9
      unfold wordT at hw
      rw [if_pos p4,if_pos p9,if_pos (show 0≤c4 from p4)]
      generalize (rdOf ByteArray.empty ([(⟨#[114,101,113,117,101,117,101,100]⟩ : ByteArray),(⟨#[]⟩ : ByteArray),(⟨#[]⟩ : ByteArray),(⟨#[]⟩ : ByteArray),(⟨#[]⟩ : ByteArray),(⟨#[100,111,110,101]⟩ : ByteArray),(⟨#[102,97,105,108,101,100]⟩ : ByteArray),(⟨#[99,97,110,99,101,108,108,101,100]⟩ : ByteArray),(⟨#[108,97,116,101]⟩ : ByteArray)] : List ByteArray) c4).toList = wl at hw ⊢
      generalize wordOk c4 = wo at hw ⊢
      unfold inB
      by_cases q0 : c0 > 0
      · cases nm with
        | false=>simp [q0]
        | true =>
          by_cases q2 : c2 ≥ 1
          · by_cases q3 : c2≤1024
            · by_cases q4 : c3 ≥ 0
              · by_cases q5 : c3≤1073741824
                · by_cases q6 : wl = []
                  · have:=hw.1 q6;simp [q0,q2,q3,q4,q5,q6,this]
                  · have h7 : wo = true:=by cases wo with
                      | true=>rfl
                      | false=>exact absurd (hw.2 rfl) q6
                    by_cases q7 : c5 ≥ 0
                    · simp [q0,q2,q3,q4,q5,q6,q7,h7]
                    · simp [q0,q2,q3,q4,q5,q6,q7,h7]
                · simp [q0,q2,q3,q4,q5]
              · simp [q0,q2,q3,q4]
            · simp [q0,q2,q3]
          · simp [q0,q2]
      · simp [q0]
    · rw [if_pos p4,if_neg p9,word_out (by omega)]
      cases nm <;> simp <;> (intros;repeat' split) <;> rfl
  · rw [if_neg p4,word_out (by omega)]
    cases nm <;> simp <;> (intros;repeat' split) <;> rfl
/-- charges behind one of that time (none: the first) -/
def after : Option Int→Int→Bool
  | none,_=>true
  | some t,u=>decide (t≤u)
def bkFrom : Option Int→List S24→Bool
  | _,[]=>true
  | pr,c :: r=>rightB c && after pr c.f5 && bkFrom (some c.f5) r
def Book (l : List S24) : Bool:=decide (l.length≤2000) && bkFrom none l
def lastT (p : List S24) : Option Int:=p.getLast?.map (·.f5)
theorem check_l0 : ∀ (s p : List S24),(p ++ s).length < 1000000→(∀ x ∈ s,x.f1.size≤1000000) →
    Ev (fun k=>book_Check.l0 k (p ++ s) (p ++ s) ((p ++ s).length : Int) (p.length : Int)) (if bkFrom (lastT p) s = true then 0 else 200)
  | [],p,h,hs=>by
    refine Ev.step (fun k=>by rw [book_Check.l0]) ?_
    exact ev_neg (by simp) (Ev.now _)
  | x :: s,p,h,hs=>by
    have hp : p.length < 1000000:=by simp at h;omega
    have ih:=check_l0 s (p ++ [x]) (by simpa using h) (fun y hy=>hs y (List.mem_cons_of_mem _ hy))
    have hlx : lastT (p ++ [x]) = some x.f5:=by simp [lastT]
    rw [hlx] at ih
    simp only [List.append_assoc,List.singleton_append] at ih
    refine Ev.step (fun k=>by rw [book_Check.l0]) ?_
    refine ev_pos (by simp;omega) (ev_pos (by omega) (ev_pos (by simp;omega) ?_))
    rw [rd24_mid,right_f (hs x (List.mem_cons_self ..)),bkFrom]
    refine Ev.bind (Ev.now _) ?_
    cases hr : rightB x with
    | false=>exact ev_neg (by simp) (Ev.now _)
    | true =>
      refine ev_pos rfl ?_
      rw [wsucc p x hp]
      rcases List.eq_nil_or_concat p with rfl|⟨q,y,e⟩
      · refine ev_neg (by simp) ?_
        simpa [lastT,after] using ih
      · rw [List.concat_eq_append] at e
        subst e
        have e1 : wrap64 ((((q ++ [y]).length : Nat) : Int) - 1) = (q.length : Int):=by
          rw [w64 (by simp at hp ⊢;omega)];simp
        have e2 : rd_T24 ((q ++ [y]) ++ x :: s) (q.length : Int) = y:=by
          rw [List.append_assoc];exact rd24_mid q y _
        refine ev_pos (by simp) ?_
        rw [e1]
        refine ev_pos (by omega) (ev_pos (by simp;omega) ?_)
        rw [e2]
        have hl : lastT (q ++ [y]) = some y.f5:=by simp [lastT]
        rw [hl]
        by_cases ht : x.f5 < y.f5
        · refine ev_pos ht ?_
          rw [show after (some y.f5) x.f5 = false from decide_eq_false (by omega)]
          exact Ev.now _
        · refine ev_neg ht ?_
          rw [show after (some y.f5) x.f5 = true from decide_eq_true (by omega)]
          simpa using ih
theorem check_ev (l : List S24) (h : l.length < 1000000) (hs : ∀ x ∈ l,x.f1.size≤1000000) : Ev (fun k=>book_Check.f k l) (if Book l = true then 0 else 200):=by
  unfold book_Check.f Book
  by_cases h2 : (l.length : Int) > 2000
  · refine ev_pos h2 ?_
    rw [decide_eq_false (show ¬ l.length≤2000 by omega)]
    exact Ev.now _
  · refine ev_neg h2 ?_
    rw [decide_eq_true (show l.length≤2000 by omega),Bool.true_and]
    exact check_l0 l [] (by simpa using h) hs
/-- what a charge comes to -/
def amt (c : S24) : Int:=c.f2 * c.f3
/-- of an account -/
def tot (a : ByteArray) : List S24→Int
  | []=>0
  | c :: r=>(if c.f1.toList = a.toList then amt c else 0) + tot a r
theorem right_num {c : S24} (h : rightB c = true) : 0 < c.f0∧1≤c.f2∧c.f2≤1024∧0≤c.f3∧c.f3≤1073741824∧0≤c.f5∧c.f5≤1099511627776:=by
  unfold rightB inB at h
  simp at h
  omega
theorem amt_num {c : S24} (h : rightB c = true) : 0≤amt c∧amt c≤1099511627776:=by
  have q:=right_num h
  unfold amt
  refine ⟨Int.mul_nonneg (by omega) (by omega),?_⟩
  have:=Int.mul_le_mul q.2.2.1 q.2.2.2.2.1 q.2.2.2.1 (by omega : (0 : Int)≤1024)
  omega
theorem bk_all : ∀ (l : List S24) (t : Option Int),bkFrom t l = true→∀ x ∈ l,rightB x = true
  | [],_,_=>by simp
  | c :: r,t,h=>by
    rw [bkFrom] at h
    simp only [Bool.and_eq_true] at h
    intro x hx
    rcases List.mem_cons.1 hx with q|q
    · rw [q];exact h.1.1
    · exact bk_all r _ h.2 x q
theorem book_all {l : List S24} (h : Book l = true) : l.length≤2000∧∀ x ∈ l,rightB x = true:=by
  unfold Book at h
  simp only [Bool.and_eq_true,decide_eq_true_eq] at h
  exact ⟨h.1,bk_all l _ h.2⟩
theorem tot_num (a : ByteArray) : ∀ (l : List S24),(∀ x ∈ l,rightB x = true)→0≤tot a l∧tot a l≤1099511627776 * l.length
  | [],_=>by simp [tot]
  | c :: r,h=>by
    have ih:=tot_num a r (fun x hx=>h x (List.mem_cons_of_mem _ hx))
    have q:=amt_num (h c (List.mem_cons_self ..))
    rw [tot,List.length_cons]
    split <;> constructor <;> omega
theorem sum2_ev {x y : Int} (hx : 0≤x) (hy : 0≤y) (h : x + y≤9223372036854775807) : Ev (fun k=>num_Sum.f k [x,y]) (x + y):=by
  have h1:=sum_ev [x,y] (by intro z hz;unfold fits;simp at hz;omega) (by simp)
  have e : csum [x,y] = x + y:=by
    unfold csum
    show cutoff (cutoff (0 + x) + y) = x + y
    have e1 : cutoff (0 + x) = x:=by unfold cutoff;rw [if_neg (by omega),if_neg (by omega)];omega
    rw [e1]
    unfold cutoff;rw [if_neg (by omega),if_neg (by omega)]
  rw [e] at h1
  exact h1
theorem total_l0 (a : ByteArray) : ∀ (s p : List S24) (acc : Int),(p ++ s).length < 1000000→(∀ x ∈ s,rightB x = true)→0≤acc→acc + 1099511627776 * s.length≤4611686018427387904 →
    Ev (fun k=>book_Total.l0 k a acc (p ++ s) ((p ++ s).length : Int) (p.length : Int)) (acc + tot a s)
  | [],p,acc,h,hs,h0,h1=>by
    refine Ev.step (fun k=>by rw [book_Total.l0]) ?_
    refine ev_neg (by simp) ?_
    rw [tot,Int.add_zero];exact Ev.now _
  | x :: s,p,acc,h,hs,h0,h1=>by
    have hp : p.length < 1000000:=by simp at h;omega
    have q:=amt_num (hs x (List.mem_cons_self ..))
    rw [List.length_cons] at h1
    refine Ev.step (fun k=>by rw [book_Total.l0]) ?_
    refine ev_pos (by simp;omega) (ev_pos (by omega) (ev_pos (by simp;omega) ?_))
    rw [rd24_mid,wsucc p x hp,tot]
    by_cases e : x.f1.toList = a.toList
    · refine ev_pos e ?_
      have ew : wrap64 (x.f2 * x.f3) = amt x:=w64 (by have:=q;unfold amt at this;omega)
      rw [ew,if_pos e]
      have ih:=total_l0 a s (p ++ [x]) (acc + amt x) (by simpa using h) (fun y hy=>hs y (List.mem_cons_of_mem _ hy)) (by omega) (by omega)
      refine Ev.bind (sum2_ev h0 q.1 (by omega)) ?_
      rw [show acc + (amt x + tot a s) = acc + amt x + tot a s by omega]
      simpa using ih
    · refine ev_neg e ?_
      rw [if_neg e]
      have ih:=total_l0 a s (p ++ [x]) acc (by simpa using h) (fun y hy=>hs y (List.mem_cons_of_mem _ hy)) h0 (by omega)
      rw [Int.zero_add]
      simpa using ih
theorem total_ev (l : List S24) (a : ByteArray) (h : l.length < 1000000) (hs : ∀ x ∈ l,x.f1.size≤1000000) : Ev (fun k=>book_Total.f k l a) (if Book l = true then tot a l else 0):=by
  unfold book_Total.f
  refine Ev.bind (check_ev l h hs) ?_
  by_cases hb : Book l = true
  · rw [if_pos hb,if_pos hb]
    refine ev_pos rfl ?_
    have q:=book_all hb
    have:=total_l0 a l [] 0 (by simpa using h) q.2 (by omega) (by omega)
    simpa using this
  · rw [if_neg hb,if_neg hb]
    exact ev_neg (by decide) (Ev.now _)
/-- what is looked at -/
def Small (l : List S24) (a : ByteArray) : Prop:=(l.length≤300 ∨ 2000 < l.length)∧l.length≤3000∧a.size≤300∧∀ x ∈ l,x.f1.size≤300
theorem many_l0 (L : List S24) (hL : L.length < 1000000) : ∀ (s p : List S24),L = p ++ s→∃ b,Ev (fun k=>gangerlaw20_many.l0 k L (p.length : Int)) b∧(b = false→∀ x ∈ s,x.f1.size≤300)
  | [],p,e=>by
    refine ⟨false,?_,fun _=>by simp⟩
    refine Ev.step (fun k=>by rw [gangerlaw20_many.l0]) ?_
    subst e
    exact ev_neg (by simp) (Ev.now _)
  | x :: s,p,e=>by
    have hr : rd_T24 L (p.length : Int) = x:=by rw [e];exact rd24_mid p x s
    have hlt : (p.length : Int) < (L.length : Int):=by rw [e];simp;omega
    by_cases h1 : (x.f1.size : Int) > 300
    · refine ⟨true,?_,fun q=>by cases q⟩
      refine Ev.step (fun k=>by rw [gangerlaw20_many.l0]) ?_
      refine ev_pos hlt (ev_pos (by omega) ?_)
      rw [hr]
      exact ev_pos h1 (Ev.now _)
    · obtain ⟨b,hb,hf⟩:=many_l0 L hL s (p ++ [x]) (by simpa using e)
      refine ⟨b,?_,fun q y hy=>?_⟩
      · refine Ev.step (fun k=>by rw [gangerlaw20_many.l0]) ?_
        refine ev_pos hlt (ev_pos (by omega) ?_)
        rw [hr,wsucc p x (by omega)]
        exact ev_neg h1 hb
      · rcases List.mem_cons.1 hy with q2|q2
        · subst q2;omega
        · exact hf q y q2
theorem many_ev (l : List S24) (a : ByteArray) : ∃ b,Ev (fun k=>gangerlaw20_many.f k l a) b∧(b = false→Small l a):=by
  unfold gangerlaw20_many.f
  have J : Ev (fun k=>gangerlaw20_many.j0 k l true) true:=by
    refine Ev.step (fun k=>by rw [gangerlaw20_many.j0]) ?_
    exact ev_pos rfl (Ev.now _)
  have R : ¬ ((l.length : Int) > 3000)→∃ b,Ev (fun k=>gangerlaw20_many.j0 k l (decide ((a.size : Int) > 300))) b∧(b = false→a.size≤300∧∀ x ∈ l,x.f1.size≤300):=by
    intro h3
    by_cases h4 : (a.size : Int) > 300
    · refine ⟨true,?_,fun q=>by cases q⟩
      rw [decide_eq_true h4];exact J
    · obtain ⟨b,hb,hf⟩:=many_l0 l (by omega) l [] rfl
      refine ⟨b,?_,fun q=>⟨by omega,hf q⟩⟩
      rw [decide_eq_false h4]
      refine Ev.step (fun k=>by rw [gangerlaw20_many.j0]) ?_
      exact ev_neg (by simp) hb
  by_cases h1 : (l.length : Int) > 300
  · by_cases h2 : (l.length : Int)≤2000
    · exact ⟨true,ev_pos h1 (ev_pos h2 J),fun q=>by cases q⟩
    · by_cases h3 : (l.length : Int) > 3000
      · exact ⟨true,ev_pos h1 (ev_neg h2 (ev_pos h3 J)),fun q=>by cases q⟩
      · obtain ⟨b,hb,hf⟩:=R h3
        exact ⟨b,ev_pos h1 (ev_neg h2 (ev_neg h3 hb)),fun q=>⟨by omega,by omega,(hf q).1,(hf q).2⟩⟩
  · by_cases h3 : (l.length : Int) > 3000
    · omega
    · obtain ⟨b,hb,hf⟩:=R h3
      exact ⟨b,ev_neg h1 (ev_neg h3 hb),fun q=>⟨by omega,by omega,(hf q).1,(hf q).2⟩⟩
end Go.Proofs.YtakdneopmojjdaaDoor.Bk
