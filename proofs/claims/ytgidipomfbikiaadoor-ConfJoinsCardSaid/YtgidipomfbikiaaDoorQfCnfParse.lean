/- cut to what one law reaches -/
import Derived.Test.YtgidipomfbikiaaDoorQfCnfStep
import Derived.Test.YtgidipomfbikiaaDoorQfP0
import Derived.Test.YtgidipomfbikiaaDoorQfP9
import Derived.Test.YtgidipomfbikiaaDoorQfP10
import Derived.Test.YtgidipomfbikiaaDoorQfP12
namespace Go.Proofs.YtgidipomfbikiaaDoor.Cnf
open Go.RowKit Go.Proofs.YtgidipomfbikiaaDoorW.PrintWords Go.Proofs.YtgidipomfbikiaaDoorW.PrintLast Go.Proofs.YtgidipomfbikiaaDoorW.PrintMore Go.Proofs.YtgidipomfbikiaaDoor.P Go.Proofs.YtgidipomfbikiaaDoor.NumM
set_option linter.unusedVariables false
set_option linter.unusedSimpArgs false
/-- from some numbers of rounds on, of two kinds -/
def Ev2 {α : Type} (F : Nat→Nat→Option α) (r : α) : Prop:=∃ N,∀ g k,N≤g→N≤k→F g k = some r
theorem Ev2.now {α : Type} (r : α) : Ev2 (fun _ _=>some r) r:=⟨0,fun _ _ _ _=>rfl⟩
theorem Ev2.one {α : Type} {f : Nat→Option α} {r : α} (h : Ev f r) : Ev2 (fun _ k=>f k) r:=by
  obtain ⟨N,h⟩:=h
  exact ⟨N,fun g k _ hk=>h k hk⟩
theorem Ev2.bind {α β : Type} {f : Nat→Option α} {a : α} {F : Nat→Nat→α→Option β} {r : β} (h : Ev f a) (h2 : Ev2 (fun g k=>F g k a) r) : Ev2 (fun g k=>(f k).bind (F g k)) r:=by
  obtain ⟨N,h⟩:=h
  obtain ⟨M,h2⟩:=h2
  refine ⟨N + M,fun g k hg hk=>?_⟩
  show (f k).bind (F g k) = some r
  rw [h k (by omega)]
  exact h2 g k (by omega) (by omega)
theorem Ev2.pos {α : Type} {c : Prop} [Decidable c] {f g : Nat→Nat→Option α} {r : α} (hc : c) (h : Ev2 f r) : Ev2 (fun a b=>if c then f a b else g a b) r:=by simpa only [if_pos hc] using h
theorem Ev2.neg {α : Type} {c : Prop} [Decidable c] {f g : Nat→Nat→Option α} {r : α} (hc : ¬ c) (h : Ev2 g r) : Ev2 (fun a b=>if c then f a b else g a b) r:=by simpa only [if_neg hc] using h
theorem Ev2.step {α : Type} {F G : Nat→Nat→Option α} {r : α} (e : ∀ g k,F (g + 1) k = G g k) (h : Ev2 G r) : Ev2 F r:=by
  obtain ⟨N,h⟩:=h
  refine ⟨N + 1,fun g k hg hk=>?_⟩
  obtain ⟨m,rfl⟩ : ∃ m,g = m + 1:=⟨g - 1,by omega⟩
  rw [e]
  exact h m k (by omega) (by omega)
theorem Ev2.diag {α : Type} {F : Nat→Nat→Option α} {r : α} (h : Ev2 F r) : Ev (fun k=>F k k) r:=by
  obtain ⟨N,h⟩:=h
  exact ⟨N,fun k hk=>h k k hk hk⟩
/-- where the reader stands -/
structure St where
  part : Int
  n : Int
  c : Hd
  P : List S50
  Q : List S52
  A : List S48
abbrev Res:=Int × Int × Int × Int × Int × Int × Int × Int × Int × List S50 × List S52 × List S48 × Int × Int
def errR (n e : Int) : Res:=(0,0,0,0,0,0,0,0,0,[],[],[],n,e)
def okR_ (c : Hd) (P : List S50) (Q : List S52) (A : List S48) : Res:=(c.f0,c.f1,c.f2,c.f3,c.f4,c.f5,c.f6,c.f7,c.f8,P,Q,A,0,0)
/-- a line -/
def stepP (s : St) (line : List UInt8) : Option St :=
  if s.n≤5 then (firstP (s.n - 1) line s.c).map fun c=>{ s with n:=s.n + 1,c:=c }
  else if ((laterP line s.P s.Q s.A).1 = s.part∧0 < (laterP line s.P s.Q s.A).1) ∨ (laterP line s.P s.Q s.A).1 = s.part + 1 then some ⟨(laterP line s.P s.Q s.A).1,s.n + 1,s.c,(laterP line s.P s.Q s.A).2.1,(laterP line s.P s.Q s.A).2.2.1,(laterP line s.P s.Q s.A).2.2.2⟩ else none
/-- the end of a text -/
def endP (s : St) : Res:=if s.part = 3 then (if COK s.c s.P s.Q s.A = true then okR_ s.c s.P s.Q s.A else errR 0 100) else errR s.n 60
/-- lines, and what stands behind the last one -/
def runP : St→List (List UInt8)→List UInt8→Res
  | s,[],t=>if t = [] then endP s else errR s.n 60
  | s,l :: ls,t=>match stepP s l with
    | some s'=>runP s' ls t
    | none=>errR s.n 60
def par (s : St) (t : List UInt8) : Nat→Nat→Option Res:=fun g k=>parL g k (mk t) s.part s.n s.c s.P s.Q s.A
/-- what is in bounds -/
def Fine (B : Nat) (s : St) : Prop:=1≤s.n∧s.n + B≤900000∧s.P.length + B≤900000∧s.Q.length + B≤900000∧s.A.length + B≤900000∧(∀ x ∈ s.P,x.f0.size≤1000000)∧(∀ x ∈ s.Q,x.f0.size≤1000000)∧(∀ x ∈ s.A,x.f0.size≤1000000)
theorem par_bad (s : St) (line t : List UInt8) (h10 : (10 : UInt8) ∉ line) (hl : (line ++ 10 :: t).length≤1000000) (hf : Fine 1 s) (hs : stepP s line = none) : Ev2 (par s (line ++ 10 :: t)) (errR s.n 60):=by
  obtain ⟨f1,f2,f3,f4,f5,_⟩:=hf
  refine Ev2.step (fun g k=>by unfold par;rw [parL]) ?_
  have hcut : strings_Cut.f (mk (line ++ 10 :: t)) nlB = some (mk line,mk t,true):=by
    unfold strings_Cut.f nlB
    rw [if_pos (by rw [mk_size];omega)]
    show some (mk (Lib.cut (line ++ 10 :: t) [10]).1,mk (Lib.cut (line ++ 10 :: t) [10]).2.1,(Lib.cut (line ++ 10 :: t) [10]).2.2) = _
    rw [cut_hit 10 line t h10]
  refine Ev2.neg (by rw [mk_toList];simp) (Ev2.pos (by omega) ?_)
  rw [hcut]
  refine Ev2.bind (Ev.now _) (Ev2.pos rfl ?_)
  rw [List.length_append,List.length_cons] at hl
  unfold stepP at hs
  by_cases g : s.n≤5
  · rw [if_pos g] at hs
    obtain ⟨b,d,e1,e2⟩:=first_ev (s.n - 1) (by omega) (by omega) line (by omega) s.c
    refine Ev2.pos g (Ev2.bind e1 ?_)
    cases b with
    | true=>rw [e2] at hs;simp at hs
    | false=>exact Ev2.neg (by simp) (Ev2.now _)
  · rw [if_neg g] at hs
    have e1:=later_ev line (by omega) s.P s.Q s.A (by omega) (by omega) (by omega)
    refine Ev2.neg g (Ev2.bind e1 ?_)
    by_cases h2 : ((laterP line s.P s.Q s.A).1 = s.part∧0 < (laterP line s.P s.Q s.A).1) ∨ (laterP line s.P s.Q s.A).1 = s.part + 1
    · rw [if_pos h2] at hs;cases hs
    · exact Ev2.neg h2 (Ev2.now _)
theorem par_good (s s' : St) (line t : List UInt8) (h10 : (10 : UInt8) ∉ line) (hl : (line ++ 10 :: t).length≤1000000) (hf : Fine 1 s) (hs : stepP s line = some s') {r : Res} (hr : Ev2 (par s' t) r) : Ev2 (par s (line ++ 10 :: t)) r:=by
  obtain ⟨f1,f2,f3,f4,f5,_⟩:=hf
  refine Ev2.step (fun g k=>by unfold par;rw [parL]) ?_
  have hcut : strings_Cut.f (mk (line ++ 10 :: t)) nlB = some (mk line,mk t,true):=by
    unfold strings_Cut.f nlB
    rw [if_pos (by rw [mk_size];omega)]
    show some (mk (Lib.cut (line ++ 10 :: t) [10]).1,mk (Lib.cut (line ++ 10 :: t) [10]).2.1,(Lib.cut (line ++ 10 :: t) [10]).2.2) = _
    rw [cut_hit 10 line t h10]
  refine Ev2.neg (by rw [mk_toList];simp) (Ev2.pos (by omega) ?_)
  rw [hcut]
  refine Ev2.bind (Ev.now _) (Ev2.pos rfl ?_)
  rw [List.length_append,List.length_cons] at hl
  unfold stepP at hs
  by_cases g : s.n≤5
  · rw [if_pos g] at hs
    obtain ⟨b,d,e1,e2⟩:=first_ev (s.n - 1) (by omega) (by omega) line (by omega) s.c
    refine Ev2.pos g (Ev2.bind e1 ?_)
    cases b with
    | false=>rw [e2] at hs;simp at hs
    | true =>
      rw [e2,if_pos rfl] at hs
      have e:=Option.some.inj hs
      subst e
      exact Ev2.pos rfl hr
  · rw [if_neg g] at hs
    have e1:=later_ev line (by omega) s.P s.Q s.A (by omega) (by omega) (by omega)
    refine Ev2.neg g (Ev2.bind e1 ?_)
    by_cases h2 : ((laterP line s.P s.Q s.A).1 = s.part∧0 < (laterP line s.P s.Q s.A).1) ∨ (laterP line s.P s.Q s.A).1 = s.part + 1
    · rw [if_pos h2] at hs
      have e:=Option.some.inj hs
      subst e
      exact Ev2.pos h2 hr
    · rw [if_neg h2] at hs;cases hs
theorem par_end (s : St) (hf : Fine 0 s) : Ev2 (par s []) (endP s):=by
  obtain ⟨f1,f2,f3,f4,f5,f6,f7,f8⟩:=hf
  refine Ev2.step (fun g k=>by unfold par;rw [parL]) ?_
  refine Ev2.pos (by rw [mk_toList]) ?_
  unfold endP
  by_cases g : s.part = 3
  · rw [if_pos g]
    refine Ev2.pos g (Ev2.bind (check_evM s.c (by omega) (by omega) (by omega) f6 f7 f8) ?_)
    cases COK s.c s.P s.Q s.A with
    | true=>exact Ev2.pos rfl (Ev2.now _)
    | false=>exact Ev2.neg (by decide) (Ev2.now _)
  · rw [if_neg g]
    exact Ev2.neg g (Ev2.now _)
theorem par_tail (s : St) (t : List UInt8) (ht : t ≠ []) (h10 : (10 : UInt8) ∉ t) (hl : t.length≤1000000) (hf : Fine 0 s) : Ev2 (par s t) (errR s.n 60):=by
  obtain ⟨f1,f2,_⟩:=hf
  refine Ev2.step (fun g k=>by unfold par;rw [parL]) ?_
  have hcut : strings_Cut.f (mk t) nlB = some (mk t,mk [],false):=by
    unfold strings_Cut.f nlB
    rw [if_pos (by rw [mk_size];omega)]
    show some (mk (Lib.cut t [10]).1,mk (Lib.cut t [10]).2.1,(Lib.cut t [10]).2.2) = _
    rw [cut_miss 10 t h10]
  refine Ev2.neg (by rw [mk_toList];exact ht) (Ev2.pos (by omega) ?_)
  rw [hcut]
  exact Ev2.bind (Ev.now _) (Ev2.neg (by simp) (Ev2.now _))
theorem rdOf_sz {l : List ByteArray} {i : Int} {B : Nat} (h : ∀ x ∈ l,x.size≤B) : (rdOf ByteArray.empty l i).size≤B:=by
  unfold rdOf
  rw [List.getD_eq_getElem?_getD]
  cases e : l[i.toNat]? with
  | none=>simp
  | some x=>exact h x (List.mem_of_getElem? e)
theorem formP_sz : ∀ (qs ws : List (List UInt8)) (y : List Int × List (List UInt8)),formP qs ws = some y→∀ w ∈ y.2,w ∈ ws∧NameOk (mk w) = true
  | [],[],y,h,w,hw=>by simp [formP] at h;subst h;simp at hw
  | q :: qs,[],y,h,w,hw=>by simp [formP] at h
  | [],v :: ws,y,h,w,hw=>by simp [formP] at h
  | q :: qs,v :: ws,y,h,w,hw=>by
    rw [formP] at h
    by_cases g1 : q = [35]
    · rw [if_pos g1] at h
      cases hn : numP v with
      | none=>rw [hn] at h;cases h
      | some x =>
        rw [hn] at h
        cases hf : formP qs ws with
        | none=>rw [hf] at h;cases h
        | some z =>
          rw [hf] at h
          have e:=Option.some.inj h
          subst e
          have:=formP_sz qs ws z hf w hw
          exact ⟨List.mem_cons_of_mem _ this.1,this.2⟩
    · rw [if_neg g1] at h
      by_cases g2 : q = [64]
      · rw [if_pos g2] at h
        split at h
        · rename_i hnm
          cases hf : formP qs ws with
          | none=>rw [hf] at h;cases h
          | some z =>
            rw [hf] at h
            have e:=Option.some.inj h
            subst e
            rcases List.mem_cons.1 hw with q3|q3
            · subst q3;exact ⟨List.mem_cons_self ..,hnm⟩
            · have:=formP_sz qs ws z hf w q3
              exact ⟨List.mem_cons_of_mem _ this.1,this.2⟩
        · cases h
      · rw [if_neg g2] at h
        split at h
        · have:=formP_sz qs ws y h w hw
          exact ⟨List.mem_cons_of_mem _ this.1,this.2⟩
        · cases h
theorem formL_sz {line like : List UInt8} {y : List Int × List (List UInt8)} (h : formL line like = some y) (i : Int) : (rdOf ByteArray.empty (y.2.map mk) i).size≤line.length:=by
  refine rdOf_sz fun x hx=>?_
  obtain ⟨w,hw,rfl⟩:=List.mem_map.1 hx
  rw [mk_size]
  exact spl_sub line w (formP_sz _ _ y h w hw).1
theorem fine_mono {B B' : Nat} {s : St} (h : Fine B s) (hb : B'≤B) : Fine B' s:=by
  obtain ⟨f1,f2,f3,f4,f5,f6⟩:=h
  exact ⟨f1,by omega,by omega,by omega,by omega,f6⟩
theorem step_fine {B : Nat} {s s' : St} {line : List UInt8} (hl : line.length≤1000000) (hf : Fine (B + 1) s) (h : stepP s line = some s') : Fine B s'∧s'.n = s.n + 1:=by
  obtain ⟨f1,f2,f3,f4,f5,f6,f7,f8⟩:=hf
  unfold stepP at h
  split at h
  · cases he : firstP (s.n - 1) line s.c with
    | none=>rw [he] at h;simp at h
    | some c =>
      rw [he] at h
      have e:=Option.some.inj h
      subst e
      exact ⟨⟨by show 1≤s.n + 1;omega,by show s.n + 1 + B≤900000;omega,by show s.P.length + B≤900000;omega,by show s.Q.length + B≤900000;omega,by show s.A.length + B≤900000;omega,f6,f7,f8⟩,rfl⟩
  · split at h
    · have e:=Option.some.inj h
      have hcase : (∀ x ∈ (laterP line s.P s.Q s.A).2.1,x.f0.size≤1000000)∧(∀ x ∈ (laterP line s.P s.Q s.A).2.2.1,x.f0.size≤1000000)∧(∀ x ∈ (laterP line s.P s.Q s.A).2.2.2,x.f0.size≤1000000)∧(laterP line s.P s.Q s.A).2.1.length≤s.P.length + 1∧(laterP line s.P s.Q s.A).2.2.1.length≤s.Q.length + 1∧(laterP line s.P s.Q s.A).2.2.2.length≤s.A.length + 1:=by
        unfold laterP
        cases h1 : formL line partL.data.toList with
        | some y =>
          refine ⟨fun x hx=>?_,f7,f8,by simp,by simp,by simp⟩
          rcases List.mem_append.1 hx with q|q
          · exact f6 x q
          · rw [List.mem_singleton.1 q];exact Nat.le_trans (formL_sz h1 0) hl
        | none =>
        cases h2 : formL line classL.data.toList with
        | some y =>
          refine ⟨f6,fun x hx=>?_,f8,by simp,by simp,by simp⟩
          rcases List.mem_append.1 hx with q|q
          · exact f7 x q
          · rw [List.mem_singleton.1 q];exact Nat.le_trans (formL_sz h2 0) hl
        | none =>
        cases h3 : (if 0 < s.A.length then formL line accL.data.toList else none) with
        | some y =>
          refine ⟨f6,f7,fun x hx=>?_,by simp,by simp,by simp⟩
          rcases List.mem_append.1 hx with q|q
          · exact f8 x q
          · rw [List.mem_singleton.1 q]
            split at h3
            · exact Nat.le_trans (formL_sz h3 0) hl
            · cases h3
        | none =>
        cases h4 : (if s.A.length = 0 then formL line rootL.data.toList else none) with
        | some y =>
          refine ⟨f6,f7,fun x hx=>?_,by simp,by simp,by simp⟩
          rcases List.mem_append.1 hx with q|q
          · exact f8 x q
          · rw [List.mem_singleton.1 q]
            split at h4
            · exact Nat.le_trans (formL_sz h4 0) hl
            · cases h4
        | none=>exact ⟨f6,f7,f8,by simp,by simp,by simp⟩
      obtain ⟨c1,c2,c3,c4,c5,c6⟩:=hcase
      subst e
      exact ⟨⟨by show 1≤s.n + 1;omega,by show s.n + 1 + B≤900000;omega,by show (laterP line s.P s.Q s.A).2.1.length + B≤900000;omega,by show (laterP line s.P s.Q s.A).2.2.1.length + B≤900000;omega,by show (laterP line s.P s.Q s.A).2.2.2.length + B≤900000;omega,c1,c2,c3⟩,rfl⟩
    · cases h
def glue (ls : List (List UInt8)) : List UInt8:=ls.flatMap fun l=>l ++ [10]
theorem glue_cons (l : List UInt8) (ls : List (List UInt8)) (t : List UInt8) : glue (l :: ls) ++ t = l ++ 10 :: (glue ls ++ t):=by simp [glue]
theorem run_ev : ∀ (ls : List (List UInt8)) (s : St) (t : List UInt8),(∀ l ∈ ls,(10 : UInt8) ∉ l)→(10 : UInt8) ∉ t→(glue ls ++ t).length≤800000→Fine ls.length s→Ev2 (par s (glue ls ++ t)) (runP s ls t)
  | [],s,t,h1,h2,h3,hf=>by
    rw [runP]
    show Ev2 (par s t) _
    by_cases g : t = []
    · rw [if_pos g,g];exact par_end s hf
    · rw [if_neg g];exact par_tail s t g h2 (by simp [glue] at h3;omega) hf
  | l :: ls,s,t,h1,h2,h3,hf=>by
    rw [glue_cons] at h3 ⊢
    rw [runP]
    have h10:=h1 l (List.mem_cons_self ..)
    have hlen : l.length≤800000∧(glue ls ++ t).length≤800000:=by rw [List.length_append,List.length_cons] at h3;omega
    cases hs : stepP s l with
    | none=>exact par_bad s l _ h10 (by omega) (fine_mono hf (by simp)) hs
    | some s' =>
      have hf':=step_fine (B:=ls.length) (by omega) hf hs
      exact par_good s s' l _ h10 (by omega) (fine_mono hf (by simp)) hs (run_ev ls s' t (fun x hx=>h1 x (List.mem_cons_of_mem _ hx)) h2 hlen.2 hf'.1)
def start : St:=⟨0,1,⟨0,0,0,0,0,0,0,0,0⟩,[],[],[]⟩
theorem glue_len : ∀ (ls : List (List UInt8)),ls.length≤(glue ls).length
  | []=>by simp [glue]
  | l :: ls=>by
    have:=glue_len ls
    have e:=glue_cons l ls []
    rw [List.append_nil,List.append_nil] at e
    rw [e];simp;omega
theorem parse_run (ls : List (List UInt8)) (t : List UInt8) (h1 : ∀ l ∈ ls,(10 : UInt8) ∉ l) (h2 : (10 : UInt8) ∉ t) (h3 : (glue ls ++ t).length≤800000) : Ev (fun k=>conf_Parse.f k (mk (glue ls ++ t))) (runP start ls t):=by
  have hl:=glue_len ls
  rw [List.length_append] at h3
  have:=(run_ev ls start t h1 h2 (by rw [List.length_append];omega) ⟨by show (1 : Int)≤1;omega,by show (1 : Int) + ls.length≤900000;omega,by show 0 + ls.length≤900000;omega,by show 0 + ls.length≤900000;omega,by show 0 + ls.length≤900000;omega,(by intro x hx;cases hx),(by intro x hx;cases hx),(by intro x hx;cases hx)⟩).diag
  exact this
/-- each text is lines, and what stands behind the last one -/
theorem lines_of : ∀ l : List UInt8,∃ ls t,l = glue ls ++ t∧(∀ x ∈ ls,(10 : UInt8) ∉ x)∧(10 : UInt8) ∉ t
  | l=>by
    have : ∀ (n : Nat) (l : List UInt8),l.length≤n→∃ ls t,l = glue ls ++ t∧(∀ x ∈ ls,(10 : UInt8) ∉ x)∧(10 : UInt8) ∉ t:=by
      intro n
      induction n with
      | zero=>intro l h;have : l = []:=List.length_eq_zero_iff.1 (by omega);subst this;exact ⟨[],[],rfl,by simp,by simp⟩
      | succ n ih =>
        intro l h
        rcases cut_at 10 l with g|⟨a,b,rfl,g⟩
        · exact ⟨[],l,rfl,by simp,g⟩
        · rw [List.length_append,List.length_cons] at h
          obtain ⟨ls,t,e,h1,h2⟩:=ih b (by omega)
          refine ⟨a :: ls,t,by rw [glue_cons,← e],?_,h2⟩
          intro x hx
          rcases List.mem_cons.1 hx with q|q
          · subst q;exact g
          · exact h1 x q
    exact this l.length l (Nat.le_refl _)
end Go.Proofs.YtgidipomfbikiaaDoor.Cnf
