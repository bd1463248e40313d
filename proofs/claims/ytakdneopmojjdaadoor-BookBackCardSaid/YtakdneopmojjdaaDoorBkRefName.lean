/- cut to what one law reaches -/
import Derived.Test.YtakdneopmojjdaaDoorBkNumCut
import Derived.Test.YtakdneopmojjdaaDoorBkP0
import Derived.Test.YtakdneopmojjdaaDoorBkP2
import Derived.Test.YtakdneopmojjdaaDoorBkP10
import Derived.Test.YtakdneopmojjdaaDoorBkP11
import Derived.Test.YtakdneopmojjdaaDoorBkP12
import Derived.Lib.RuneCountTail
namespace Go.Proofs.YtakdneopmojjdaaDoor.RefName
open Go.RowKit Go.Proofs.YtakdneopmojjdaaDoorW.PrintWords Go.Proofs.YtakdneopmojjdaaDoorW.PrintLast Go.Proofs.YtakdneopmojjdaaDoorW.PrintMore Go.Proofs.YtakdneopmojjdaaDoor.P Go.Proofs.YtakdneopmojjdaaDoor.NumM Go.Lib
set_option linter.unusedVariables false
set_option linter.unusedSimpArgs false
theorem evp {α : Type} {c : Prop} [Decidable c] {f g : Nat→Option α} {r : α} (hc : c) (h : Ev f r) : Ev (fun k=>if c then f k else g k) r:=by simpa only [if_pos hc] using h
theorem evn {α : Type} {c : Prop} [Decidable c] {f g : Nat→Option α} {r : α} (hc : ¬ c) (h : Ev g r) : Ev (fun k=>if c then f k else g k) r:=by simpa only [if_neg hc] using h
theorem bt_get (s : ByteArray) (p : Nat) (h : p < s.size) : bt s (p : Int) = ((s.get! p).toNat : Int):=by
  have e : s.get! p = s[p]'h:=by
    cases s with
    | mk d=>exact getElem!_pos d p h
  unfold bt
  rw [dif_pos (by simpa using h),e]
  simp only [Int.toNat_natCast]
theorem more_f (s : ByteArray) (pos i : Nat) (h : s.size≤1000000) : gangerref09_more.f s ((pos + i : Nat) : Int) = some (if i < s.size - pos∧(s.get! (pos + i)).toNat / 64 = 2 then (((s.get! (pos + i)).toNat : Int) - 128,true) else (0,false)):=by
  unfold gangerref09_more.f
  by_cases q : i < s.size - pos
  · have hl : pos + i < s.size:=by omega
    rw [bt_get s (pos + i) hl]
    have hb:=(s.get! (pos + i)).toNat_lt
    generalize (s.get! (pos + i)).toNat = b at *
    rw [if_neg (by omega),if_pos (by omega),if_pos (by omega)]
    by_cases c1 : (b : Int) < 128
    · rw [if_pos c1,if_neg (by omega)]
    · rw [if_neg c1]
      by_cases c2 : (b : Int) > 191
      · rw [if_pos c2,if_neg (by omega)]
      · rw [if_neg c2,if_pos (by omega),w64 (x:=(b : Int)) (by omega),w64 (by omega)]
  · rw [if_pos (by omega),if_neg (by omega)]
theorem l0_more {s : ByteArray} {pos i n : Nat} {c x least : Int} {r : Int × Int} (hm : gangerref09_more.f s ((pos + i : Nat) : Int) = some (x,true)) (hp : pos≤1000000) (hi : i≤n) (hn : n≤3) (hc : 0≤c∧c≤100000) (hx : 0≤x∧x≤63)
    (h : Ev (fun k=>gangerref09_Rune.l0 k s (pos : Int) (c * 64 + x) (n : Int) least ((i + 1 : Nat) : Int)) r) : Ev (fun k=>gangerref09_Rune.l0 k s (pos : Int) c (n : Int) least (i : Int)) r:=by
  refine Ev.step (fun k=>by rw [gangerref09_Rune.l0]) ?_
  have e : wrap64 ((pos : Int) + (i : Int)) = ((pos + i : Nat) : Int):=by rw [w64 (by omega)];omega
  refine evp (by omega) ?_
  rw [e,hm]
  refine Ev.bind (Ev.now _) (evp rfl ?_)
  dsimp only
  rw [w64 (x:=c * 64) (by omega),w64 (x:=c * 64 + x) (by omega),w64 (x:=(i : Int) + 1) (by omega)]
  exact h
theorem l0_stop {s : ByteArray} {pos i n : Nat} {c least : Int} (hm : gangerref09_more.f s ((pos + i : Nat) : Int) = some (0,false)) (hp : pos≤1000000) (hi : i≤n) (hn : n≤3) :
    Ev (fun k=>gangerref09_Rune.l0 k s (pos : Int) c (n : Int) least (i : Int)) (0,0):=by
  refine Ev.step (fun k=>by rw [gangerref09_Rune.l0]) ?_
  have e : wrap64 ((pos : Int) + (i : Int)) = ((pos + i : Nat) : Int):=by rw [w64 (by omega)];omega
  refine evp (by omega) ?_
  rw [e,hm]
  refine Ev.bind (Ev.now _) (evn (by simp) (Ev.now _))
theorem l0_end {s : ByteArray} {pos n : Nat} {c least : Int} (hn : n≤3) :
    Ev (fun k=>gangerref09_Rune.l0 k s (pos : Int) c (n : Int) least ((n + 1 : Nat) : Int)) (if c < least ∨ c > 1114111 ∨ (55296≤c∧c≤57343) then (0,0) else (c,((n + 1 : Nat) : Int))):=by
  refine Ev.step (fun k=>by rw [gangerref09_Rune.l0]) ?_
  refine evn (by omega) ?_
  have e : wrap64 ((n : Int) + 1) = ((n + 1 : Nat) : Int):=by rw [w64 (by omega)];omega
  rw [e]
  by_cases a : c < least
  · rw [if_pos (Or.inl a)];exact evp a (Ev.now _)
  · refine evn a ?_
    by_cases b : c > 1114111
    · rw [if_pos (Or.inr (Or.inl b))];exact evp b (Ev.now _)
    · refine evn b ?_
      by_cases d : c ≥ 55296
      · refine evp d ?_
        by_cases f : c≤57343
        · rw [if_pos (Or.inr (Or.inr ⟨d,f⟩))];exact evp f (Ev.now _)
        · rw [if_neg (c:=c < least ∨ _) (by omega)];exact evn f (Ev.now _)
      · rw [if_neg (c:=c < least ∨ _) (by omega)];exact evn d (Ev.now _)
/-- the reference's rune -/
def runeR (d : Nat × Nat) : Int × Int:=if d = (65533,1) then (0,0) else ((d.1 : Int),(d.2 : Int))
theorem runeR_bad {d : Nat × Nat} (h : d = (65533,1)) : runeR d = (0,0):=if_pos h
theorem runeR_good {c n : Nat} {c' n' : Int} {d : Nat × Nat} (h : d = (c,n)) (hn : n ≠ 1 ∨ c ≠ 65533) (h1 : c' = (c : Int)) (h2 : n' = (n : Int)) : runeR d = (c',n'):=by
  unfold runeR
  rw [if_neg (by rw [h];intro e;have:=Prod.mk.inj e;omega),h,h1,h2]
set_option maxHeartbeats 4000000 in
theorem rune_ev (s : ByteArray) (pos : Nat) (h : pos < s.size) (hs : s.size≤1000000) : Ev (fun k=>gangerref09_Rune.f k s (pos : Int)) (runeR (Utf8.decode s pos)):=by
  have M1:=more_f s pos 1 hs
  have M2:=more_f s pos 2 hs
  have M3:=more_f s pos 3 hs
  have hb0:=(s.get! pos).toNat_lt
  have hb1:=(s.get! (pos + 1)).toNat_lt
  have hb2:=(s.get! (pos + 2)).toNat_lt
  have hb3:=(s.get! (pos + 3)).toNat_lt
  rw [decode_at]
  unfold gangerref09_Rune.f
  rw [bt_get s pos h]
  generalize (s.get! pos).toNat = b0 at *
  generalize (s.get! (pos + 1)).toNat = b1 at *
  generalize (s.get! (pos + 2)).toNat = b2 at *
  generalize (s.get! (pos + 3)).toNat = b3 at *
  have hn : 1≤s.size - pos:=by omega
  rw [w64 (x:=(b0 : Int)) (by omega)]
  refine evp (by omega) (evp (by omega) ?_)
  generalize s.size - pos = n at *
  by_cases A : (b0 : Int) < 128
  · refine evp A ?_
    rw [runeR_good (d:=decodeN n b0 b1 b2 b3) (c:=b0) (n:=1) (by unfold decodeN;rw [if_pos (by omega)]) (by omega) rfl rfl]
    exact Ev.now _
  refine evn A ?_
  have J0f : ∀ x,Ev (fun k=>gangerref09_Rune.j1 k s (pos : Int) (b0 : Int) false) x→Ev (fun k=>gangerref09_Rune.j1 k s (pos : Int) (b0 : Int) false) x:=fun _ q=>q
  by_cases B : (b0 : Int) < 192
  · have hd : decodeN n b0 b1 b2 b3 = (65533,1):=by
      unfold decodeN
      rw [if_neg (by omega),if_neg (by omega),if_neg (by omega),if_neg (by omega)]
    rw [runeR_bad hd]
    refine evn (by omega) ?_
    refine Ev.step (fun k=>by rw [gangerref09_Rune.j0]) ?_
    refine evn (by simp) (evn (by omega) ?_)
    refine Ev.step (fun k=>by rw [gangerref09_Rune.j1]) ?_
    exact evn (by simp) (evn (by omega) (Ev.now _))
  refine evp (by omega) ?_
  by_cases C : (b0 : Int) < 224
  · rw [decide_eq_true C]
    refine Ev.step (fun k=>by rw [gangerref09_Rune.j0]) ?_
    refine evp rfl ?_
    refine Ev.step (fun k=>by rw [gangerref09_Rune.j2]) ?_
    rw [w64 (x:=(b0 : Int) - 192) (by omega)]
    by_cases c1 : 1 < n∧b1 / 64 = 2
    · rw [if_pos c1] at M1
      refine l0_more (i:=1) (n:=1) M1 (by omega) (by omega) (by omega) (by omega) (by omega) ?_
      have hd : decodeN n b0 b1 b2 b3 = if b0 % 32 * 64 + b1 % 64 ≥ 128 then (b0 % 32 * 64 + b1 % 64,2) else (65533,1):=by
        unfold decodeN
        rw [if_neg (by omega),if_pos (by omega)]
      have he:=l0_end (s:=s) (pos:=pos) (n:=1) (c:=((b0 : Int) - 192) * 64 + ((b1 : Int) - 128)) (least:=128) (by omega)
      by_cases g : b0 % 32 * 64 + b1 % 64 ≥ 128
      · rw [if_pos g] at hd
        rw [if_neg (by omega)] at he
        rw [runeR_good hd (by omega) (c':=((b0 : Int) - 192) * 64 + ((b1 : Int) - 128)) (n':=((1 + 1 : Nat) : Int)) (by omega) (by omega)]
        exact he
      · rw [if_neg g] at hd
        rw [if_pos (by omega)] at he
        rw [runeR_bad hd]
        exact he
    · rw [if_neg c1] at M1
      have hd : decodeN n b0 b1 b2 b3 = (65533,1):=by
        unfold decodeN
        rw [if_neg (by omega),if_neg (by omega),if_neg (by omega),if_neg (by omega)]
      rw [runeR_bad hd]
      exact l0_stop (i:=1) (n:=1) M1 (by omega) (by omega) (by omega)
  rw [decide_eq_false C]
  refine Ev.step (fun k=>by rw [gangerref09_Rune.j0]) ?_
  refine evn (by simp) (evp (by omega) ?_)
  by_cases D : (b0 : Int) < 240
  · rw [decide_eq_true D]
    refine Ev.step (fun k=>by rw [gangerref09_Rune.j1]) ?_
    refine evp rfl ?_
    refine Ev.step (fun k=>by rw [gangerref09_Rune.j2]) ?_
    rw [w64 (x:=(b0 : Int) - 224) (by omega)]
    by_cases c1 : 1 < n∧b1 / 64 = 2
    · rw [if_pos c1] at M1
      refine l0_more (i:=1) (n:=2) M1 (by omega) (by omega) (by omega) (by omega) (by omega) ?_
      by_cases c2 : 2 < n∧b2 / 64 = 2
      · rw [if_pos c2] at M2
        refine l0_more (i:=2) (n:=2) M2 (by omega) (by omega) (by omega) (by omega) (by omega) ?_
        have hd : decodeN n b0 b1 b2 b3 = if b0 % 16 * 4096 + b1 % 64 * 64 + b2 % 64 ≥ 2048∧(b0 % 16 * 4096 + b1 % 64 * 64 + b2 % 64 < 55296 ∨ (57344≤b0 % 16 * 4096 + b1 % 64 * 64 + b2 % 64∧b0 % 16 * 4096 + b1 % 64 * 64 + b2 % 64≤1114111)) then (b0 % 16 * 4096 + b1 % 64 * 64 + b2 % 64,3) else (65533,1):=by
          unfold decodeN
          rw [if_neg (by omega),if_neg (by omega),if_pos (by omega)]
        have he:=l0_end (s:=s) (pos:=pos) (n:=2) (c:=(((b0 : Int) - 224) * 64 + ((b1 : Int) - 128)) * 64 + ((b2 : Int) - 128)) (least:=2048) (by omega)
        by_cases g : b0 % 16 * 4096 + b1 % 64 * 64 + b2 % 64 ≥ 2048∧(b0 % 16 * 4096 + b1 % 64 * 64 + b2 % 64 < 55296 ∨ (57344≤b0 % 16 * 4096 + b1 % 64 * 64 + b2 % 64∧b0 % 16 * 4096 + b1 % 64 * 64 + b2 % 64≤1114111))
        · rw [if_pos g] at hd
          rw [if_neg (by omega)] at he
          rw [runeR_good hd (by omega) (c':=(((b0 : Int) - 224) * 64 + ((b1 : Int) - 128)) * 64 + ((b2 : Int) - 128)) (n':=((2 + 1 : Nat) : Int)) (by omega) (by omega)]
          exact he
        · rw [if_neg g] at hd
          rw [if_pos (by omega)] at he
          rw [runeR_bad hd]
          exact he
      · rw [if_neg c2] at M2
        have hd : decodeN n b0 b1 b2 b3 = (65533,1):=by
          unfold decodeN
          rw [if_neg (by omega),if_neg (by omega),if_neg (by omega),if_neg (by omega)]
        rw [runeR_bad hd]
        exact l0_stop (i:=2) (n:=2) M2 (by omega) (by omega) (by omega)
    · rw [if_neg c1] at M1
      have hd : decodeN n b0 b1 b2 b3 = (65533,1):=by
        unfold decodeN
        rw [if_neg (by omega),if_neg (by omega),if_neg (by omega),if_neg (by omega)]
      rw [runeR_bad hd]
      exact l0_stop (i:=1) (n:=2) M1 (by omega) (by omega) (by omega)
  rw [decide_eq_false D]
  refine Ev.step (fun k=>by rw [gangerref09_Rune.j1]) ?_
  refine evn (by simp) (evp (by omega) ?_)
  by_cases E : (b0 : Int) < 248
  · refine evp E ?_
    refine Ev.step (fun k=>by rw [gangerref09_Rune.j2]) ?_
    rw [w64 (x:=(b0 : Int) - 240) (by omega)]
    by_cases c1 : 1 < n∧b1 / 64 = 2
    · rw [if_pos c1] at M1
      refine l0_more (i:=1) (n:=3) M1 (by omega) (by omega) (by omega) (by omega) (by omega) ?_
      by_cases c2 : 2 < n∧b2 / 64 = 2
      · rw [if_pos c2] at M2
        refine l0_more (i:=2) (n:=3) M2 (by omega) (by omega) (by omega) (by omega) (by omega) ?_
        by_cases c3 : 3 < n∧b3 / 64 = 2
        · rw [if_pos c3] at M3
          refine l0_more (i:=3) (n:=3) M3 (by omega) (by omega) (by omega) (by omega) (by omega) ?_
          have hd : decodeN n b0 b1 b2 b3 = if b0 % 8 * 262144 + b1 % 64 * 4096 + b2 % 64 * 64 + b3 % 64 ≥ 65536∧(b0 % 8 * 262144 + b1 % 64 * 4096 + b2 % 64 * 64 + b3 % 64 < 55296 ∨ (57344≤b0 % 8 * 262144 + b1 % 64 * 4096 + b2 % 64 * 64 + b3 % 64∧b0 % 8 * 262144 + b1 % 64 * 4096 + b2 % 64 * 64 + b3 % 64≤1114111)) then (b0 % 8 * 262144 + b1 % 64 * 4096 + b2 % 64 * 64 + b3 % 64,4) else (65533,1):=by
            unfold decodeN
            rw [if_neg (by omega),if_neg (by omega),if_neg (by omega),if_pos (by omega)]
          have he:=l0_end (s:=s) (pos:=pos) (n:=3) (c:=((((b0 : Int) - 240) * 64 + ((b1 : Int) - 128)) * 64 + ((b2 : Int) - 128)) * 64 + ((b3 : Int) - 128)) (least:=65536) (by omega)
          by_cases g : b0 % 8 * 262144 + b1 % 64 * 4096 + b2 % 64 * 64 + b3 % 64 ≥ 65536∧(b0 % 8 * 262144 + b1 % 64 * 4096 + b2 % 64 * 64 + b3 % 64 < 55296 ∨ (57344≤b0 % 8 * 262144 + b1 % 64 * 4096 + b2 % 64 * 64 + b3 % 64∧b0 % 8 * 262144 + b1 % 64 * 4096 + b2 % 64 * 64 + b3 % 64≤1114111))
          · rw [if_pos g] at hd
            rw [if_neg (by omega)] at he
            rw [runeR_good hd (by omega) (c':=((((b0 : Int) - 240) * 64 + ((b1 : Int) - 128)) * 64 + ((b2 : Int) - 128)) * 64 + ((b3 : Int) - 128)) (n':=((3 + 1 : Nat) : Int)) (by omega) (by omega)]
            exact he
          · rw [if_neg g] at hd
            rw [if_pos (by omega)] at he
            rw [runeR_bad hd]
            exact he
        · rw [if_neg c3] at M3
          have hd : decodeN n b0 b1 b2 b3 = (65533,1):=by
            unfold decodeN
            rw [if_neg (by omega),if_neg (by omega),if_neg (by omega),if_neg (by omega)]
          rw [runeR_bad hd]
          exact l0_stop (i:=3) (n:=3) M3 (by omega) (by omega) (by omega)
      · rw [if_neg c2] at M2
        have hd : decodeN n b0 b1 b2 b3 = (65533,1):=by
          unfold decodeN
          rw [if_neg (by omega),if_neg (by omega),if_neg (by omega),if_neg (by omega)]
        rw [runeR_bad hd]
        exact l0_stop (i:=2) (n:=3) M2 (by omega) (by omega) (by omega)
    · rw [if_neg c1] at M1
      have hd : decodeN n b0 b1 b2 b3 = (65533,1):=by
        unfold decodeN
        rw [if_neg (by omega),if_neg (by omega),if_neg (by omega),if_neg (by omega)]
      rw [runeR_bad hd]
      exact l0_stop (i:=1) (n:=3) M1 (by omega) (by omega) (by omega)
  · refine evn E ?_
    have hd : decodeN n b0 b1 b2 b3 = (65533,1):=by
      unfold decodeN
      rw [if_neg (by omega),if_neg (by omega),if_neg (by omega),if_neg (by omega)]
    rw [runeR_bad hd]
    exact Ev.now _
/-- which signs the reference lets stand in a name -/
def okR (c : Int) : Prop:=(48≤c∧c≤57) ∨ (65≤c∧c≤90) ∨ (97≤c∧c≤122) ∨ c = 45 ∨ c = 46 ∨ c = 95 ∨ 160 < c
instance (c : Int) : Decidable (okR c):=by unfold okR;exact inferInstance
theorem okR_rune (c : Nat) : okR (c : Int) ↔ okRune c = true:=by
  unfold okR okRune
  simp only [Bool.or_eq_true,Bool.and_eq_true,decide_eq_true_eq,beq_iff_eq]
  omega
/-- the same, without the signs beyond 160 -/
def okA (c : Int) : Prop:=(48≤c∧c≤57) ∨ (65≤c∧c≤90) ∨ (97≤c∧c≤122) ∨ c = 45 ∨ c = 46 ∨ c = 95
instance (c : Int) : Decidable (okA c):=by unfold okA;exact inferInstance
theorem okR_A (c : Int) : okR c ↔ okA c ∨ 160 < c:=by unfold okR okA;omega
set_option maxHeartbeats 8000000 in
theorem name_step (s : ByteArray) (at' n c w : Int) {r : Bool} (hR : Ev (fun k=>gangerref09_Rune.f k s at') (c,w)) (hlt : at' < (s.size : Int))
    (h : if w ≠ 0∧okR c then Ev (fun k=>gangerref09_Name.l0 k s (wrap64 (at' + w)) (wrap64 (n + 1))) r else r = false) : Ev (fun k=>gangerref09_Name.l0 k s at' n) r:=by
  have bad : Ev (fun k=>gangerref09_Name.j2 k s at' n w true) false:=by
    refine Ev.step (fun k=>by rw [gangerref09_Name.j2]) ?_
    exact evp rfl (Ev.now _)
  have J1 : Ev (fun k=>gangerref09_Name.j1 k s at' n c w (decide (okA c))) r:=by
    refine Ev.step (fun k=>by rw [gangerref09_Name.j1]) ?_
    by_cases g1 : w = 0
    · rw [if_neg (fun q=>q.1 g1)] at h
      subst h
      exact evp g1 bad
    · refine evn g1 ?_
      by_cases g : okR c
      · rw [if_pos ⟨g1,g⟩] at h
        have good : Ev (fun k=>gangerref09_Name.j2 k s at' n w false) r:=by
          refine Ev.step (fun k=>by rw [gangerref09_Name.j2]) ?_
          exact evn (by simp) h
        by_cases a : okA c
        · refine evp (by simpa using a) good
        · refine evn (by simpa using a) ?_
          have : 160 < c:=by
            rcases (okR_A c).1 g with q|q
            · exact absurd q a
            · exact q
          rw [decide_eq_false (by omega)]
          exact good
      · rw [if_neg (fun q=>g q.2)] at h
        subst h
        have a : ¬ okA c:=fun q=>g ((okR_A c).2 (Or.inl q))
        refine evn (by simpa using a) ?_
        rw [decide_eq_true (by have : ¬ 160 < c:=fun q=>g ((okR_A c).2 (Or.inr q));omega)]
        exact bad
  refine Ev.step (fun k=>by rw [gangerref09_Name.l0]) ?_
  refine evp hlt (Ev.bind hR ?_)
  dsimp only
  refine Ev.congr (f:=fun k=>gangerref09_Name.j1 k s at' n c w (decide (okA c))) (fun k=>?_) J1
  have last : ¬ ((48≤c∧c≤57) ∨ (65≤c∧c≤90) ∨ (97≤c∧c≤122) ∨ c = 45 ∨ c = 46)→(c == 95) = decide (okA c):=by
    intro q
    by_cases e : c = 95
    · rw [decide_eq_true (show okA c by unfold okA;omega),e];rfl
    · rw [decide_eq_false (show ¬ okA c by unfold okA;omega)];simpa using e
  repeat' split
  all_goals first
    | (refine congrArg _ ?_;symm;refine decide_eq_true ?_;unfold okA;omega)
    | (refine congrArg _ ?_;refine last ?_;omega)
    | (exfalso;omega)
theorem width_in (n b0 b1 b2 b3 : Nat) (hn : 1≤n) : (decodeN n b0 b1 b2 b3).2≤n:=by
  unfold decodeN
  repeat' split
  all_goals simp only []
  all_goals omega
theorem count_fuel (s : ByteArray) : ∀ (f g pos : Nat),s.size≤pos + f→s.size≤pos + g→runeCountFrom s f pos = runeCountFrom s g pos:=by
  intro f
  induction f with
  | zero=>intro g pos h1 h2;rw [runeCountFrom_end _ _ _ (by omega),runeCountFrom_end _ _ _ (by omega)]
  | succ f ih =>
    intro g pos h1 h2
    by_cases q : pos < s.size
    · obtain ⟨g,rfl⟩ : ∃ j,g = j + 1:=⟨g - 1,by omega⟩
      have:=decode_width_pos s pos q
      rw [runeCountFrom,runeCountFrom,if_pos q,if_pos q,ih g _ (by omega) (by omega)]
    · rw [runeCountFrom_end _ _ _ q,runeCountFrom_end _ _ _ q]
theorem name_l0 (s : ByteArray) (hs : s.size≤1000000) : ∀ (m pos n : Nat),s.size + 1≤pos + m→(∀ f,s.size≤pos + f→n + runeCountFrom s f pos = runeCount s)→n≤pos→pos≤s.size→(pos = 0→n = 0)→(0 < pos→0 < n) →
    Ev (fun k=>gangerref09_Name.l0 k s (pos : Int) (n : Int)) (nameAt m s pos)
  | 0,pos,n,hm,hc,hn,hp,hz,hz'=>by omega
  | m + 1,pos,n,hm,hc,hn,hp,hz,hz'=>by
    rw [nameAt]
    by_cases hlt : pos < s.size
    · rw [if_pos hlt]
      have hrl:=rune_ev s pos hlt hs
      have hw1:=decode_width_pos s pos hlt
      have hw2 : (Utf8.decode s pos).2≤s.size - pos:=by rw [decode_at];exact width_in _ _ _ _ _ (by omega)
      have hrest : (decodeGo (s.extract pos s.size)).2 = (Utf8.decode s pos).2:=by
        unfold decodeGo
        rw [if_neg (by rw [ByteArray.size_extract];omega),tail_decode,Nat.add_zero]
      have ih:=name_l0 s hs m (pos + (Utf8.decode s pos).2) (n + 1) (by omega) (fun f hf=>by
        have h1:=hc ((Utf8.decode s pos).2 - 1 + f + 1) (by omega)
        rw [runeCountFrom,if_pos hlt,count_fuel s _ f _ (by omega) hf] at h1
        omega) (by omega) (by omega) (by omega) (by omega)
      rw [hrest]
      generalize Utf8.decode s pos = d at *
      obtain ⟨c,w⟩:=d
      dsimp only at *
      by_cases g : c = 65533∧w = 1
      · rw [if_pos g]
        rw [runeR_bad (by rw [g.1,g.2])] at hrl
        exact name_step s _ _ _ _ hrl (by omega) (by rw [if_neg (by simp)])
      · rw [if_neg g]
        rw [runeR_good (c:=c) (n:=w) (c':=(c : Int)) (n':=(w : Int)) rfl (by omega) rfl rfl] at hrl
        refine name_step s _ _ _ _ hrl (by omega) ?_
        by_cases k : okRune c = true
        · rw [if_pos ⟨by omega,(okR_rune c).2 k⟩,if_pos k]
          rw [w64 (x:=(pos : Int) + (w : Int)) (by omega),w64 (x:=(n : Int) + 1) (by omega)]
          exact ih
        · rw [if_neg (fun q=>k ((okR_rune c).1 q.2)),if_neg k]
    · rw [if_neg hlt]
      obtain rfl : pos = s.size:=by omega
      have h0:=hc 0 (by omega)
      rw [runeCountFrom_end _ _ _ (by omega),Nat.add_zero] at h0
      refine Ev.step (fun k=>by rw [gangerref09_Name.l0]) ?_
      refine evn (by omega) ?_
      rw [← h0]
      have hl : s.toList.isEmpty = decide (n = 0):=by
        have e : s.toList.length = s.size:=by rw [ByteArray.toList_eq];rfl
        generalize s.toList = l at *
        cases l with
        | nil=>rw [List.length_nil] at e;rw [decide_eq_true (by omega)];rfl
        | cons a l=>rw [List.length_cons] at e;rw [decide_eq_false (by omega)];rfl
      rw [hl]
      by_cases g : (n : Int) ≥ 1
      · refine evp g ?_
        have : (!decide (n = 0) && decide (n≤32)) = decide ((n : Int)≤32):=by
          rw [decide_eq_false (by omega)]
          exact decide_eq_decide.2 (by omega)
        rw [this]
        exact Ev.now _
      · refine evn g ?_
        rw [decide_eq_true (by omega)]
        exact Ev.now _
theorem name_ev (s : ByteArray) (hs : s.size≤1000000) : Ev (fun k=>gangerref09_Name.f k s) (nameAt (s.size + 1) s 0):=by
  refine name_l0 s hs (s.size + 1) 0 0 (by omega) (fun f hf=>?_) (by omega) (by omega) (fun _=>rfl) (by omega)
  rw [Nat.zero_add]
  exact count_fuel s f s.size 0 hf (by omega)
end Go.Proofs.YtakdneopmojjdaaDoor.RefName
