/- cut to what one law reaches -/
import Derived.Test.YtakdneopmojjdaaDoorBfShort
import Derived.Test.YtakdneopmojjdaaDoorBfP0
import Derived.Test.YtakdneopmojjdaaDoorBfP3
namespace Go.Proofs.YtakdneopmojjdaaDoor.P
open Go.RowKit Go.Proofs.YtakdneopmojjdaaDoorW.PrintWords Go.Proofs.YtakdneopmojjdaaDoorW.PrintLast Go.Proofs.YtakdneopmojjdaaDoorW.PrintMore
attribute [local go_sem] max2_int min2_int max_two min_two max_three min_three max_four min_four   -- for this text's walks alone
set_option linter.unusedVariables false
set_option linter.unusedSimpArgs false
attribute [local go_sem] isSome_setCell
def book_Check.l0 : Nat→List (S24)→List (S24)→Int→Int→Option (Int)
 | 0,_,_,_,_=>none
 | k + 1,x0,x8,x9,x10=>if x10 < x9 then (if 0≤x10 then (if x10 < (x8.length : Int) then ((book_right.f ((rd_T24 x8 x10).f0) ((rd_T24 x8 x10).f1) ((rd_T24 x8 x10).f2) ((rd_T24 x8 x10).f3) ((rd_T24 x8 x10).f4) ((rd_T24 x8 x10).f5)).bind fun t137=>(if t137 = true then (if x10 > 0 then (if 0≤(wrap64 (x10 - 1)) then (if (wrap64 (x10 - 1)) < (x0.length : Int) then (if ((rd_T24 x8 x10).f5) < ((rd_T24 x0 (wrap64 (x10 - 1))).f5) then (some 200) else (book_Check.l0 k x0 x8 x9 (wrap64 (x10 + 1)))) else (none)) else (none)) else (book_Check.l0 k x0 x8 x9 (wrap64 (x10 + 1)))) else (some 200))) else (none)) else (none)) else (some 0)
def book_Check.f (k : Nat) (l0 : List (S24)) : Option (Int):=if (l0.length : Int) > 2000 then (some 200) else (book_Check.l0 k l0 l0 (l0.length : Int) 0)
theorem book_Check.mono_l : ∀ k,(∀ y0 y1 y2 y3,LeO (book_Check.l0 k y0 y1 y2 y3) (book_Check.l0 (k + 1) y0 y1 y2 y3))
 | 0=>fun _ _ _ _ r h=>by simp [book_Check.l0] at h
 | k + 1=>by
  have ih0:=book_Check.mono_l k
  ·intro y0 y1 y2 y3
   unfold book_Check.l0
   repeat' first
   | (with_reducible exact ih0 _ _ _ _)
   | (with_reducible exact LeO.refl _)
   | (with_reducible exact LeO.none _)
   | (with_reducible refine LeO.ite ?_ ?_)
   | (with_reducible refine LeO.bind ?_ (fun _=>?_))
   | exact ih0 _ _ _ _
   | exact LeO.none _
   | refine LeO.ite ?_ ?_
   | refine LeO.bind ?_ (fun _=>?_)
theorem book_Check.mono : ∀ a0 k,LeO (book_Check.f k a0) (book_Check.f (k + 1) a0):=by
 intro a0 k
 have ih0:=book_Check.mono_l k
 unfold book_Check.f
 repeat' first
   | (with_reducible exact ih0 _ _ _ _)
   | (with_reducible exact LeO.refl _)
   | (with_reducible exact LeO.none _)
   | (with_reducible refine LeO.ite ?_ ?_)
   | (with_reducible refine LeO.bind ?_ (fun _=>?_))
   | exact ih0 _ _ _ _
   | exact LeO.none _
   | refine LeO.ite ?_ ?_
   | refine LeO.bind ?_ (fun _=>?_)
def book_Check.T6 : Bool × List (List Nat × List Nat):=(true,[([],[]),([0],[0]),([1],[1]),([2,1],[2]),([3],[3]),([4,3],[3,4]),([5,3,3],[3,5]),([6],[6]),([7,6],[6,7]),([6],[6]),([6],[6]),([10,6],[6,10]),([9,11,6],[6,9,11]),([12,6],[6,12]),([13,6],[6,13]),([8,14,6],[6,8,14]),([6,15,3],[3,6,15]),([3,16],[3,16])])
def book_Check.B6 : List Nat:=[0,1,3,7,15,31,63,127,255,127,127,1151,3711,7807,15999,32767,65535,131071]
theorem book_Check.tab6 : rtab .any (opsOf Tryd.f12 6) = book_Check.T6:=by kernel_rfl
theorem book_Check.bits6 : waitsOk book_Check.T6.2 book_Check.B6 = true:=by kernel_rfl
set_option maxHeartbeats 8000000 in
set_option maxRecDepth 100000 in
theorem book_Check.calls (k : Nat) (A0 : Option Addr) (c0 : Nat) (l0 : List (S24)) (r : Int) (w : World) (hG : Glob w) (hr0 : Kd.C k24 w A0 l0.length l0) (hc0 : l0.length≤c0) (h : book_Check.f k l0 = some r) :
  Calls Tryd.prog 12 #[.slice A0 l0.length c0] w fun e w'=>e = .returned (.int .i64 r)∧Below w.heap.size w w':=by
 have hu24:=Tryd.underlying24
 have HG:=Am hG
 clear hG
 have HR0:=Am hr0
 have HC0:=Am hc0
 clear hr0 hc0
 have HB:=Am (Below.refl w.heap.size w)
 have H : (if (l0.length : Int) > 2000 then (some 200) else (book_Check.l0 k l0 l0 (l0.length : Int) 0)) = some r:=h
 clear h
 by_cases c2 : (l0.length : Int) > 2000
 ·rw [if_pos c2] at H
  have c2b0 : decide (2000 < (l0.length : Int)) = true:=decide_eq_true c2
  have c2b1 : decide (2000 < l0.length) = true:=decide_eq_true (by omega)
  clear c2
  obtain rfl:=Option.some.inj H
  go_enter Tryd.func12,Tryd.ntmps12
  go_wp2
  go_ret
  exact ⟨by first|rfl|(simp [errW_none,errW_some] <;> rfl)|(simp [*,errW_none,errW_some] <;> rfl),by repeat (first|(with_reducible first|exact HB.out|apply bL|apply pN|apply bE)|exact HB.out)⟩
 rw [if_neg c2] at H
 have c2b0 : decide (2000 < (l0.length : Int)) = false:=decide_eq_false c2
 have c2b1 : decide (2000 < l0.length) = false:=decide_eq_false (by omega)
 clear c2
 have H':=Am H
 clear H
 go_enter Tryd.func12,Tryd.ntmps12
 go_wp2
 go_loopg [10] k (fun kq v10 w'=>∃ (x10_1 : Int),v10 = .int .i64 x10_1∧Aside0 (book_Check.l0 kq l0 l0 (l0.length : Int) x10_1 = some r)∧Aside0 (kq≤k)∧Aside0 (Below w.heap.size w w'))
 case atStart=>exact ⟨(0),(by first|rfl|(simp;done)|(simp [*];done)),H',⟨Nat.le_refl _⟩,⟨by repeat (first|(with_reducible first|exact HB.out|apply bL|apply pN|apply bE)|exact HB.out)⟩⟩
 case round =>
  clear H'
  obtain ⟨x10_1,rfl,HA,HK1,HB⟩:=hrel
  cases gk with
  | zero=>exact absurd HA.out (by simp [book_Check.l0])
  | succ k1 =>
   have H:=HA.out
   clear HA
   simp only [book_Check.l0] at H
   by_cases c3 : x10_1 < (l0.length : Int)
   rotate_left
   ·rw [if_neg c3] at H
    have c3b0 : decide (x10_1 < (l0.length : Int)) = false:=decide_eq_false c3
    clear c3
    obtain rfl:=Option.some.inj H
    go_wp2
    go_ret
    exact ⟨by first|rfl|(simp [errW_none,errW_some] <;> rfl)|(simp [*,errW_none,errW_some] <;> rfl),by repeat (first|(with_reducible first|exact HB.out|apply bL|apply pN|apply bE)|exact HB.out)⟩
   rw [if_pos c3] at H
   have c3b0 : decide (x10_1 < (l0.length : Int)) = true:=decide_eq_true c3
   clear c3
   by_cases c4 : 0≤x10_1
   rotate_left
   ·rw [if_neg c4] at H
    exact absurd H (by simp)
   rw [if_pos c4] at H
   have c4b0 : decide (0≤x10_1) = true:=decide_eq_true c4
   clear c4
   by_cases c5 : x10_1 < (l0.length : Int)
   rotate_left
   ·rw [if_neg c5] at H
    exact absurd H (by simp)
   rw [if_pos c5] at H
   have c5b0 : decide (x10_1 < (l0.length : Int)) = true:=decide_eq_true c5
   clear c5
   replace H:=oB H
   obtain ⟨t137,A60,H⟩:=H
   try dsimp only at H
   have A6:=Am A60
   clear A60
   by_cases c7 : t137 = true
   rotate_left
   ·replace c7:=Bool.eq_false_iff.mpr c7
    subst c7
    have H1 : (some 200) = some r:=by rw [if_neg (show ¬ (false = true) by decide)] at H;exact H
    clear H
    have H:=H1
    clear H1
    obtain rfl:=Option.some.inj H
    have p135 : 0≤(x10_1 : Int):=of_decide_eq_true (by first|(with_reducible assumption)|assumption)
    have q135 : x10_1 < (l0.length : Int):=of_decide_eq_true (by first|(with_reducible assumption)|assumption)
    obtain ⟨ad135,e135,hx135_0,hx135_1,hx135_2,hx135_3,hx135_4,hx135_5⟩:=at_T24 HR0.out x10_1 p135 q135
    cases e135
    replace hx135_0:=(HB.out.cell (wB w _ hx135_0)).trans hx135_0
    replace hx135_1:=(HB.out.cell (wB w _ hx135_1)).trans hx135_1
    replace hx135_2:=(HB.out.cell (wB w _ hx135_2)).trans hx135_2
    replace hx135_3:=(HB.out.cell (wB w _ hx135_3)).trans hx135_3
    replace hx135_4:=(HB.out.cell (wB w _ hx135_4)).trans hx135_4
    replace hx135_5:=(HB.out.cell (wB w _ hx135_5)).trans hx135_5
    replace p135:=eq_true p135
    replace q135:=eq_true q135
    try go_wp2_with (first|((with_reducible refine gD (N:=4) rfl ?_);refine box_event ?hg (N:=4) ?hd (cs:=#[.int .u32 0,.string (⟨#[]⟩ : ByteArray),.int .i64 0,.int .i64 0,.int .i64 0,.int .i64 0]) (t:=24) ?hr ?_;(case hd=>rfl);(case hg=>rfl);(case hr=>first|(go_simp;done)|(go_simp;rfl));intro gb136 hg w28 hbox hb;have n0_:=Am (below_step (by repeat (first|(with_reducible first|exact HB.out|apply bL|apply pN|apply bE)|exact HB.out)) hb);have n1_:=Am (hbox);have n2_:=Am ((by rw [hg];exact (bZ (by repeat (first|(with_reducible first|exact HB.out|apply bL|apply pN|apply bE)|exact HB.out))) : w.heap.size≤gb136));have n3_:=n2_;clear HB;have HB:=n0_;have BK136:=n1_;have GW136:=n2_;have GE136:=n3_;clear n0_ n1_ n2_ n3_;clear hb hbox hg;obtain ⟨X29_0,X29_1,X29_2,X29_3,X29_4,X29_5,Y29_0,Y29_1,Y29_2,Y29_3,Y29_4,Y29_5⟩:=kc6 (w:=w28) (g:=gb136) BK136.out))
    have n0_ : Aside0 (((((((w28.setCell ⟨gb136,0,none⟩ (.int .u32 ((rd_T24 l0 x10_1).f0))).setCell ⟨gb136,1,none⟩ (.string ((rd_T24 l0 x10_1).f1))).setCell ⟨gb136,2,none⟩ (.int .i64 ((rd_T24 l0 x10_1).f2))).setCell ⟨gb136,3,none⟩ (.int .i64 ((rd_T24 l0 x10_1).f3))).setCell ⟨gb136,4,none⟩ (.int .i64 ((rd_T24 l0 x10_1).f4))).setCell ⟨gb136,5,none⟩ (.int .i64 ((rd_T24 l0 x10_1).f5))).heap[gb136]? = some (.cells #[.int .u32 ((rd_T24 l0 x10_1).f0),.string ((rd_T24 l0 x10_1).f1),.int .i64 ((rd_T24 l0 x10_1).f2),.int .i64 ((rd_T24 l0 x10_1).f3),.int .i64 ((rd_T24 l0 x10_1).f4),.int .i64 ((rd_T24 l0 x10_1).f5)] 24 (0,0))):=⟨by (with_reducible repeat (first|refine bN ?_ _|refine bD ?_|refine bA ?_ _));refine blk_put (cs:=#[.int .u32 ((rd_T24 l0 x10_1).f0),.string ((rd_T24 l0 x10_1).f1),.int .i64 ((rd_T24 l0 x10_1).f2),.int .i64 ((rd_T24 l0 x10_1).f3),.int .i64 ((rd_T24 l0 x10_1).f4),.int .i64 0]) ?_ 5 _ rfl;(with_reducible repeat (first|refine bN ?_ _|refine bD ?_|refine bA ?_ _));refine blk_put (cs:=#[.int .u32 ((rd_T24 l0 x10_1).f0),.string ((rd_T24 l0 x10_1).f1),.int .i64 ((rd_T24 l0 x10_1).f2),.int .i64 ((rd_T24 l0 x10_1).f3),.int .i64 0,.int .i64 0]) ?_ 4 _ rfl;(with_reducible repeat (first|refine bN ?_ _|refine bD ?_|refine bA ?_ _));refine blk_put (cs:=#[.int .u32 ((rd_T24 l0 x10_1).f0),.string ((rd_T24 l0 x10_1).f1),.int .i64 ((rd_T24 l0 x10_1).f2),.int .i64 0,.int .i64 0,.int .i64 0]) ?_ 3 _ rfl;(with_reducible repeat (first|refine bN ?_ _|refine bD ?_|refine bA ?_ _));refine blk_put (cs:=#[.int .u32 ((rd_T24 l0 x10_1).f0),.string ((rd_T24 l0 x10_1).f1),.int .i64 0,.int .i64 0,.int .i64 0,.int .i64 0]) ?_ 2 _ rfl;(with_reducible repeat (first|refine bN ?_ _|refine bD ?_|refine bA ?_ _));refine blk_put (cs:=#[.int .u32 ((rd_T24 l0 x10_1).f0),.string (⟨#[]⟩ : ByteArray),.int .i64 0,.int .i64 0,.int .i64 0,.int .i64 0]) ?_ 1 _ rfl;(with_reducible repeat (first|refine bN ?_ _|refine bD ?_|refine bA ?_ _));refine blk_put (cs:=#[.int .u32 0,.string (⟨#[]⟩ : ByteArray),.int .i64 0,.int .i64 0,.int .i64 0,.int .i64 0]) ?_ 0 _ rfl;(with_reducible repeat (first|refine bN ?_ _|refine bD ?_|refine bA ?_ _));exact BK136.out⟩
    have n1_ : Aside0 (Below w.heap.size w ((((((w28.setCell ⟨gb136,0,none⟩ (.int .u32 ((rd_T24 l0 x10_1).f0))).setCell ⟨gb136,1,none⟩ (.string ((rd_T24 l0 x10_1).f1))).setCell ⟨gb136,2,none⟩ (.int .i64 ((rd_T24 l0 x10_1).f2))).setCell ⟨gb136,3,none⟩ (.int .i64 ((rd_T24 l0 x10_1).f3))).setCell ⟨gb136,4,none⟩ (.int .i64 ((rd_T24 l0 x10_1).f4))).setCell ⟨gb136,5,none⟩ (.int .i64 ((rd_T24 l0 x10_1).f5)))):=⟨by repeat (first|(with_reducible first|exact HB.out|apply bL|apply pN|apply bE|refine bS ?_ GE136.out)|exact HB.out)⟩
    generalize ((((((w28.setCell ⟨gb136,0,none⟩ (.int .u32 ((rd_T24 l0 x10_1).f0))).setCell ⟨gb136,1,none⟩ (.string ((rd_T24 l0 x10_1).f1))).setCell ⟨gb136,2,none⟩ (.int .i64 ((rd_T24 l0 x10_1).f2))).setCell ⟨gb136,3,none⟩ (.int .i64 ((rd_T24 l0 x10_1).f3))).setCell ⟨gb136,4,none⟩ (.int .i64 ((rd_T24 l0 x10_1).f4))).setCell ⟨gb136,5,none⟩ (.int .i64 ((rd_T24 l0 x10_1).f5))) = w30 at n0_ n1_ ⊢
    have BK136:=n0_
    have HB:=n1_
    clear n0_ n1_
    have n0_:=Am (bD BK136.out)
    have n1_:=Am (bE HB.out)
    clear BK136
    clear HB
    have BK136:=n0_
    have HB:=n1_
    clear n0_ n1_
    refine start_ (n:=18) (S:=fun w'=>w'.cell? ⟨gb136,0,none⟩ = some (.int .u32 ((rd_T24 l0 x10_1).f0))∧w'.cell? ⟨gb136,1,none⟩ = some (.string ((rd_T24 l0 x10_1).f1))∧w'.cell? ⟨gb136,2,none⟩ = some (.int .i64 ((rd_T24 l0 x10_1).f2))∧w'.cell? ⟨gb136,3,none⟩ = some (.int .i64 ((rd_T24 l0 x10_1).f3))∧w'.cell? ⟨gb136,4,none⟩ = some (.int .i64 ((rd_T24 l0 x10_1).f4))∧w'.cell? ⟨gb136,5,none⟩ = some (.int .i64 ((rd_T24 l0 x10_1).f5))) (ds:=[]) #[O,O,O,O,O,O,O,O,O,O,O,O,O,O,O,O,O,O] (by kernel_rfl) rfl rfl ⟨(bC BK136.out 0).trans rfl,(bC BK136.out 1).trans rfl,(bC BK136.out 2).trans rfl,(bC BK136.out 3).trans rfl,(bC BK136.out 4).trans rfl,(bC BK136.out 5).trans rfl⟩ (fun hHeld=>?_);refine with_tabW book_Check.tab6 book_Check.bits6 (fun HT_ HW_=>?_)
    generalize w30.drew = w31 at BK136 HB hHeld ⊢
    refine take_ (i:=0) (N:=some 15) (v:=?_) (a':=?_) #[J,O,O,O,O,O,O,O,O,O,O,O,O,O,O,O,O,O] rfl rfl (take_ofW HT_.out HW_.out (by kernel_rfl)) (fun _ _ _ h=>h) (Or.inl ⟨by rfl,?_⟩) hHeld ?_ ?_
    rotate_left
    ·rintro w' ⟨s0,s1,s2,s3,s4,s5⟩
     go_simp
     with_reducible rfl
    rotate_left
    ·simp only [Act.put,sT,sZ,sS,iW,iV]
     rfl
    refine one_ (i:=1) (N:=some 16) #[J,J,O,O,O,O,O,O,O,O,O,O,O,O,O,O,O,O] rfl rfl (one_of HT_.out (by kernel_rfl)) (by decide) (fun K hK=>?_)
    refine goes_ Tryd.func19 (by kernel_rfl) rfl #[.agg #[.int .u32 ((rd_T24 l0 x10_1).f0),.string ((rd_T24 l0 x10_1).f1),.int .i64 ((rd_T24 l0 x10_1).f2),.int .i64 ((rd_T24 l0 x10_1).f3),.int .i64 ((rd_T24 l0 x10_1).f4),.int .i64 ((rd_T24 l0 x10_1).f5)]] (by rfl) rfl rfl (by (try simp only [mT,mC,mN]);first|done|rfl|(simp only [lD,lT];rfl)) ?_
    with_reducible refine (book_right.calls ((rd_T24 l0 x10_1).f0) ((rd_T24 l0 x10_1).f1) ((rd_T24 l0 x10_1).f2) ((rd_T24 l0 x10_1).f3) ((rd_T24 l0 x10_1).f4) ((rd_T24 l0 x10_1).f5) false _ ?side1 A6.out).mono ?_
    (case side1=>exact Glob.below HG.out (by repeat (first|(with_reducible first|exact HB.out|apply bL|apply pN|apply bE|refine bS ?_ GE136.out)|exact HB.out)))
    rintro e w32 ⟨rfl,hb⟩
    refine ⟨_,rfl,?_⟩
    have n0_:=Am (blk_below (g:=gb136) (by (with_reducible repeat (first|refine bN ?_ _|refine bD ?_|refine bA ?_ _));exact BK136.out) hb)
    have n1_:=Am (below_step (by repeat (first|(with_reducible first|exact HB.out|apply bL|apply pN|apply bE|refine bS ?_ GE136.out)|exact HB.out)) hb)
    clear BK136
    clear HB
    have BK136:=n0_
    have HB:=n1_
    clear n0_ n1_
    refine hK.out _ _ ⟨(bC BK136.out 0).trans rfl,(bC BK136.out 1).trans rfl,(bC BK136.out 2).trans rfl,(bC BK136.out 3).trans rfl,(bC BK136.out 4).trans rfl,(bC BK136.out 5).trans rfl⟩ (fun hHeld=>?_)
    clear hK K
    refine norm_ (a':=?_) ?_ ?_
    rotate_left
    ·show Act.put _ (some 16) _ = _
     simp only [Act.put,sT,sZ,sS,iW,iV]
     rfl
    refine pure_ (i:=2) (N:=some 17) (v:=?_) (a':=?_) #[J,J,J,O,O,O,O,O,O,O,O,O,O,O,O,O,O,O] rfl rfl (any_of HT_.out (by kernel_rfl)) (fun _ _ _ h=>h) (Or.inl ⟨by rfl,?_⟩) ?_ ?_
    rotate_left
    ·intro w'
     go_simp
     with_reducible rfl
    rotate_left
    ·simp only [Act.put,sT,sZ,sS,iW,iV]
     rfl
    refine pure_ (i:=3) (N:=some 18) (v:=?_) (a':=?_) #[J,J,J,J,O,O,O,O,O,O,O,O,O,O,O,O,O,O] rfl rfl (any_of HT_.out (by kernel_rfl)) (fun _ _ _ h=>h) (Or.inl ⟨by rfl,?_⟩) ?_ ?_
    rotate_left
    ·intro w'
     go_simp
     with_reducible rfl
    rotate_left
    ·simp only [Act.put,sT,sZ,sS,iW,iV]
     rfl
    refine pure_ (i:=4) (N:=some 19) (v:=undef) (a':=?_) #[J,J,J,J,J,O,O,O,O,O,O,O,O,O,O,O,O,O] rfl rfl (any_of HT_.out (by kernel_rfl)) (fun _ _ _ h=>h) (Or.inr ⟨by rfl,rfl⟩) ?_ ?_
    rotate_left
    ·simp only [Act.put,sT,sZ,sS,iW,iV]
     rfl
    refine pure_ (i:=5) (N:=some 20) (v:=undef) (a':=?_) #[J,J,J,J,J,J,O,O,O,O,O,O,O,O,O,O,O,O] rfl rfl (any_of HT_.out (by kernel_rfl)) (fun _ _ _ h=>h) (Or.inr ⟨by rfl,rfl⟩) ?_ ?_
    rotate_left
    ·simp only [Act.put,sT,sZ,sS,iW,iV]
     rfl
    refine pure_ (i:=6) (N:=some 21) (v:=undef) (a':=?_) #[J,J,J,J,J,J,J,O,O,O,O,O,O,O,O,O,O,O] rfl rfl (any_of HT_.out (by kernel_rfl)) (fun _ _ _ h=>h) (Or.inr ⟨by rfl,rfl⟩) ?_ ?_
    rotate_left
    ·simp only [Act.put,sT,sZ,sS,iW,iV]
     rfl
    refine pure_ (i:=7) (N:=some 22) (v:=undef) (a':=?_) #[J,J,J,J,J,J,J,J,O,O,O,O,O,O,O,O,O,O] rfl rfl (any_of HT_.out (by kernel_rfl)) (fun _ _ _ h=>h) (Or.inr ⟨by rfl,rfl⟩) ?_ ?_
    rotate_left
    ·simp only [Act.put,sT,sZ,sS,iW,iV]
     rfl
    refine pure_ (i:=8) (N:=some 23) (v:=undef) (a':=?_) #[J,J,J,J,J,J,J,J,J,O,O,O,O,O,O,O,O,O] rfl rfl (any_of HT_.out (by kernel_rfl)) (fun _ _ _ h=>h) (Or.inr ⟨by rfl,rfl⟩) ?_ ?_
    rotate_left
    ·simp only [Act.put,sT,sZ,sS,iW,iV]
     rfl
    refine pure_ (i:=9) (N:=some 24) (v:=undef) (a':=?_) #[J,J,J,J,J,J,J,J,J,J,O,O,O,O,O,O,O,O] rfl rfl (any_of HT_.out (by kernel_rfl)) (fun _ _ _ h=>h) (Or.inr ⟨by rfl,rfl⟩) ?_ ?_
    rotate_left
    ·simp only [Act.put,sT,sZ,sS,iW,iV]
     rfl
    refine pure_ (i:=10) (N:=some 25) (v:=undef) (a':=?_) #[J,J,J,J,J,J,J,J,J,J,J,O,O,O,O,O,O,O] rfl rfl (any_of HT_.out (by kernel_rfl)) (fun _ _ _ h=>h) (Or.inr ⟨by rfl,rfl⟩) ?_ ?_
    rotate_left
    ·simp only [Act.put,sT,sZ,sS,iW,iV]
     rfl
    refine pure_ (i:=11) (N:=some 26) (v:=undef) (a':=?_) #[J,J,J,J,J,J,J,J,J,J,J,J,O,O,O,O,O,O] rfl rfl (any_of HT_.out (by kernel_rfl)) (fun _ _ _ h=>h) (Or.inr ⟨by rfl,rfl⟩) ?_ ?_
    rotate_left
    ·simp only [Act.put,sT,sZ,sS,iW,iV]
     rfl
    refine pure_ (i:=12) (N:=some 27) (v:=undef) (a':=?_) #[J,J,J,J,J,J,J,J,J,J,J,J,J,O,O,O,O,O] rfl rfl (any_of HT_.out (by kernel_rfl)) (fun _ _ _ h=>h) (Or.inr ⟨by rfl,rfl⟩) ?_ ?_
    rotate_left
    ·simp only [Act.put,sT,sZ,sS,iW,iV]
     rfl
    refine pure_ (i:=13) (N:=some 28) (v:=undef) (a':=?_) #[J,J,J,J,J,J,J,J,J,J,J,J,J,J,O,O,O,O] rfl rfl (any_of HT_.out (by kernel_rfl)) (fun _ _ _ h=>h) (Or.inr ⟨by rfl,rfl⟩) ?_ ?_
    rotate_left
    ·simp only [Act.put,sT,sZ,sS,iW,iV]
     rfl
    refine pure_ (i:=14) (N:=some 29) (v:=undef) (a':=?_) #[J,J,J,J,J,J,J,J,J,J,J,J,J,J,J,O,O,O] rfl rfl (any_of HT_.out (by kernel_rfl)) (fun _ _ _ h=>h) (Or.inr ⟨by rfl,rfl⟩) ?_ ?_
    rotate_left
    ·simp only [Act.put,sT,sZ,sS,iW,iV]
     rfl
    refine pure_ (i:=15) (N:=some 30) (v:=undef) (a':=?_) #[J,J,J,J,J,J,J,J,J,J,J,J,J,J,J,J,O,O] rfl rfl (any_of HT_.out (by kernel_rfl)) (fun _ _ _ h=>h) (Or.inr ⟨by rfl,rfl⟩) ?_ ?_
    rotate_left
    ·simp only [Act.put,sT,sZ,sS,iW,iV]
     rfl
    refine pure_ (i:=16) (N:=some 31) (v:=undef) (a':=?_) #[J,J,J,J,J,J,J,J,J,J,J,J,J,J,J,J,J,O] rfl rfl (any_of HT_.out (by kernel_rfl)) (fun _ _ _ h=>h) (Or.inr ⟨by rfl,rfl⟩) ?_ ?_
    rotate_left
    ·simp only [Act.put,sT,sZ,sS,iW,iV]
     rfl
    refine pure_ (i:=17) (N:=some 32) (v:=?_) (a':=?_) #[J,J,J,J,J,J,J,J,J,J,J,J,J,J,J,J,J,J] rfl rfl (any_of HT_.out (by kernel_rfl)) (fun _ _ _ h=>h) (Or.inl ⟨by rfl,?_⟩) ?_ ?_
    rotate_left
    ·intro w'
     go_simp
     with_reducible rfl
    rotate_left
    ·simp only [Act.put,sT,sZ,sS,iW,iV]
     rfl
    refine done_ (done_of HT_.out (by kernel_rfl)) ?_
    try go_wp2
    go_ret
    exact ⟨by first|rfl|(simp [errW_none,errW_some] <;> rfl)|(simp [*,errW_none,errW_some] <;> rfl),by repeat (first|(with_reducible first|exact HB.out|apply bL|apply pN|apply bE|refine bS ?_ GE136.out)|exact HB.out)⟩
   subst c7
   have H1 : (if x10_1 > 0 then (if 0≤(wrap64 (x10_1 - 1)) then (if (wrap64 (x10_1 - 1)) < (l0.length : Int) then (if ((rd_T24 l0 x10_1).f5) < ((rd_T24 l0 (wrap64 (x10_1 - 1))).f5) then (some 200) else (book_Check.l0 k1 l0 l0 (l0.length : Int) (wrap64 (x10_1 + 1)))) else (none)) else (none)) else (book_Check.l0 k1 l0 l0 (l0.length : Int) (wrap64 (x10_1 + 1)))) = some r:=by rw [if_pos rfl] at H;exact H
   clear H
   have H:=H1
   clear H1
   by_cases c8 : x10_1 > 0
   rotate_left
   ·rw [if_neg c8] at H
    have c8b0 : decide (0 < x10_1) = false:=decide_eq_false c8
    clear c8
    have H':=Am H
    clear H
    have p135 : 0≤(x10_1 : Int):=of_decide_eq_true (by first|(with_reducible assumption)|assumption)
    have q135 : x10_1 < (l0.length : Int):=of_decide_eq_true (by first|(with_reducible assumption)|assumption)
    obtain ⟨ad135,e135,hx135_0,hx135_1,hx135_2,hx135_3,hx135_4,hx135_5⟩:=at_T24 HR0.out x10_1 p135 q135
    cases e135
    replace hx135_0:=(HB.out.cell (wB w _ hx135_0)).trans hx135_0
    replace hx135_1:=(HB.out.cell (wB w _ hx135_1)).trans hx135_1
    replace hx135_2:=(HB.out.cell (wB w _ hx135_2)).trans hx135_2
    replace hx135_3:=(HB.out.cell (wB w _ hx135_3)).trans hx135_3
    replace hx135_4:=(HB.out.cell (wB w _ hx135_4)).trans hx135_4
    replace hx135_5:=(HB.out.cell (wB w _ hx135_5)).trans hx135_5
    replace p135:=eq_true p135
    replace q135:=eq_true q135
    try go_wp2_with (first|((with_reducible refine gD (N:=4) rfl ?_);refine box_event ?hg (N:=4) ?hd (cs:=#[.int .u32 0,.string (⟨#[]⟩ : ByteArray),.int .i64 0,.int .i64 0,.int .i64 0,.int .i64 0]) (t:=24) ?hr ?_;(case hd=>rfl);(case hg=>rfl);(case hr=>first|(go_simp;done)|(go_simp;rfl));intro gb136 hg w23 hbox hb;have n0_:=Am (below_step (by repeat (first|(with_reducible first|exact HB.out|apply bL|apply pN|apply bE)|exact HB.out)) hb);have n1_:=Am (hbox);have n2_:=Am ((by rw [hg];exact (bZ (by repeat (first|(with_reducible first|exact HB.out|apply bL|apply pN|apply bE)|exact HB.out))) : w.heap.size≤gb136));have n3_:=n2_;clear HB;have HB:=n0_;have BK136:=n1_;have GW136:=n2_;have GE136:=n3_;clear n0_ n1_ n2_ n3_;clear hb hbox hg;obtain ⟨X24_0,X24_1,X24_2,X24_3,X24_4,X24_5,Y24_0,Y24_1,Y24_2,Y24_3,Y24_4,Y24_5⟩:=kc6 (w:=w23) (g:=gb136) BK136.out))
    have n0_ : Aside0 (((((((w23.setCell ⟨gb136,0,none⟩ (.int .u32 ((rd_T24 l0 x10_1).f0))).setCell ⟨gb136,1,none⟩ (.string ((rd_T24 l0 x10_1).f1))).setCell ⟨gb136,2,none⟩ (.int .i64 ((rd_T24 l0 x10_1).f2))).setCell ⟨gb136,3,none⟩ (.int .i64 ((rd_T24 l0 x10_1).f3))).setCell ⟨gb136,4,none⟩ (.int .i64 ((rd_T24 l0 x10_1).f4))).setCell ⟨gb136,5,none⟩ (.int .i64 ((rd_T24 l0 x10_1).f5))).heap[gb136]? = some (.cells #[.int .u32 ((rd_T24 l0 x10_1).f0),.string ((rd_T24 l0 x10_1).f1),.int .i64 ((rd_T24 l0 x10_1).f2),.int .i64 ((rd_T24 l0 x10_1).f3),.int .i64 ((rd_T24 l0 x10_1).f4),.int .i64 ((rd_T24 l0 x10_1).f5)] 24 (0,0))):=⟨by (with_reducible repeat (first|refine bN ?_ _|refine bD ?_|refine bA ?_ _));refine blk_put (cs:=#[.int .u32 ((rd_T24 l0 x10_1).f0),.string ((rd_T24 l0 x10_1).f1),.int .i64 ((rd_T24 l0 x10_1).f2),.int .i64 ((rd_T24 l0 x10_1).f3),.int .i64 ((rd_T24 l0 x10_1).f4),.int .i64 0]) ?_ 5 _ rfl;(with_reducible repeat (first|refine bN ?_ _|refine bD ?_|refine bA ?_ _));refine blk_put (cs:=#[.int .u32 ((rd_T24 l0 x10_1).f0),.string ((rd_T24 l0 x10_1).f1),.int .i64 ((rd_T24 l0 x10_1).f2),.int .i64 ((rd_T24 l0 x10_1).f3),.int .i64 0,.int .i64 0]) ?_ 4 _ rfl;(with_reducible repeat (first|refine bN ?_ _|refine bD ?_|refine bA ?_ _));refine blk_put (cs:=#[.int .u32 ((rd_T24 l0 x10_1).f0),.string ((rd_T24 l0 x10_1).f1),.int .i64 ((rd_T24 l0 x10_1).f2),.int .i64 0,.int .i64 0,.int .i64 0]) ?_ 3 _ rfl;(with_reducible repeat (first|refine bN ?_ _|refine bD ?_|refine bA ?_ _));refine blk_put (cs:=#[.int .u32 ((rd_T24 l0 x10_1).f0),.string ((rd_T24 l0 x10_1).f1),.int .i64 0,.int .i64 0,.int .i64 0,.int .i64 0]) ?_ 2 _ rfl;(with_reducible repeat (first|refine bN ?_ _|refine bD ?_|refine bA ?_ _));refine blk_put (cs:=#[.int .u32 ((rd_T24 l0 x10_1).f0),.string (⟨#[]⟩ : ByteArray),.int .i64 0,.int .i64 0,.int .i64 0,.int .i64 0]) ?_ 1 _ rfl;(with_reducible repeat (first|refine bN ?_ _|refine bD ?_|refine bA ?_ _));refine blk_put (cs:=#[.int .u32 0,.string (⟨#[]⟩ : ByteArray),.int .i64 0,.int .i64 0,.int .i64 0,.int .i64 0]) ?_ 0 _ rfl;(with_reducible repeat (first|refine bN ?_ _|refine bD ?_|refine bA ?_ _));exact BK136.out⟩
    have n1_ : Aside0 (Below w.heap.size w ((((((w23.setCell ⟨gb136,0,none⟩ (.int .u32 ((rd_T24 l0 x10_1).f0))).setCell ⟨gb136,1,none⟩ (.string ((rd_T24 l0 x10_1).f1))).setCell ⟨gb136,2,none⟩ (.int .i64 ((rd_T24 l0 x10_1).f2))).setCell ⟨gb136,3,none⟩ (.int .i64 ((rd_T24 l0 x10_1).f3))).setCell ⟨gb136,4,none⟩ (.int .i64 ((rd_T24 l0 x10_1).f4))).setCell ⟨gb136,5,none⟩ (.int .i64 ((rd_T24 l0 x10_1).f5)))):=⟨by repeat (first|(with_reducible first|exact HB.out|apply bL|apply pN|apply bE|refine bS ?_ GE136.out)|exact HB.out)⟩
    generalize ((((((w23.setCell ⟨gb136,0,none⟩ (.int .u32 ((rd_T24 l0 x10_1).f0))).setCell ⟨gb136,1,none⟩ (.string ((rd_T24 l0 x10_1).f1))).setCell ⟨gb136,2,none⟩ (.int .i64 ((rd_T24 l0 x10_1).f2))).setCell ⟨gb136,3,none⟩ (.int .i64 ((rd_T24 l0 x10_1).f3))).setCell ⟨gb136,4,none⟩ (.int .i64 ((rd_T24 l0 x10_1).f4))).setCell ⟨gb136,5,none⟩ (.int .i64 ((rd_T24 l0 x10_1).f5))) = w25 at n0_ n1_ ⊢
    have BK136:=n0_
    have HB:=n1_
    clear n0_ n1_
    have n0_:=Am (bD BK136.out)
    have n1_:=Am (bE HB.out)
    clear BK136
    clear HB
    have BK136:=n0_
    have HB:=n1_
    clear n0_ n1_
    refine start_ (n:=18) (S:=fun w'=>w'.cell? ⟨gb136,0,none⟩ = some (.int .u32 ((rd_T24 l0 x10_1).f0))∧w'.cell? ⟨gb136,1,none⟩ = some (.string ((rd_T24 l0 x10_1).f1))∧w'.cell? ⟨gb136,2,none⟩ = some (.int .i64 ((rd_T24 l0 x10_1).f2))∧w'.cell? ⟨gb136,3,none⟩ = some (.int .i64 ((rd_T24 l0 x10_1).f3))∧w'.cell? ⟨gb136,4,none⟩ = some (.int .i64 ((rd_T24 l0 x10_1).f4))∧w'.cell? ⟨gb136,5,none⟩ = some (.int .i64 ((rd_T24 l0 x10_1).f5))) (ds:=[]) #[O,O,O,O,O,O,O,O,O,O,O,O,O,O,O,O,O,O] (by kernel_rfl) rfl rfl ⟨(bC BK136.out 0).trans rfl,(bC BK136.out 1).trans rfl,(bC BK136.out 2).trans rfl,(bC BK136.out 3).trans rfl,(bC BK136.out 4).trans rfl,(bC BK136.out 5).trans rfl⟩ (fun hHeld=>?_);refine with_tabW book_Check.tab6 book_Check.bits6 (fun HT_ HW_=>?_)
    generalize w25.drew = w26 at BK136 HB hHeld ⊢
    refine take_ (i:=0) (N:=some 15) (v:=?_) (a':=?_) #[J,O,O,O,O,O,O,O,O,O,O,O,O,O,O,O,O,O] rfl rfl (take_ofW HT_.out HW_.out (by kernel_rfl)) (fun _ _ _ h=>h) (Or.inl ⟨by rfl,?_⟩) hHeld ?_ ?_
    rotate_left
    ·rintro w' ⟨s0,s1,s2,s3,s4,s5⟩
     go_simp
     with_reducible rfl
    rotate_left
    ·simp only [Act.put,sT,sZ,sS,iW,iV]
     rfl
    refine one_ (i:=1) (N:=some 16) #[J,J,O,O,O,O,O,O,O,O,O,O,O,O,O,O,O,O] rfl rfl (one_of HT_.out (by kernel_rfl)) (by decide) (fun K hK=>?_)
    refine goes_ Tryd.func19 (by kernel_rfl) rfl #[.agg #[.int .u32 ((rd_T24 l0 x10_1).f0),.string ((rd_T24 l0 x10_1).f1),.int .i64 ((rd_T24 l0 x10_1).f2),.int .i64 ((rd_T24 l0 x10_1).f3),.int .i64 ((rd_T24 l0 x10_1).f4),.int .i64 ((rd_T24 l0 x10_1).f5)]] (by rfl) rfl rfl (by (try simp only [mT,mC,mN]);first|done|rfl|(simp only [lD,lT];rfl)) ?_
    with_reducible refine (book_right.calls ((rd_T24 l0 x10_1).f0) ((rd_T24 l0 x10_1).f1) ((rd_T24 l0 x10_1).f2) ((rd_T24 l0 x10_1).f3) ((rd_T24 l0 x10_1).f4) ((rd_T24 l0 x10_1).f5) true _ ?side1 A6.out).mono ?_
    (case side1=>exact Glob.below HG.out (by repeat (first|(with_reducible first|exact HB.out|apply bL|apply pN|apply bE|refine bS ?_ GE136.out)|exact HB.out)))
    rintro e w27 ⟨rfl,hb⟩
    refine ⟨_,rfl,?_⟩
    have n0_:=Am (blk_below (g:=gb136) (by (with_reducible repeat (first|refine bN ?_ _|refine bD ?_|refine bA ?_ _));exact BK136.out) hb)
    have n1_:=Am (below_step (by repeat (first|(with_reducible first|exact HB.out|apply bL|apply pN|apply bE|refine bS ?_ GE136.out)|exact HB.out)) hb)
    clear BK136
    clear HB
    have BK136:=n0_
    have HB:=n1_
    clear n0_ n1_
    refine hK.out _ _ ⟨(bC BK136.out 0).trans rfl,(bC BK136.out 1).trans rfl,(bC BK136.out 2).trans rfl,(bC BK136.out 3).trans rfl,(bC BK136.out 4).trans rfl,(bC BK136.out 5).trans rfl⟩ (fun hHeld=>?_)
    clear hK K
    refine norm_ (a':=?_) ?_ ?_
    rotate_left
    ·show Act.put _ (some 16) _ = _
     simp only [Act.put,sT,sZ,sS,iW,iV]
     rfl
    refine pure_ (i:=2) (N:=some 17) (v:=?_) (a':=?_) #[J,J,J,O,O,O,O,O,O,O,O,O,O,O,O,O,O,O] rfl rfl (any_of HT_.out (by kernel_rfl)) (fun _ _ _ h=>h) (Or.inl ⟨by rfl,?_⟩) ?_ ?_
    rotate_left
    ·intro w'
     go_simp
     with_reducible rfl
    rotate_left
    ·simp only [Act.put,sT,sZ,sS,iW,iV]
     rfl
    refine pure_ (i:=3) (N:=some 18) (v:=?_) (a':=?_) #[J,J,J,J,O,O,O,O,O,O,O,O,O,O,O,O,O,O] rfl rfl (any_of HT_.out (by kernel_rfl)) (fun _ _ _ h=>h) (Or.inl ⟨by rfl,?_⟩) ?_ ?_
    rotate_left
    ·intro w'
     go_simp
     with_reducible rfl
    rotate_left
    ·simp only [Act.put,sT,sZ,sS,iW,iV]
     rfl
    refine pure_ (i:=4) (N:=some 19) (v:=?_) (a':=?_) #[J,J,J,J,J,O,O,O,O,O,O,O,O,O,O,O,O,O] rfl rfl (any_of HT_.out (by kernel_rfl)) (fun _ _ _ h=>h) (Or.inl ⟨by rfl,?_⟩) ?_ ?_
    rotate_left
    ·intro w'
     go_simp
     with_reducible rfl
    rotate_left
    ·simp only [Act.put,sT,sZ,sS,iW,iV]
     rfl
    refine pure_ (i:=5) (N:=some 20) (v:=?_) (a':=?_) #[J,J,J,J,J,J,O,O,O,O,O,O,O,O,O,O,O,O] rfl rfl (any_of HT_.out (by kernel_rfl)) (fun _ _ _ h=>h) (Or.inl ⟨by rfl,?_⟩) ?_ ?_
    rotate_left
    ·intro w'
     go_simp
     with_reducible rfl
    rotate_left
    ·simp only [Act.put,sT,sZ,sS,iW,iV]
     rfl
    refine pure_ (i:=6) (N:=some 21) (v:=?_) (a':=?_) #[J,J,J,J,J,J,J,O,O,O,O,O,O,O,O,O,O,O] rfl rfl (any_of HT_.out (by kernel_rfl)) (fun _ _ _ h=>h) (Or.inl ⟨by rfl,?_⟩) ?_ ?_
    rotate_left
    ·intro w'
     go_simp
     with_reducible rfl
    rotate_left
    ·simp only [Act.put,sT,sZ,sS,iW,iV]
     rfl
    refine pure_ (i:=7) (N:=some 22) (v:=undef) (a':=?_) #[J,J,J,J,J,J,J,J,O,O,O,O,O,O,O,O,O,O] rfl rfl (any_of HT_.out (by kernel_rfl)) (fun _ _ _ h=>h) (Or.inr ⟨by rfl,rfl⟩) ?_ ?_
    rotate_left
    ·simp only [Act.put,sT,sZ,sS,iW,iV]
     rfl
    refine pure_ (i:=8) (N:=some 23) (v:=undef) (a':=?_) #[J,J,J,J,J,J,J,J,J,O,O,O,O,O,O,O,O,O] rfl rfl (any_of HT_.out (by kernel_rfl)) (fun _ _ _ h=>h) (Or.inr ⟨by rfl,rfl⟩) ?_ ?_
    rotate_left
    ·simp only [Act.put,sT,sZ,sS,iW,iV]
     rfl
    refine pure_ (i:=9) (N:=some 24) (v:=undef) (a':=?_) #[J,J,J,J,J,J,J,J,J,J,O,O,O,O,O,O,O,O] rfl rfl (any_of HT_.out (by kernel_rfl)) (fun _ _ _ h=>h) (Or.inr ⟨by rfl,rfl⟩) ?_ ?_
    rotate_left
    ·simp only [Act.put,sT,sZ,sS,iW,iV]
     rfl
    refine pure_ (i:=10) (N:=some 25) (v:=undef) (a':=?_) #[J,J,J,J,J,J,J,J,J,J,J,O,O,O,O,O,O,O] rfl rfl (any_of HT_.out (by kernel_rfl)) (fun _ _ _ h=>h) (Or.inr ⟨by rfl,rfl⟩) ?_ ?_
    rotate_left
    ·simp only [Act.put,sT,sZ,sS,iW,iV]
     rfl
    refine pure_ (i:=11) (N:=some 26) (v:=undef) (a':=?_) #[J,J,J,J,J,J,J,J,J,J,J,J,O,O,O,O,O,O] rfl rfl (any_of HT_.out (by kernel_rfl)) (fun _ _ _ h=>h) (Or.inr ⟨by rfl,rfl⟩) ?_ ?_
    rotate_left
    ·simp only [Act.put,sT,sZ,sS,iW,iV]
     rfl
    refine pure_ (i:=12) (N:=some 27) (v:=undef) (a':=?_) #[J,J,J,J,J,J,J,J,J,J,J,J,J,O,O,O,O,O] rfl rfl (any_of HT_.out (by kernel_rfl)) (fun _ _ _ h=>h) (Or.inr ⟨by rfl,rfl⟩) ?_ ?_
    rotate_left
    ·simp only [Act.put,sT,sZ,sS,iW,iV]
     rfl
    refine pure_ (i:=13) (N:=some 28) (v:=undef) (a':=?_) #[J,J,J,J,J,J,J,J,J,J,J,J,J,J,O,O,O,O] rfl rfl (any_of HT_.out (by kernel_rfl)) (fun _ _ _ h=>h) (Or.inr ⟨by rfl,rfl⟩) ?_ ?_
    rotate_left
    ·simp only [Act.put,sT,sZ,sS,iW,iV]
     rfl
    refine pure_ (i:=14) (N:=some 29) (v:=undef) (a':=?_) #[J,J,J,J,J,J,J,J,J,J,J,J,J,J,J,O,O,O] rfl rfl (any_of HT_.out (by kernel_rfl)) (fun _ _ _ h=>h) (Or.inr ⟨by rfl,rfl⟩) ?_ ?_
    rotate_left
    ·simp only [Act.put,sT,sZ,sS,iW,iV]
     rfl
    refine pure_ (i:=15) (N:=some 30) (v:=undef) (a':=?_) #[J,J,J,J,J,J,J,J,J,J,J,J,J,J,J,J,O,O] rfl rfl (any_of HT_.out (by kernel_rfl)) (fun _ _ _ h=>h) (Or.inr ⟨by rfl,rfl⟩) ?_ ?_
    rotate_left
    ·simp only [Act.put,sT,sZ,sS,iW,iV]
     rfl
    refine pure_ (i:=16) (N:=some 31) (v:=?_) (a':=?_) #[J,J,J,J,J,J,J,J,J,J,J,J,J,J,J,J,J,O] rfl rfl (any_of HT_.out (by kernel_rfl)) (fun _ _ _ h=>h) (Or.inl ⟨by rfl,?_⟩) ?_ ?_
    rotate_left
    ·intro w'
     go_simp
     with_reducible rfl
    rotate_left
    ·simp only [Act.put,sT,sZ,sS,iW,iV]
     rfl
    refine pure_ (i:=17) (N:=some 32) (v:=?_) (a':=?_) #[J,J,J,J,J,J,J,J,J,J,J,J,J,J,J,J,J,J] rfl rfl (any_of HT_.out (by kernel_rfl)) (fun _ _ _ h=>h) (Or.inl ⟨by rfl,?_⟩) ?_ ?_
    rotate_left
    ·intro w'
     go_simp
     with_reducible rfl
    rotate_left
    ·simp only [Act.put,sT,sZ,sS,iW,iV]
     rfl
    refine done_ (done_of HT_.out (by kernel_rfl)) ?_
    try go_wp2
    go_roundg k1
    case measure=>have:=HK1.out;omega
    case rel=>exact ⟨(wrap64 (x10_1 + 1)),(by first|rfl|(simp;done)|(simp [*];done)),H',⟨by have:=HK1.out;omega⟩,⟨by repeat (first|(with_reducible first|exact HB.out|apply bL|apply pN|apply bE|refine bS ?_ GE136.out)|exact HB.out)⟩⟩
   rw [if_pos c8] at H
   have c8b0 : decide (0 < x10_1) = true:=decide_eq_true c8
   clear c8
   obtain ⟨ji9,hji9⟩ : ∃ j_ : Int,(wrap64 (x10_1 - 1)) = j_:=⟨_,rfl⟩
   replace H : (if 0≤(ji9) then (if (ji9) < (l0.length : Int) then (if ((rd_T24 l0 x10_1).f5) < ((rd_T24 l0 (ji9)).f5) then (some 200) else (book_Check.l0 k1 l0 l0 (l0.length : Int) (wrap64 (x10_1 + 1)))) else (none)) else (none)) = some r:=by first|(rw [hji9] at H;exact H)|(simp only [hji9] at H ⊢;exact H)
   (try rw [hji9] at A6)
   have hji9w : (IntKind.i64.wrap (x10_1 - 1)) = ji9:=(iW _).trans hji9
   by_cases c10 : 0≤(ji9)
   rotate_left
   ·rw [if_neg c10] at H
    exact absurd H (by simp)
   rw [if_pos c10] at H
   have c10b0 : decide (0≤(ji9)) = true:=decide_eq_true c10
   clear c10
   by_cases c11 : (ji9) < (l0.length : Int)
   rotate_left
   ·rw [if_neg c11] at H
    exact absurd H (by simp)
   rw [if_pos c11] at H
   have c11b0 : decide ((ji9) < (l0.length : Int)) = true:=decide_eq_true c11
   clear c11
   by_cases c12 : ((rd_T24 l0 x10_1).f5) < ((rd_T24 l0 (ji9)).f5)
   rotate_left
   ·rw [if_neg c12] at H
    have c12b0 : decide (((rd_T24 l0 x10_1).f5) < ((rd_T24 l0 (ji9)).f5)) = false:=decide_eq_false c12
    clear c12
    have H':=Am H
    clear H
    have p135 : 0≤(x10_1 : Int):=of_decide_eq_true (by first|(with_reducible assumption)|assumption)
    have q135 : x10_1 < (l0.length : Int):=of_decide_eq_true (by first|(with_reducible assumption)|assumption)
    obtain ⟨ad135,e135,hx135_0,hx135_1,hx135_2,hx135_3,hx135_4,hx135_5⟩:=at_T24 HR0.out x10_1 p135 q135
    cases e135
    replace hx135_0:=(HB.out.cell (wB w _ hx135_0)).trans hx135_0
    replace hx135_1:=(HB.out.cell (wB w _ hx135_1)).trans hx135_1
    replace hx135_2:=(HB.out.cell (wB w _ hx135_2)).trans hx135_2
    replace hx135_3:=(HB.out.cell (wB w _ hx135_3)).trans hx135_3
    replace hx135_4:=(HB.out.cell (wB w _ hx135_4)).trans hx135_4
    replace hx135_5:=(HB.out.cell (wB w _ hx135_5)).trans hx135_5
    replace p135:=eq_true p135
    replace q135:=eq_true q135
    try go_wp2_with (first|((with_reducible refine gD (N:=4) rfl ?_);refine box_event ?hg (N:=4) ?hd (cs:=#[.int .u32 0,.string (⟨#[]⟩ : ByteArray),.int .i64 0,.int .i64 0,.int .i64 0,.int .i64 0]) (t:=24) ?hr ?_;(case hd=>rfl);(case hg=>rfl);(case hr=>first|(go_simp;done)|(go_simp;rfl));intro gb136 hg w18 hbox hb;have n0_:=Am (below_step (by repeat (first|(with_reducible first|exact HB.out|apply bL|apply pN|apply bE)|exact HB.out)) hb);have n1_:=Am (hbox);have n2_:=Am ((by rw [hg];exact (bZ (by repeat (first|(with_reducible first|exact HB.out|apply bL|apply pN|apply bE)|exact HB.out))) : w.heap.size≤gb136));have n3_:=n2_;clear HB;have HB:=n0_;have BK136:=n1_;have GW136:=n2_;have GE136:=n3_;clear n0_ n1_ n2_ n3_;clear hb hbox hg;obtain ⟨X19_0,X19_1,X19_2,X19_3,X19_4,X19_5,Y19_0,Y19_1,Y19_2,Y19_3,Y19_4,Y19_5⟩:=kc6 (w:=w18) (g:=gb136) BK136.out))
    have n0_ : Aside0 (((((((w18.setCell ⟨gb136,0,none⟩ (.int .u32 ((rd_T24 l0 x10_1).f0))).setCell ⟨gb136,1,none⟩ (.string ((rd_T24 l0 x10_1).f1))).setCell ⟨gb136,2,none⟩ (.int .i64 ((rd_T24 l0 x10_1).f2))).setCell ⟨gb136,3,none⟩ (.int .i64 ((rd_T24 l0 x10_1).f3))).setCell ⟨gb136,4,none⟩ (.int .i64 ((rd_T24 l0 x10_1).f4))).setCell ⟨gb136,5,none⟩ (.int .i64 ((rd_T24 l0 x10_1).f5))).heap[gb136]? = some (.cells #[.int .u32 ((rd_T24 l0 x10_1).f0),.string ((rd_T24 l0 x10_1).f1),.int .i64 ((rd_T24 l0 x10_1).f2),.int .i64 ((rd_T24 l0 x10_1).f3),.int .i64 ((rd_T24 l0 x10_1).f4),.int .i64 ((rd_T24 l0 x10_1).f5)] 24 (0,0))):=⟨by (with_reducible repeat (first|refine bN ?_ _|refine bD ?_|refine bA ?_ _));refine blk_put (cs:=#[.int .u32 ((rd_T24 l0 x10_1).f0),.string ((rd_T24 l0 x10_1).f1),.int .i64 ((rd_T24 l0 x10_1).f2),.int .i64 ((rd_T24 l0 x10_1).f3),.int .i64 ((rd_T24 l0 x10_1).f4),.int .i64 0]) ?_ 5 _ rfl;(with_reducible repeat (first|refine bN ?_ _|refine bD ?_|refine bA ?_ _));refine blk_put (cs:=#[.int .u32 ((rd_T24 l0 x10_1).f0),.string ((rd_T24 l0 x10_1).f1),.int .i64 ((rd_T24 l0 x10_1).f2),.int .i64 ((rd_T24 l0 x10_1).f3),.int .i64 0,.int .i64 0]) ?_ 4 _ rfl;(with_reducible repeat (first|refine bN ?_ _|refine bD ?_|refine bA ?_ _));refine blk_put (cs:=#[.int .u32 ((rd_T24 l0 x10_1).f0),.string ((rd_T24 l0 x10_1).f1),.int .i64 ((rd_T24 l0 x10_1).f2),.int .i64 0,.int .i64 0,.int .i64 0]) ?_ 3 _ rfl;(with_reducible repeat (first|refine bN ?_ _|refine bD ?_|refine bA ?_ _));refine blk_put (cs:=#[.int .u32 ((rd_T24 l0 x10_1).f0),.string ((rd_T24 l0 x10_1).f1),.int .i64 0,.int .i64 0,.int .i64 0,.int .i64 0]) ?_ 2 _ rfl;(with_reducible repeat (first|refine bN ?_ _|refine bD ?_|refine bA ?_ _));refine blk_put (cs:=#[.int .u32 ((rd_T24 l0 x10_1).f0),.string (⟨#[]⟩ : ByteArray),.int .i64 0,.int .i64 0,.int .i64 0,.int .i64 0]) ?_ 1 _ rfl;(with_reducible repeat (first|refine bN ?_ _|refine bD ?_|refine bA ?_ _));refine blk_put (cs:=#[.int .u32 0,.string (⟨#[]⟩ : ByteArray),.int .i64 0,.int .i64 0,.int .i64 0,.int .i64 0]) ?_ 0 _ rfl;(with_reducible repeat (first|refine bN ?_ _|refine bD ?_|refine bA ?_ _));exact BK136.out⟩
    have n1_ : Aside0 (Below w.heap.size w ((((((w18.setCell ⟨gb136,0,none⟩ (.int .u32 ((rd_T24 l0 x10_1).f0))).setCell ⟨gb136,1,none⟩ (.string ((rd_T24 l0 x10_1).f1))).setCell ⟨gb136,2,none⟩ (.int .i64 ((rd_T24 l0 x10_1).f2))).setCell ⟨gb136,3,none⟩ (.int .i64 ((rd_T24 l0 x10_1).f3))).setCell ⟨gb136,4,none⟩ (.int .i64 ((rd_T24 l0 x10_1).f4))).setCell ⟨gb136,5,none⟩ (.int .i64 ((rd_T24 l0 x10_1).f5)))):=⟨by repeat (first|(with_reducible first|exact HB.out|apply bL|apply pN|apply bE|refine bS ?_ GE136.out)|exact HB.out)⟩
    generalize ((((((w18.setCell ⟨gb136,0,none⟩ (.int .u32 ((rd_T24 l0 x10_1).f0))).setCell ⟨gb136,1,none⟩ (.string ((rd_T24 l0 x10_1).f1))).setCell ⟨gb136,2,none⟩ (.int .i64 ((rd_T24 l0 x10_1).f2))).setCell ⟨gb136,3,none⟩ (.int .i64 ((rd_T24 l0 x10_1).f3))).setCell ⟨gb136,4,none⟩ (.int .i64 ((rd_T24 l0 x10_1).f4))).setCell ⟨gb136,5,none⟩ (.int .i64 ((rd_T24 l0 x10_1).f5))) = w20 at n0_ n1_ ⊢
    have BK136:=n0_
    have HB:=n1_
    clear n0_ n1_
    have n0_:=Am (bD BK136.out)
    have n1_:=Am (bE HB.out)
    clear BK136
    clear HB
    have BK136:=n0_
    have HB:=n1_
    clear n0_ n1_
    have p138 : 0≤((ji9) : Int):=of_decide_eq_true (by first|(with_reducible assumption)|assumption)
    have q138 : (ji9) < (l0.length : Int):=of_decide_eq_true (by first|(with_reducible assumption)|assumption)
    obtain ⟨ad138,e138,hx138_0,hx138_1,hx138_2,hx138_3,hx138_4,hx138_5⟩:=at_T24 HR0.out (ji9) p138 q138
    have hw138_5:=hx138_5
    have hw138_4:=hx138_4
    have hw138_3:=hx138_3
    have hw138_2:=hx138_2
    have hw138_1:=hx138_1
    have hw138_0:=hx138_0
    obtain rfl : ad135 = ad138:=(by injection e138)
    replace hx138_0:=(HB.out.cell (wB w _ hx138_0)).trans hx138_0
    replace hx138_1:=(HB.out.cell (wB w _ hx138_1)).trans hx138_1
    replace hx138_2:=(HB.out.cell (wB w _ hx138_2)).trans hx138_2
    replace hx138_3:=(HB.out.cell (wB w _ hx138_3)).trans hx138_3
    replace hx138_4:=(HB.out.cell (wB w _ hx138_4)).trans hx138_4
    replace hx138_5:=(HB.out.cell (wB w _ hx138_5)).trans hx138_5
    replace p138:=eq_true p138
    replace q138:=eq_true q138
    refine start_ (n:=18) (S:=fun w'=>w'.cell? ⟨gb136,0,none⟩ = some (.int .u32 ((rd_T24 l0 x10_1).f0))∧w'.cell? ⟨gb136,1,none⟩ = some (.string ((rd_T24 l0 x10_1).f1))∧w'.cell? ⟨gb136,2,none⟩ = some (.int .i64 ((rd_T24 l0 x10_1).f2))∧w'.cell? ⟨gb136,3,none⟩ = some (.int .i64 ((rd_T24 l0 x10_1).f3))∧w'.cell? ⟨gb136,4,none⟩ = some (.int .i64 ((rd_T24 l0 x10_1).f4))∧w'.cell? ⟨gb136,5,none⟩ = some (.int .i64 ((rd_T24 l0 x10_1).f5))∧w'.cell? (ad135.add (((ji9)).toNat * 6)) = some (.int .u32 ((rd_T24 l0 (ji9)).f0))∧w'.cell? ⟨(ad135.add (((ji9)).toNat * 6)).block,(ad135.add (((ji9)).toNat * 6)).off + 1,none⟩ = some (.string ((rd_T24 l0 (ji9)).f1))∧w'.cell? ⟨(ad135.add (((ji9)).toNat * 6)).block,(ad135.add (((ji9)).toNat * 6)).off + 2,none⟩ = some (.int .i64 ((rd_T24 l0 (ji9)).f2))∧w'.cell? ⟨(ad135.add (((ji9)).toNat * 6)).block,(ad135.add (((ji9)).toNat * 6)).off + 3,none⟩ = some (.int .i64 ((rd_T24 l0 (ji9)).f3))∧w'.cell? ⟨(ad135.add (((ji9)).toNat * 6)).block,(ad135.add (((ji9)).toNat * 6)).off + 4,none⟩ = some (.int .i64 ((rd_T24 l0 (ji9)).f4))∧w'.cell? ⟨(ad135.add (((ji9)).toNat * 6)).block,(ad135.add (((ji9)).toNat * 6)).off + 5,none⟩ = some (.int .i64 ((rd_T24 l0 (ji9)).f5))) (ds:=[]) #[O,O,O,O,O,O,O,O,O,O,O,O,O,O,O,O,O,O] (by kernel_rfl) rfl rfl ⟨(bC BK136.out 0).trans rfl,(bC BK136.out 1).trans rfl,(bC BK136.out 2).trans rfl,(bC BK136.out 3).trans rfl,(bC BK136.out 4).trans rfl,(bC BK136.out 5).trans rfl,((HB.out.cell (wB w _ hw138_0)).trans hw138_0),((HB.out.cell (wB w _ hw138_1)).trans hw138_1),((HB.out.cell (wB w _ hw138_2)).trans hw138_2),((HB.out.cell (wB w _ hw138_3)).trans hw138_3),((HB.out.cell (wB w _ hw138_4)).trans hw138_4),((HB.out.cell (wB w _ hw138_5)).trans hw138_5)⟩ (fun hHeld=>?_);refine with_tabW book_Check.tab6 book_Check.bits6 (fun HT_ HW_=>?_)
    generalize w20.drew = w21 at BK136 HB hx138_0 hx138_1 hx138_2 hx138_3 hx138_4 hx138_5 hHeld ⊢
    refine take_ (i:=0) (N:=some 15) (v:=?_) (a':=?_) #[J,O,O,O,O,O,O,O,O,O,O,O,O,O,O,O,O,O] rfl rfl (take_ofW HT_.out HW_.out (by kernel_rfl)) (fun _ _ _ h=>h) (Or.inl ⟨by rfl,?_⟩) hHeld ?_ ?_
    rotate_left
    ·rintro w' ⟨s0,s1,s2,s3,s4,s5,s6,s7,s8,s9,s10,s11⟩
     go_simp
     with_reducible rfl
    rotate_left
    ·simp only [Act.put,sT,sZ,sS,iW,iV]
     rfl
    refine one_ (i:=1) (N:=some 16) #[J,J,O,O,O,O,O,O,O,O,O,O,O,O,O,O,O,O] rfl rfl (one_of HT_.out (by kernel_rfl)) (by decide) (fun K hK=>?_)
    refine goes_ Tryd.func19 (by kernel_rfl) rfl #[.agg #[.int .u32 ((rd_T24 l0 x10_1).f0),.string ((rd_T24 l0 x10_1).f1),.int .i64 ((rd_T24 l0 x10_1).f2),.int .i64 ((rd_T24 l0 x10_1).f3),.int .i64 ((rd_T24 l0 x10_1).f4),.int .i64 ((rd_T24 l0 x10_1).f5)]] (by rfl) rfl rfl (by (try simp only [mT,mC,mN]);first|done|rfl|(simp only [lD,lT];rfl)) ?_
    with_reducible refine (book_right.calls ((rd_T24 l0 x10_1).f0) ((rd_T24 l0 x10_1).f1) ((rd_T24 l0 x10_1).f2) ((rd_T24 l0 x10_1).f3) ((rd_T24 l0 x10_1).f4) ((rd_T24 l0 x10_1).f5) true _ ?side1 A6.out).mono ?_
    (case side1=>exact Glob.below HG.out (by repeat (first|(with_reducible first|exact HB.out|apply bL|apply pN|apply bE|refine bS ?_ GE136.out)|exact HB.out)))
    rintro e w22 ⟨rfl,hb⟩
    refine ⟨_,rfl,?_⟩
    have n0_:=Am (blk_below (g:=gb136) (by (with_reducible repeat (first|refine bN ?_ _|refine bD ?_|refine bA ?_ _));exact BK136.out) hb)
    have n1_:=Am (below_step (by repeat (first|(with_reducible first|exact HB.out|apply bL|apply pN|apply bE|refine bS ?_ GE136.out)|exact HB.out)) hb)
    clear BK136
    clear HB
    have BK136:=n0_
    have HB:=n1_
    clear n0_ n1_
    refine hK.out _ _ ⟨(bC BK136.out 0).trans rfl,(bC BK136.out 1).trans rfl,(bC BK136.out 2).trans rfl,(bC BK136.out 3).trans rfl,(bC BK136.out 4).trans rfl,(bC BK136.out 5).trans rfl,((HB.out.cell (wB w _ hw138_0)).trans hw138_0),((HB.out.cell (wB w _ hw138_1)).trans hw138_1),((HB.out.cell (wB w _ hw138_2)).trans hw138_2),((HB.out.cell (wB w _ hw138_3)).trans hw138_3),((HB.out.cell (wB w _ hw138_4)).trans hw138_4),((HB.out.cell (wB w _ hw138_5)).trans hw138_5)⟩ (fun hHeld=>?_)
    clear hK K
    refine norm_ (a':=?_) ?_ ?_
    rotate_left
    ·show Act.put _ (some 16) _ = _
     simp only [Act.put,sT,sZ,sS,iW,iV]
     rfl
    refine pure_ (i:=2) (N:=some 17) (v:=?_) (a':=?_) #[J,J,J,O,O,O,O,O,O,O,O,O,O,O,O,O,O,O] rfl rfl (any_of HT_.out (by kernel_rfl)) (fun _ _ _ h=>h) (Or.inl ⟨by rfl,?_⟩) ?_ ?_
    rotate_left
    ·intro w'
     go_simp
     with_reducible rfl
    rotate_left
    ·simp only [Act.put,sT,sZ,sS,iW,iV]
     rfl
    refine pure_ (i:=3) (N:=some 18) (v:=?_) (a':=?_) #[J,J,J,J,O,O,O,O,O,O,O,O,O,O,O,O,O,O] rfl rfl (any_of HT_.out (by kernel_rfl)) (fun _ _ _ h=>h) (Or.inl ⟨by rfl,?_⟩) ?_ ?_
    rotate_left
    ·intro w'
     go_simp
     with_reducible rfl
    rotate_left
    ·simp only [Act.put,sT,sZ,sS,iW,iV]
     rfl
    refine pure_ (i:=4) (N:=some 19) (v:=?_) (a':=?_) #[J,J,J,J,J,O,O,O,O,O,O,O,O,O,O,O,O,O] rfl rfl (any_of HT_.out (by kernel_rfl)) (fun _ _ _ h=>h) (Or.inl ⟨by rfl,?_⟩) ?_ ?_
    rotate_left
    ·intro w'
     go_simp
     with_reducible rfl
    rotate_left
    ·simp only [Act.put,sT,sZ,sS,iW,iV]
     rfl
    refine pure_ (i:=5) (N:=some 20) (v:=?_) (a':=?_) #[J,J,J,J,J,J,O,O,O,O,O,O,O,O,O,O,O,O] rfl rfl (any_of HT_.out (by kernel_rfl)) (fun _ _ _ h=>h) (Or.inl ⟨by rfl,?_⟩) ?_ ?_
    rotate_left
    ·intro w'
     go_simp
     with_reducible rfl
    rotate_left
    ·simp only [Act.put,sT,sZ,sS,iW,iV]
     rfl
    refine pure_ (i:=6) (N:=some 21) (v:=?_) (a':=?_) #[J,J,J,J,J,J,J,O,O,O,O,O,O,O,O,O,O,O] rfl rfl (any_of HT_.out (by kernel_rfl)) (fun _ _ _ h=>h) (Or.inl ⟨by rfl,?_⟩) ?_ ?_
    rotate_left
    ·intro w'
     go_simp
     with_reducible rfl
    rotate_left
    ·simp only [Act.put,sT,sZ,sS,iW,iV]
     rfl
    refine pure_ (i:=7) (N:=some 22) (v:=?_) (a':=?_) #[J,J,J,J,J,J,J,J,O,O,O,O,O,O,O,O,O,O] rfl rfl (any_of HT_.out (by kernel_rfl)) (fun _ _ _ h=>h) (Or.inl ⟨by rfl,?_⟩) ?_ ?_
    rotate_left
    ·intro w'
     go_simp
     with_reducible rfl
    rotate_left
    ·simp only [Act.put,sT,sZ,sS,iW,iV]
     rfl
    refine pure_ (i:=9) (N:=some 24) (v:=?_) (a':=?_) #[J,J,J,J,J,J,J,J,O,J,O,O,O,O,O,O,O,O] rfl rfl (any_of HT_.out (by kernel_rfl)) (fun _ _ _ h=>h) (Or.inl ⟨by rfl,?_⟩) ?_ ?_
    rotate_left
    ·intro w'
     go_simp
     with_reducible rfl
    rotate_left
    ·simp only [Act.put,sT,sZ,sS,iW,iV]
     rfl
    refine pure_ (i:=10) (N:=some 25) (v:=?_) (a':=?_) #[J,J,J,J,J,J,J,J,O,J,J,O,O,O,O,O,O,O] rfl rfl (any_of HT_.out (by kernel_rfl)) (fun _ _ _ h=>h) (Or.inl ⟨by rfl,?_⟩) ?_ ?_
    rotate_left
    ·intro w'
     go_simp
     with_reducible rfl
    rotate_left
    ·simp only [Act.put,sT,sZ,sS,iW,iV]
     rfl
    refine pure_ (i:=11) (N:=some 26) (v:=?_) (a':=?_) #[J,J,J,J,J,J,J,J,O,J,J,J,O,O,O,O,O,O] rfl rfl (any_of HT_.out (by kernel_rfl)) (fun _ _ _ h=>h) (Or.inl ⟨by rfl,?_⟩) ?_ ?_
    rotate_left
    ·intro w'
     go_simp
     with_reducible rfl
    rotate_left
    ·simp only [Act.put,sT,sZ,sS,iW,iV]
     rfl
    refine pure_ (i:=12) (N:=some 27) (v:=?_) (a':=?_) #[J,J,J,J,J,J,J,J,O,J,J,J,J,O,O,O,O,O] rfl rfl (any_of HT_.out (by kernel_rfl)) (fun _ _ _ h=>h) (Or.inl ⟨by rfl,?_⟩) ?_ ?_
    rotate_left
    ·intro w'
     go_simp
     with_reducible rfl
    rotate_left
    ·simp only [Act.put,sT,sZ,sS,iW,iV]
     rfl
    refine pure_ (i:=13) (N:=some 28) (v:=?_) (a':=?_) #[J,J,J,J,J,J,J,J,O,J,J,J,J,J,O,O,O,O] rfl rfl (any_of HT_.out (by kernel_rfl)) (fun _ _ _ h=>h) (Or.inl ⟨by rfl,?_⟩) ?_ ?_
    rotate_left
    ·intro w'
     go_simp
     with_reducible rfl
    rotate_left
    ·simp only [Act.put,sT,sZ,sS,iW,iV]
     rfl
    refine take_ (i:=8) (N:=some 23) (v:=?_) (a':=?_) #[J,J,J,J,J,J,J,J,J,J,J,J,J,J,O,O,O,O] rfl rfl (take_ofW HT_.out HW_.out (by kernel_rfl)) (fun _ _ _ h=>h) (Or.inl ⟨by rfl,?_⟩) hHeld ?_ ?_
    rotate_left
    ·rintro w' ⟨s0,s1,s2,s3,s4,s5,s6,s7,s8,s9,s10,s11⟩
     go_simp
     with_reducible rfl
    rotate_left
    ·simp only [Act.put,sT,sZ,sS,iW,iV]
     rfl
    refine take_ (i:=14) (N:=some 29) (v:=?_) (a':=?_) #[J,J,J,J,J,J,J,J,J,J,J,J,J,J,J,O,O,O] rfl rfl (take_ofW HT_.out HW_.out (by kernel_rfl)) (fun _ _ _ h=>h) (Or.inl ⟨by rfl,?_⟩) hHeld ?_ ?_
    rotate_left
    ·rintro w' ⟨s0,s1,s2,s3,s4,s5,s6,s7,s8,s9,s10,s11⟩
     go_simp
     with_reducible rfl
    rotate_left
    ·simp only [Act.put,sT,sZ,sS,iW,iV]
     rfl
    refine pure_ (i:=15) (N:=some 30) (v:=?_) (a':=?_) #[J,J,J,J,J,J,J,J,J,J,J,J,J,J,J,J,O,O] rfl rfl (any_of HT_.out (by kernel_rfl)) (fun _ _ _ h=>h) (Or.inl ⟨by rfl,?_⟩) ?_ ?_
    rotate_left
    ·intro w'
     go_simp
     with_reducible rfl
    rotate_left
    ·simp only [Act.put,sT,sZ,sS,iW,iV]
     rfl
    refine pure_ (i:=16) (N:=some 31) (v:=?_) (a':=?_) #[J,J,J,J,J,J,J,J,J,J,J,J,J,J,J,J,J,O] rfl rfl (any_of HT_.out (by kernel_rfl)) (fun _ _ _ h=>h) (Or.inl ⟨by rfl,?_⟩) ?_ ?_
    rotate_left
    ·intro w'
     go_simp
     with_reducible rfl
    rotate_left
    ·simp only [Act.put,sT,sZ,sS,iW,iV]
     rfl
    refine pure_ (i:=17) (N:=some 32) (v:=?_) (a':=?_) #[J,J,J,J,J,J,J,J,J,J,J,J,J,J,J,J,J,J] rfl rfl (any_of HT_.out (by kernel_rfl)) (fun _ _ _ h=>h) (Or.inl ⟨by rfl,?_⟩) ?_ ?_
    rotate_left
    ·intro w'
     go_simp
     with_reducible rfl
    rotate_left
    ·simp only [Act.put,sT,sZ,sS,iW,iV]
     rfl
    refine done_ (done_of HT_.out (by kernel_rfl)) ?_
    try go_wp2
    go_roundg k1
    case measure=>have:=HK1.out;omega
    case rel=>exact ⟨(wrap64 (x10_1 + 1)),(by first|rfl|(simp;done)|(simp [*];done)),H',⟨by have:=HK1.out;omega⟩,⟨by repeat (first|(with_reducible first|exact HB.out|apply bL|apply pN|apply bE|refine bS ?_ GE136.out)|exact HB.out)⟩⟩
   rw [if_pos c12] at H
   have c12b0 : decide (((rd_T24 l0 x10_1).f5) < ((rd_T24 l0 (ji9)).f5)) = true:=decide_eq_true c12
   clear c12
   obtain rfl:=Option.some.inj H
   have p135 : 0≤(x10_1 : Int):=of_decide_eq_true (by first|(with_reducible assumption)|assumption)
   have q135 : x10_1 < (l0.length : Int):=of_decide_eq_true (by first|(with_reducible assumption)|assumption)
   obtain ⟨ad135,e135,hx135_0,hx135_1,hx135_2,hx135_3,hx135_4,hx135_5⟩:=at_T24 HR0.out x10_1 p135 q135
   cases e135
   replace hx135_0:=(HB.out.cell (wB w _ hx135_0)).trans hx135_0
   replace hx135_1:=(HB.out.cell (wB w _ hx135_1)).trans hx135_1
   replace hx135_2:=(HB.out.cell (wB w _ hx135_2)).trans hx135_2
   replace hx135_3:=(HB.out.cell (wB w _ hx135_3)).trans hx135_3
   replace hx135_4:=(HB.out.cell (wB w _ hx135_4)).trans hx135_4
   replace hx135_5:=(HB.out.cell (wB w _ hx135_5)).trans hx135_5
   replace p135:=eq_true p135
   replace q135:=eq_true q135
   try go_wp2_with (first|((with_reducible refine gD (N:=4) rfl ?_);refine box_event ?hg (N:=4) ?hd (cs:=#[.int .u32 0,.string (⟨#[]⟩ : ByteArray),.int .i64 0,.int .i64 0,.int .i64 0,.int .i64 0]) (t:=24) ?hr ?_;(case hd=>rfl);(case hg=>rfl);(case hr=>first|(go_simp;done)|(go_simp;rfl));intro gb136 hg w13 hbox hb;have n0_:=Am (below_step (by repeat (first|(with_reducible first|exact HB.out|apply bL|apply pN|apply bE)|exact HB.out)) hb);have n1_:=Am (hbox);have n2_:=Am ((by rw [hg];exact (bZ (by repeat (first|(with_reducible first|exact HB.out|apply bL|apply pN|apply bE)|exact HB.out))) : w.heap.size≤gb136));have n3_:=n2_;clear HB;have HB:=n0_;have BK136:=n1_;have GW136:=n2_;have GE136:=n3_;clear n0_ n1_ n2_ n3_;clear hb hbox hg;obtain ⟨X14_0,X14_1,X14_2,X14_3,X14_4,X14_5,Y14_0,Y14_1,Y14_2,Y14_3,Y14_4,Y14_5⟩:=kc6 (w:=w13) (g:=gb136) BK136.out))
   have n0_ : Aside0 (((((((w13.setCell ⟨gb136,0,none⟩ (.int .u32 ((rd_T24 l0 x10_1).f0))).setCell ⟨gb136,1,none⟩ (.string ((rd_T24 l0 x10_1).f1))).setCell ⟨gb136,2,none⟩ (.int .i64 ((rd_T24 l0 x10_1).f2))).setCell ⟨gb136,3,none⟩ (.int .i64 ((rd_T24 l0 x10_1).f3))).setCell ⟨gb136,4,none⟩ (.int .i64 ((rd_T24 l0 x10_1).f4))).setCell ⟨gb136,5,none⟩ (.int .i64 ((rd_T24 l0 x10_1).f5))).heap[gb136]? = some (.cells #[.int .u32 ((rd_T24 l0 x10_1).f0),.string ((rd_T24 l0 x10_1).f1),.int .i64 ((rd_T24 l0 x10_1).f2),.int .i64 ((rd_T24 l0 x10_1).f3),.int .i64 ((rd_T24 l0 x10_1).f4),.int .i64 ((rd_T24 l0 x10_1).f5)] 24 (0,0))):=⟨by (with_reducible repeat (first|refine bN ?_ _|refine bD ?_|refine bA ?_ _));refine blk_put (cs:=#[.int .u32 ((rd_T24 l0 x10_1).f0),.string ((rd_T24 l0 x10_1).f1),.int .i64 ((rd_T24 l0 x10_1).f2),.int .i64 ((rd_T24 l0 x10_1).f3),.int .i64 ((rd_T24 l0 x10_1).f4),.int .i64 0]) ?_ 5 _ rfl;(with_reducible repeat (first|refine bN ?_ _|refine bD ?_|refine bA ?_ _));refine blk_put (cs:=#[.int .u32 ((rd_T24 l0 x10_1).f0),.string ((rd_T24 l0 x10_1).f1),.int .i64 ((rd_T24 l0 x10_1).f2),.int .i64 ((rd_T24 l0 x10_1).f3),.int .i64 0,.int .i64 0]) ?_ 4 _ rfl;(with_reducible repeat (first|refine bN ?_ _|refine bD ?_|refine bA ?_ _));refine blk_put (cs:=#[.int .u32 ((rd_T24 l0 x10_1).f0),.string ((rd_T24 l0 x10_1).f1),.int .i64 ((rd_T24 l0 x10_1).f2),.int .i64 0,.int .i64 0,.int .i64 0]) ?_ 3 _ rfl;(with_reducible repeat (first|refine bN ?_ _|refine bD ?_|refine bA ?_ _));refine blk_put (cs:=#[.int .u32 ((rd_T24 l0 x10_1).f0),.string ((rd_T24 l0 x10_1).f1),.int .i64 0,.int .i64 0,.int .i64 0,.int .i64 0]) ?_ 2 _ rfl;(with_reducible repeat (first|refine bN ?_ _|refine bD ?_|refine bA ?_ _));refine blk_put (cs:=#[.int .u32 ((rd_T24 l0 x10_1).f0),.string (⟨#[]⟩ : ByteArray),.int .i64 0,.int .i64 0,.int .i64 0,.int .i64 0]) ?_ 1 _ rfl;(with_reducible repeat (first|refine bN ?_ _|refine bD ?_|refine bA ?_ _));refine blk_put (cs:=#[.int .u32 0,.string (⟨#[]⟩ : ByteArray),.int .i64 0,.int .i64 0,.int .i64 0,.int .i64 0]) ?_ 0 _ rfl;(with_reducible repeat (first|refine bN ?_ _|refine bD ?_|refine bA ?_ _));exact BK136.out⟩
   have n1_ : Aside0 (Below w.heap.size w ((((((w13.setCell ⟨gb136,0,none⟩ (.int .u32 ((rd_T24 l0 x10_1).f0))).setCell ⟨gb136,1,none⟩ (.string ((rd_T24 l0 x10_1).f1))).setCell ⟨gb136,2,none⟩ (.int .i64 ((rd_T24 l0 x10_1).f2))).setCell ⟨gb136,3,none⟩ (.int .i64 ((rd_T24 l0 x10_1).f3))).setCell ⟨gb136,4,none⟩ (.int .i64 ((rd_T24 l0 x10_1).f4))).setCell ⟨gb136,5,none⟩ (.int .i64 ((rd_T24 l0 x10_1).f5)))):=⟨by repeat (first|(with_reducible first|exact HB.out|apply bL|apply pN|apply bE|refine bS ?_ GE136.out)|exact HB.out)⟩
   generalize ((((((w13.setCell ⟨gb136,0,none⟩ (.int .u32 ((rd_T24 l0 x10_1).f0))).setCell ⟨gb136,1,none⟩ (.string ((rd_T24 l0 x10_1).f1))).setCell ⟨gb136,2,none⟩ (.int .i64 ((rd_T24 l0 x10_1).f2))).setCell ⟨gb136,3,none⟩ (.int .i64 ((rd_T24 l0 x10_1).f3))).setCell ⟨gb136,4,none⟩ (.int .i64 ((rd_T24 l0 x10_1).f4))).setCell ⟨gb136,5,none⟩ (.int .i64 ((rd_T24 l0 x10_1).f5))) = w15 at n0_ n1_ ⊢
   have BK136:=n0_
   have HB:=n1_
   clear n0_ n1_
   have n0_:=Am (bD BK136.out)
   have n1_:=Am (bE HB.out)
   clear BK136
   clear HB
   have BK136:=n0_
   have HB:=n1_
   clear n0_ n1_
   have p138 : 0≤((ji9) : Int):=of_decide_eq_true (by first|(with_reducible assumption)|assumption)
   have q138 : (ji9) < (l0.length : Int):=of_decide_eq_true (by first|(with_reducible assumption)|assumption)
   obtain ⟨ad138,e138,hx138_0,hx138_1,hx138_2,hx138_3,hx138_4,hx138_5⟩:=at_T24 HR0.out (ji9) p138 q138
   have hw138_5:=hx138_5
   have hw138_4:=hx138_4
   have hw138_3:=hx138_3
   have hw138_2:=hx138_2
   have hw138_1:=hx138_1
   have hw138_0:=hx138_0
   obtain rfl : ad135 = ad138:=(by injection e138)
   replace hx138_0:=(HB.out.cell (wB w _ hx138_0)).trans hx138_0
   replace hx138_1:=(HB.out.cell (wB w _ hx138_1)).trans hx138_1
   replace hx138_2:=(HB.out.cell (wB w _ hx138_2)).trans hx138_2
   replace hx138_3:=(HB.out.cell (wB w _ hx138_3)).trans hx138_3
   replace hx138_4:=(HB.out.cell (wB w _ hx138_4)).trans hx138_4
   replace hx138_5:=(HB.out.cell (wB w _ hx138_5)).trans hx138_5
   replace p138:=eq_true p138
   replace q138:=eq_true q138
   refine start_ (n:=18) (S:=fun w'=>w'.cell? ⟨gb136,0,none⟩ = some (.int .u32 ((rd_T24 l0 x10_1).f0))∧w'.cell? ⟨gb136,1,none⟩ = some (.string ((rd_T24 l0 x10_1).f1))∧w'.cell? ⟨gb136,2,none⟩ = some (.int .i64 ((rd_T24 l0 x10_1).f2))∧w'.cell? ⟨gb136,3,none⟩ = some (.int .i64 ((rd_T24 l0 x10_1).f3))∧w'.cell? ⟨gb136,4,none⟩ = some (.int .i64 ((rd_T24 l0 x10_1).f4))∧w'.cell? ⟨gb136,5,none⟩ = some (.int .i64 ((rd_T24 l0 x10_1).f5))∧w'.cell? (ad135.add (((ji9)).toNat * 6)) = some (.int .u32 ((rd_T24 l0 (ji9)).f0))∧w'.cell? ⟨(ad135.add (((ji9)).toNat * 6)).block,(ad135.add (((ji9)).toNat * 6)).off + 1,none⟩ = some (.string ((rd_T24 l0 (ji9)).f1))∧w'.cell? ⟨(ad135.add (((ji9)).toNat * 6)).block,(ad135.add (((ji9)).toNat * 6)).off + 2,none⟩ = some (.int .i64 ((rd_T24 l0 (ji9)).f2))∧w'.cell? ⟨(ad135.add (((ji9)).toNat * 6)).block,(ad135.add (((ji9)).toNat * 6)).off + 3,none⟩ = some (.int .i64 ((rd_T24 l0 (ji9)).f3))∧w'.cell? ⟨(ad135.add (((ji9)).toNat * 6)).block,(ad135.add (((ji9)).toNat * 6)).off + 4,none⟩ = some (.int .i64 ((rd_T24 l0 (ji9)).f4))∧w'.cell? ⟨(ad135.add (((ji9)).toNat * 6)).block,(ad135.add (((ji9)).toNat * 6)).off + 5,none⟩ = some (.int .i64 ((rd_T24 l0 (ji9)).f5))) (ds:=[]) #[O,O,O,O,O,O,O,O,O,O,O,O,O,O,O,O,O,O] (by kernel_rfl) rfl rfl ⟨(bC BK136.out 0).trans rfl,(bC BK136.out 1).trans rfl,(bC BK136.out 2).trans rfl,(bC BK136.out 3).trans rfl,(bC BK136.out 4).trans rfl,(bC BK136.out 5).trans rfl,((HB.out.cell (wB w _ hw138_0)).trans hw138_0),((HB.out.cell (wB w _ hw138_1)).trans hw138_1),((HB.out.cell (wB w _ hw138_2)).trans hw138_2),((HB.out.cell (wB w _ hw138_3)).trans hw138_3),((HB.out.cell (wB w _ hw138_4)).trans hw138_4),((HB.out.cell (wB w _ hw138_5)).trans hw138_5)⟩ (fun hHeld=>?_);refine with_tabW book_Check.tab6 book_Check.bits6 (fun HT_ HW_=>?_)
   generalize w15.drew = w16 at BK136 HB hx138_0 hx138_1 hx138_2 hx138_3 hx138_4 hx138_5 hHeld ⊢
   refine take_ (i:=0) (N:=some 15) (v:=?_) (a':=?_) #[J,O,O,O,O,O,O,O,O,O,O,O,O,O,O,O,O,O] rfl rfl (take_ofW HT_.out HW_.out (by kernel_rfl)) (fun _ _ _ h=>h) (Or.inl ⟨by rfl,?_⟩) hHeld ?_ ?_
   rotate_left
   ·rintro w' ⟨s0,s1,s2,s3,s4,s5,s6,s7,s8,s9,s10,s11⟩
    go_simp
    with_reducible rfl
   rotate_left
   ·simp only [Act.put,sT,sZ,sS,iW,iV]
    rfl
   refine one_ (i:=1) (N:=some 16) #[J,J,O,O,O,O,O,O,O,O,O,O,O,O,O,O,O,O] rfl rfl (one_of HT_.out (by kernel_rfl)) (by decide) (fun K hK=>?_)
   refine goes_ Tryd.func19 (by kernel_rfl) rfl #[.agg #[.int .u32 ((rd_T24 l0 x10_1).f0),.string ((rd_T24 l0 x10_1).f1),.int .i64 ((rd_T24 l0 x10_1).f2),.int .i64 ((rd_T24 l0 x10_1).f3),.int .i64 ((rd_T24 l0 x10_1).f4),.int .i64 ((rd_T24 l0 x10_1).f5)]] (by rfl) rfl rfl (by (try simp only [mT,mC,mN]);first|done|rfl|(simp only [lD,lT];rfl)) ?_
   with_reducible refine (book_right.calls ((rd_T24 l0 x10_1).f0) ((rd_T24 l0 x10_1).f1) ((rd_T24 l0 x10_1).f2) ((rd_T24 l0 x10_1).f3) ((rd_T24 l0 x10_1).f4) ((rd_T24 l0 x10_1).f5) true _ ?side1 A6.out).mono ?_
   (case side1=>exact Glob.below HG.out (by repeat (first|(with_reducible first|exact HB.out|apply bL|apply pN|apply bE|refine bS ?_ GE136.out)|exact HB.out)))
   rintro e w17 ⟨rfl,hb⟩
   refine ⟨_,rfl,?_⟩
   have n0_:=Am (blk_below (g:=gb136) (by (with_reducible repeat (first|refine bN ?_ _|refine bD ?_|refine bA ?_ _));exact BK136.out) hb)
   have n1_:=Am (below_step (by repeat (first|(with_reducible first|exact HB.out|apply bL|apply pN|apply bE|refine bS ?_ GE136.out)|exact HB.out)) hb)
   clear BK136
   clear HB
   have BK136:=n0_
   have HB:=n1_
   clear n0_ n1_
   refine hK.out _ _ ⟨(bC BK136.out 0).trans rfl,(bC BK136.out 1).trans rfl,(bC BK136.out 2).trans rfl,(bC BK136.out 3).trans rfl,(bC BK136.out 4).trans rfl,(bC BK136.out 5).trans rfl,((HB.out.cell (wB w _ hw138_0)).trans hw138_0),((HB.out.cell (wB w _ hw138_1)).trans hw138_1),((HB.out.cell (wB w _ hw138_2)).trans hw138_2),((HB.out.cell (wB w _ hw138_3)).trans hw138_3),((HB.out.cell (wB w _ hw138_4)).trans hw138_4),((HB.out.cell (wB w _ hw138_5)).trans hw138_5)⟩ (fun hHeld=>?_)
   clear hK K
   refine norm_ (a':=?_) ?_ ?_
   rotate_left
   ·show Act.put _ (some 16) _ = _
    simp only [Act.put,sT,sZ,sS,iW,iV]
    rfl
   refine pure_ (i:=2) (N:=some 17) (v:=?_) (a':=?_) #[J,J,J,O,O,O,O,O,O,O,O,O,O,O,O,O,O,O] rfl rfl (any_of HT_.out (by kernel_rfl)) (fun _ _ _ h=>h) (Or.inl ⟨by rfl,?_⟩) ?_ ?_
   rotate_left
   ·intro w'
    go_simp
    with_reducible rfl
   rotate_left
   ·simp only [Act.put,sT,sZ,sS,iW,iV]
    rfl
   refine pure_ (i:=3) (N:=some 18) (v:=?_) (a':=?_) #[J,J,J,J,O,O,O,O,O,O,O,O,O,O,O,O,O,O] rfl rfl (any_of HT_.out (by kernel_rfl)) (fun _ _ _ h=>h) (Or.inl ⟨by rfl,?_⟩) ?_ ?_
   rotate_left
   ·intro w'
    go_simp
    with_reducible rfl
   rotate_left
   ·simp only [Act.put,sT,sZ,sS,iW,iV]
    rfl
   refine pure_ (i:=4) (N:=some 19) (v:=?_) (a':=?_) #[J,J,J,J,J,O,O,O,O,O,O,O,O,O,O,O,O,O] rfl rfl (any_of HT_.out (by kernel_rfl)) (fun _ _ _ h=>h) (Or.inl ⟨by rfl,?_⟩) ?_ ?_
   rotate_left
   ·intro w'
    go_simp
    with_reducible rfl
   rotate_left
   ·simp only [Act.put,sT,sZ,sS,iW,iV]
    rfl
   refine pure_ (i:=5) (N:=some 20) (v:=?_) (a':=?_) #[J,J,J,J,J,J,O,O,O,O,O,O,O,O,O,O,O,O] rfl rfl (any_of HT_.out (by kernel_rfl)) (fun _ _ _ h=>h) (Or.inl ⟨by rfl,?_⟩) ?_ ?_
   rotate_left
   ·intro w'
    go_simp
    with_reducible rfl
   rotate_left
   ·simp only [Act.put,sT,sZ,sS,iW,iV]
    rfl
   refine pure_ (i:=6) (N:=some 21) (v:=?_) (a':=?_) #[J,J,J,J,J,J,J,O,O,O,O,O,O,O,O,O,O,O] rfl rfl (any_of HT_.out (by kernel_rfl)) (fun _ _ _ h=>h) (Or.inl ⟨by rfl,?_⟩) ?_ ?_
   rotate_left
   ·intro w'
    go_simp
    with_reducible rfl
   rotate_left
   ·simp only [Act.put,sT,sZ,sS,iW,iV]
    rfl
   refine pure_ (i:=7) (N:=some 22) (v:=?_) (a':=?_) #[J,J,J,J,J,J,J,J,O,O,O,O,O,O,O,O,O,O] rfl rfl (any_of HT_.out (by kernel_rfl)) (fun _ _ _ h=>h) (Or.inl ⟨by rfl,?_⟩) ?_ ?_
   rotate_left
   ·intro w'
    go_simp
    with_reducible rfl
   rotate_left
   ·simp only [Act.put,sT,sZ,sS,iW,iV]
    rfl
   refine pure_ (i:=9) (N:=some 24) (v:=?_) (a':=?_) #[J,J,J,J,J,J,J,J,O,J,O,O,O,O,O,O,O,O] rfl rfl (any_of HT_.out (by kernel_rfl)) (fun _ _ _ h=>h) (Or.inl ⟨by rfl,?_⟩) ?_ ?_
   rotate_left
   ·intro w'
    go_simp
    with_reducible rfl
   rotate_left
   ·simp only [Act.put,sT,sZ,sS,iW,iV]
    rfl
   refine pure_ (i:=10) (N:=some 25) (v:=?_) (a':=?_) #[J,J,J,J,J,J,J,J,O,J,J,O,O,O,O,O,O,O] rfl rfl (any_of HT_.out (by kernel_rfl)) (fun _ _ _ h=>h) (Or.inl ⟨by rfl,?_⟩) ?_ ?_
   rotate_left
   ·intro w'
    go_simp
    with_reducible rfl
   rotate_left
   ·simp only [Act.put,sT,sZ,sS,iW,iV]
    rfl
   refine pure_ (i:=11) (N:=some 26) (v:=?_) (a':=?_) #[J,J,J,J,J,J,J,J,O,J,J,J,O,O,O,O,O,O] rfl rfl (any_of HT_.out (by kernel_rfl)) (fun _ _ _ h=>h) (Or.inl ⟨by rfl,?_⟩) ?_ ?_
   rotate_left
   ·intro w'
    go_simp
    with_reducible rfl
   rotate_left
   ·simp only [Act.put,sT,sZ,sS,iW,iV]
    rfl
   refine pure_ (i:=12) (N:=some 27) (v:=?_) (a':=?_) #[J,J,J,J,J,J,J,J,O,J,J,J,J,O,O,O,O,O] rfl rfl (any_of HT_.out (by kernel_rfl)) (fun _ _ _ h=>h) (Or.inl ⟨by rfl,?_⟩) ?_ ?_
   rotate_left
   ·intro w'
    go_simp
    with_reducible rfl
   rotate_left
   ·simp only [Act.put,sT,sZ,sS,iW,iV]
    rfl
   refine pure_ (i:=13) (N:=some 28) (v:=?_) (a':=?_) #[J,J,J,J,J,J,J,J,O,J,J,J,J,J,O,O,O,O] rfl rfl (any_of HT_.out (by kernel_rfl)) (fun _ _ _ h=>h) (Or.inl ⟨by rfl,?_⟩) ?_ ?_
   rotate_left
   ·intro w'
    go_simp
    with_reducible rfl
   rotate_left
   ·simp only [Act.put,sT,sZ,sS,iW,iV]
    rfl
   refine take_ (i:=8) (N:=some 23) (v:=?_) (a':=?_) #[J,J,J,J,J,J,J,J,J,J,J,J,J,J,O,O,O,O] rfl rfl (take_ofW HT_.out HW_.out (by kernel_rfl)) (fun _ _ _ h=>h) (Or.inl ⟨by rfl,?_⟩) hHeld ?_ ?_
   rotate_left
   ·rintro w' ⟨s0,s1,s2,s3,s4,s5,s6,s7,s8,s9,s10,s11⟩
    go_simp
    with_reducible rfl
   rotate_left
   ·simp only [Act.put,sT,sZ,sS,iW,iV]
    rfl
   refine take_ (i:=14) (N:=some 29) (v:=?_) (a':=?_) #[J,J,J,J,J,J,J,J,J,J,J,J,J,J,J,O,O,O] rfl rfl (take_ofW HT_.out HW_.out (by kernel_rfl)) (fun _ _ _ h=>h) (Or.inl ⟨by rfl,?_⟩) hHeld ?_ ?_
   rotate_left
   ·rintro w' ⟨s0,s1,s2,s3,s4,s5,s6,s7,s8,s9,s10,s11⟩
    go_simp
    with_reducible rfl
   rotate_left
   ·simp only [Act.put,sT,sZ,sS,iW,iV]
    rfl
   refine pure_ (i:=15) (N:=some 30) (v:=?_) (a':=?_) #[J,J,J,J,J,J,J,J,J,J,J,J,J,J,J,J,O,O] rfl rfl (any_of HT_.out (by kernel_rfl)) (fun _ _ _ h=>h) (Or.inl ⟨by rfl,?_⟩) ?_ ?_
   rotate_left
   ·intro w'
    go_simp
    with_reducible rfl
   rotate_left
   ·simp only [Act.put,sT,sZ,sS,iW,iV]
    rfl
   refine pure_ (i:=16) (N:=some 31) (v:=?_) (a':=?_) #[J,J,J,J,J,J,J,J,J,J,J,J,J,J,J,J,J,O] rfl rfl (any_of HT_.out (by kernel_rfl)) (fun _ _ _ h=>h) (Or.inl ⟨by rfl,?_⟩) ?_ ?_
   rotate_left
   ·intro w'
    go_simp
    with_reducible rfl
   rotate_left
   ·simp only [Act.put,sT,sZ,sS,iW,iV]
    rfl
   refine pure_ (i:=17) (N:=some 32) (v:=?_) (a':=?_) #[J,J,J,J,J,J,J,J,J,J,J,J,J,J,J,J,J,J] rfl rfl (any_of HT_.out (by kernel_rfl)) (fun _ _ _ h=>h) (Or.inl ⟨by rfl,?_⟩) ?_ ?_
   rotate_left
   ·intro w'
    go_simp
    with_reducible rfl
   rotate_left
   ·simp only [Act.put,sT,sZ,sS,iW,iV]
    rfl
   refine done_ (done_of HT_.out (by kernel_rfl)) ?_
   try go_wp2
   go_ret
   exact ⟨by first|rfl|(simp [errW_none,errW_some] <;> rfl)|(simp only [← hji9];first|rfl|(simp [errW_none,errW_some] <;> rfl))|(simp [*,errW_none,errW_some] <;> rfl),by repeat (first|(with_reducible first|exact HB.out|apply bL|apply pN|apply bE|refine bS ?_ GE136.out)|exact HB.out)⟩
end Go.Proofs.YtakdneopmojjdaaDoor.P
