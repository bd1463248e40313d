/- cut to what one law reaches -/
import Derived.Test.YtakdneopmojjdaaDoorBkShort
import Derived.Test.YtakdneopmojjdaaDoorBkP0
import Derived.Test.YtakdneopmojjdaaDoorBkP13
namespace Go.Proofs.YtakdneopmojjdaaDoor.P
open Go.RowKit Go.Proofs.YtakdneopmojjdaaDoorW.PrintWords Go.Proofs.YtakdneopmojjdaaDoorW.PrintLast Go.Proofs.YtakdneopmojjdaaDoorW.PrintMore
attribute [local go_sem] max2_int min2_int max_two min_two max_three min_three max_four min_four   -- for this text's walks alone
set_option linter.unusedVariables false
set_option linter.unusedSimpArgs false
attribute [local go_sem] isSome_setCell
def gangerref20_Check.l0 : Nat→List (S24)→Int→Option (Int)
 | 0,_,_=>none
 | k + 1,x0,x3=>if x3 < (x0.length : Int) then (if 0≤x3 then ((gangerref20_Right.f k ((rd_T24 x0 x3).f0) ((rd_T24 x0 x3).f1) ((rd_T24 x0 x3).f2) ((rd_T24 x0 x3).f3) ((rd_T24 x0 x3).f4) ((rd_T24 x0 x3).f5)).bind fun t220=>(if t220 = true then (if x3 > 0 then (if 0≤(wrap64 (x3 - 1)) then (if (wrap64 (x3 - 1)) < (x0.length : Int) then (if ((rd_T24 x0 (wrap64 (x3 - 1))).f5) > ((rd_T24 x0 x3).f5) then (some 200) else (gangerref20_Check.l0 k x0 (wrap64 (x3 + 1)))) else (none)) else (none)) else (gangerref20_Check.l0 k x0 (wrap64 (x3 + 1)))) else (some 200))) else (none)) else (some 0)
def gangerref20_Check.f (k : Nat) (l0 : List (S24)) : Option (Int):=if (l0.length : Int) > 2000 then (some 200) else (gangerref20_Check.l0 k l0 0)
def gangerref20_Check.T6 : Bool × List (List Nat × List Nat):=(true,[([],[]),([],[]),([0,1],[0,1]),([2],[2]),([3],[3]),([4],[4]),([5,4],[5]),([6],[6]),([7,6],[6,7]),([8,6,6],[6,8]),([9],[9]),([9],[9]),([11,9],[9,11]),([10,12,9],[9,10,12]),([13,9],[9,13]),([14,9],[9,14]),([9],[9]),([9],[9]),([16,17,9],[9,16,17]),([18,9],[9,18]),([19,9],[9,19]),([15,20,9],[9,15,20]),([9,21,6],[6,9,21]),([6,22],[6,22])])
def gangerref20_Check.B6 : List Nat:=[0,0,3,7,15,31,63,127,255,511,1023,1023,3071,8191,16383,32767,1023,1023,197631,459775,984063,2097151,4194303,8388607]
theorem gangerref20_Check.tab6 : rtab .any (opsOf Tryd.f17 6) = gangerref20_Check.T6:=by kernel_rfl
theorem gangerref20_Check.bits6 : waitsOk gangerref20_Check.T6.2 gangerref20_Check.B6 = true:=by kernel_rfl
set_option maxHeartbeats 8000000 in
set_option maxRecDepth 100000 in
theorem gangerref20_Check.calls (k : Nat) (A0 : Option Addr) (c0 : Nat) (l0 : List (S24)) (r : Int) (w : World) (hr0 : Kd.C k24 w A0 l0.length l0) (hc0 : l0.length≤c0) (h : gangerref20_Check.f k l0 = some r) :
  Calls Tryd.prog 17 #[.slice A0 l0.length c0] w fun e w'=>e = .returned (.int .i64 r)∧Below w.heap.size w w':=by
 have hu24:=Tryd.underlying24
 have HR0:=Am hr0
 have HC0:=Am hc0
 clear hr0 hc0
 have HB:=Am (Below.refl w.heap.size w)
 have H : (if (l0.length : Int) > 2000 then (some 200) else (gangerref20_Check.l0 k l0 0)) = some r:=h
 clear h
 by_cases c2 : (l0.length : Int) > 2000
 ·rw [if_pos c2] at H
  have c2b0 : decide (2000 < (l0.length : Int)) = true:=decide_eq_true c2
  have c2b1 : decide (2000 < l0.length) = true:=decide_eq_true (by omega)
  clear c2
  obtain rfl:=Option.some.inj H
  go_enter Tryd.func17,Tryd.ntmps17
  go_wp2
  go_ret
  exact ⟨by first|rfl|(simp [errW_none,errW_some] <;> rfl)|(simp [*,errW_none,errW_some] <;> rfl)|(simp [bne,isE_]),by repeat (first|(with_reducible first|exact HB.out|apply bL|apply pN|apply bE)|exact HB.out)⟩
 rw [if_neg c2] at H
 have c2b0 : decide (2000 < (l0.length : Int)) = false:=decide_eq_false c2
 have c2b1 : decide (2000 < l0.length) = false:=decide_eq_false (by omega)
 clear c2
 have H':=Am H
 clear H
 go_enter Tryd.func17,Tryd.ntmps17
 go_wp2
 go_loopg [3] k (fun kq v3 w'=>∃ (x3_1 : Int),v3 = .int .i64 x3_1∧Aside0 (gangerref20_Check.l0 kq l0 x3_1 = some r)∧Aside0 (kq≤k)∧Aside0 (Below w.heap.size w w'))
 case atStart=>exact ⟨(0),(by first|rfl|(simp;done)|(simp [*];done)),H',⟨Nat.le_refl _⟩,⟨by repeat (first|(with_reducible first|exact HB.out|apply bL|apply pN|apply bE)|exact HB.out)⟩⟩
 case round =>
  clear H'
  obtain ⟨x3_1,rfl,HA,HK1,HB⟩:=hrel
  cases gk with
  | zero=>exact absurd HA.out (by simp [gangerref20_Check.l0])
  | succ k1 =>
   have H:=HA.out
   clear HA
   simp only [gangerref20_Check.l0] at H
   by_cases c3 : x3_1 < (l0.length : Int)
   rotate_left
   ·rw [if_neg c3] at H
    have c3b0 : decide (x3_1 < (l0.length : Int)) = false:=decide_eq_false c3
    clear c3
    obtain rfl:=Option.some.inj H
    go_wp2
    go_ret
    exact ⟨by first|rfl|(simp [errW_none,errW_some] <;> rfl)|(simp [*,errW_none,errW_some] <;> rfl)|(simp [bne,isE_]),by repeat (first|(with_reducible first|exact HB.out|apply bL|apply pN|apply bE)|exact HB.out)⟩
   rw [if_pos c3] at H
   have c3b0 : decide (x3_1 < (l0.length : Int)) = true:=decide_eq_true c3
   clear c3
   by_cases c4 : 0≤x3_1
   rotate_left
   ·rw [if_neg c4] at H
    exact absurd H (by simp)
   rw [if_pos c4] at H
   have c4b0 : decide (0≤x3_1) = true:=decide_eq_true c4
   clear c4
   replace H:=oB H
   obtain ⟨t220,A50,H⟩:=H
   try dsimp only at H
   have A5:=Am A50
   clear A50
   by_cases c6 : t220 = true
   rotate_left
   ·replace c6:=Bool.eq_false_iff.mpr c6
    subst c6
    have H1 : (some 200) = some r:=by rw [if_neg (show ¬ (false = true) by decide)] at H;exact H
    clear H
    have H:=H1
    clear H1
    obtain rfl:=Option.some.inj H
    try go_wp2
    have n0_:=Am (bE HB.out)
    clear HB
    have HB:=n0_
    clear n0_
    have p219 : 0≤(x3_1 : Int):=of_decide_eq_true (by first|(with_reducible assumption)|assumption)
    have q219 : x3_1 < (l0.length : Int):=of_decide_eq_true (by first|(with_reducible assumption)|assumption)
    obtain ⟨ad219,e219,hx219_0,hx219_1,hx219_2,hx219_3,hx219_4,hx219_5⟩:=at_T24 HR0.out x3_1 p219 q219
    have hw219_5:=hx219_5
    have hw219_4:=hx219_4
    have hw219_3:=hx219_3
    have hw219_2:=hx219_2
    have hw219_1:=hx219_1
    have hw219_0:=hx219_0
    cases e219
    replace hx219_0:=(HB.out.cell (wB w _ hx219_0)).trans hx219_0
    replace hx219_1:=(HB.out.cell (wB w _ hx219_1)).trans hx219_1
    replace hx219_2:=(HB.out.cell (wB w _ hx219_2)).trans hx219_2
    replace hx219_3:=(HB.out.cell (wB w _ hx219_3)).trans hx219_3
    replace hx219_4:=(HB.out.cell (wB w _ hx219_4)).trans hx219_4
    replace hx219_5:=(HB.out.cell (wB w _ hx219_5)).trans hx219_5
    replace p219:=eq_true p219
    replace q219:=eq_true q219
    refine start_ (n:=24) (S:=fun w'=>w'.cell? (ad219.add ((x3_1).toNat * 6)) = some (.int .u32 ((rd_T24 l0 x3_1).f0))∧w'.cell? ⟨(ad219.add ((x3_1).toNat * 6)).block,(ad219.add ((x3_1).toNat * 6)).off + 1,none⟩ = some (.string ((rd_T24 l0 x3_1).f1))∧w'.cell? ⟨(ad219.add ((x3_1).toNat * 6)).block,(ad219.add ((x3_1).toNat * 6)).off + 2,none⟩ = some (.int .i64 ((rd_T24 l0 x3_1).f2))∧w'.cell? ⟨(ad219.add ((x3_1).toNat * 6)).block,(ad219.add ((x3_1).toNat * 6)).off + 3,none⟩ = some (.int .i64 ((rd_T24 l0 x3_1).f3))∧w'.cell? ⟨(ad219.add ((x3_1).toNat * 6)).block,(ad219.add ((x3_1).toNat * 6)).off + 4,none⟩ = some (.int .i64 ((rd_T24 l0 x3_1).f4))∧w'.cell? ⟨(ad219.add ((x3_1).toNat * 6)).block,(ad219.add ((x3_1).toNat * 6)).off + 5,none⟩ = some (.int .i64 ((rd_T24 l0 x3_1).f5))) (ds:=[]) #[O,O,O,O,O,O,O,O,O,O,O,O,O,O,O,O,O,O,O,O,O,O,O,O] (by kernel_rfl) rfl rfl ⟨((HB.out.cell (wB w _ hw219_0)).trans hw219_0),((HB.out.cell (wB w _ hw219_1)).trans hw219_1),((HB.out.cell (wB w _ hw219_2)).trans hw219_2),((HB.out.cell (wB w _ hw219_3)).trans hw219_3),((HB.out.cell (wB w _ hw219_4)).trans hw219_4),((HB.out.cell (wB w _ hw219_5)).trans hw219_5)⟩ (fun hHeld=>?_);refine with_tabW gangerref20_Check.tab6 gangerref20_Check.bits6 (fun HT_ HW_=>?_)
    generalize wr.drew = w18 at HB hx219_0 hx219_1 hx219_2 hx219_3 hx219_4 hx219_5 hHeld ⊢
    refine pure_ (i:=0) (N:=some 13) (v:=?_) (a':=?_) #[J,O,O,O,O,O,O,O,O,O,O,O,O,O,O,O,O,O,O,O,O,O,O,O] rfl rfl (any_of HT_.out (by kernel_rfl)) (fun _ _ _ h=>h) (Or.inl ⟨by rfl,?_⟩) ?_ ?_
    rotate_left
    ·intro w'
     go_simp
     with_reducible rfl
    rotate_left
    ·simp only [Act.put,sT,sZ,sS,iW,iV]
     rfl
    refine pure_ (i:=1) (N:=some 14) (v:=?_) (a':=?_) #[J,J,O,O,O,O,O,O,O,O,O,O,O,O,O,O,O,O,O,O,O,O,O,O] rfl rfl (any_of HT_.out (by kernel_rfl)) (fun _ _ _ h=>h) (Or.inl ⟨by rfl,?_⟩) ?_ ?_
    rotate_left
    ·intro w'
     go_simp
     with_reducible rfl
    rotate_left
    ·simp only [Act.put,sT,sZ,sS,iW,iV]
     rfl
    refine pure_ (i:=2) (N:=some 15) (v:=?_) (a':=?_) #[J,J,J,O,O,O,O,O,O,O,O,O,O,O,O,O,O,O,O,O,O,O,O,O] rfl rfl (any_of HT_.out (by kernel_rfl)) (fun _ _ _ h=>h) (Or.inl ⟨by rfl,?_⟩) ?_ ?_
    rotate_left
    ·intro w'
     go_simp
     with_reducible rfl
    rotate_left
    ·simp only [Act.put,sT,sZ,sS,iW,iV]
     rfl
    refine take_ (i:=3) (N:=some 16) (v:=?_) (a':=?_) #[J,J,J,J,O,O,O,O,O,O,O,O,O,O,O,O,O,O,O,O,O,O,O,O] rfl rfl (take_ofW HT_.out HW_.out (by kernel_rfl)) (fun _ _ _ h=>h) (Or.inl ⟨by rfl,?_⟩) hHeld ?_ ?_
    rotate_left
    ·rintro w' ⟨s0,s1,s2,s3,s4,s5⟩
     go_simp
     with_reducible rfl
    rotate_left
    ·simp only [Act.put,sT,sZ,sS,iW,iV]
     rfl
    refine one_ (i:=4) (N:=some 17) #[J,J,J,J,J,O,O,O,O,O,O,O,O,O,O,O,O,O,O,O,O,O,O,O] rfl rfl (one_of HT_.out (by kernel_rfl)) (by decide) (fun K hK=>?_)
    refine goes_ Tryd.func30 (by kernel_rfl) rfl #[.agg #[.int .u32 ((rd_T24 l0 x3_1).f0),.string ((rd_T24 l0 x3_1).f1),.int .i64 ((rd_T24 l0 x3_1).f2),.int .i64 ((rd_T24 l0 x3_1).f3),.int .i64 ((rd_T24 l0 x3_1).f4),.int .i64 ((rd_T24 l0 x3_1).f5)]] (by rfl) rfl rfl (by (try simp only [mT,mC,mN]);first|done|rfl|(simp only [lD,lT];rfl)) ?_
    with_reducible refine (gangerref20_Right.calls k1 ((rd_T24 l0 x3_1).f0) ((rd_T24 l0 x3_1).f1) ((rd_T24 l0 x3_1).f2) ((rd_T24 l0 x3_1).f3) ((rd_T24 l0 x3_1).f4) ((rd_T24 l0 x3_1).f5) false _ A5.out).mono ?_
    rintro e w19 ⟨rfl,hb⟩
    refine ⟨_,rfl,?_⟩
    have n0_:=Am (below_step (by repeat (first|(with_reducible first|exact HB.out|apply bL|apply pN|apply bE)|exact HB.out)) hb)
    clear HB
    have HB:=n0_
    clear n0_
    refine hK.out _ _ ⟨((HB.out.cell (wB w _ hw219_0)).trans hw219_0),((HB.out.cell (wB w _ hw219_1)).trans hw219_1),((HB.out.cell (wB w _ hw219_2)).trans hw219_2),((HB.out.cell (wB w _ hw219_3)).trans hw219_3),((HB.out.cell (wB w _ hw219_4)).trans hw219_4),((HB.out.cell (wB w _ hw219_5)).trans hw219_5)⟩ (fun hHeld=>?_)
    clear hK K
    refine norm_ (a':=?_) ?_ ?_
    rotate_left
    ·show Act.put _ (some 17) _ = _
     simp only [Act.put,sT,sZ,sS,iW,iV]
     rfl
    refine pure_ (i:=5) (N:=some 18) (v:=?_) (a':=?_) #[J,J,J,J,J,J,O,O,O,O,O,O,O,O,O,O,O,O,O,O,O,O,O,O] rfl rfl (any_of HT_.out (by kernel_rfl)) (fun _ _ _ h=>h) (Or.inl ⟨by rfl,?_⟩) ?_ ?_
    rotate_left
    ·intro w'
     go_simp
     with_reducible rfl
    rotate_left
    ·simp only [Act.put,sT,sZ,sS,iW,iV]
     rfl
    refine pure_ (i:=6) (N:=some 19) (v:=?_) (a':=?_) #[J,J,J,J,J,J,J,O,O,O,O,O,O,O,O,O,O,O,O,O,O,O,O,O] rfl rfl (any_of HT_.out (by kernel_rfl)) (fun _ _ _ h=>h) (Or.inl ⟨by rfl,?_⟩) ?_ ?_
    rotate_left
    ·intro w'
     go_simp
     with_reducible rfl
    rotate_left
    ·simp only [Act.put,sT,sZ,sS,iW,iV]
     rfl
    refine pure_ (i:=7) (N:=some 20) (v:=undef) (a':=?_) #[J,J,J,J,J,J,J,J,O,O,O,O,O,O,O,O,O,O,O,O,O,O,O,O] rfl rfl (any_of HT_.out (by kernel_rfl)) (fun _ _ _ h=>h) (Or.inr ⟨by rfl,rfl⟩) ?_ ?_
    rotate_left
    ·simp only [Act.put,sT,sZ,sS,iW,iV]
     rfl
    refine pure_ (i:=8) (N:=some 21) (v:=undef) (a':=?_) #[J,J,J,J,J,J,J,J,J,O,O,O,O,O,O,O,O,O,O,O,O,O,O,O] rfl rfl (any_of HT_.out (by kernel_rfl)) (fun _ _ _ h=>h) (Or.inr ⟨by rfl,rfl⟩) ?_ ?_
    rotate_left
    ·simp only [Act.put,sT,sZ,sS,iW,iV]
     rfl
    refine pure_ (i:=9) (N:=some 22) (v:=undef) (a':=?_) #[J,J,J,J,J,J,J,J,J,J,O,O,O,O,O,O,O,O,O,O,O,O,O,O] rfl rfl (any_of HT_.out (by kernel_rfl)) (fun _ _ _ h=>h) (Or.inr ⟨by rfl,rfl⟩) ?_ ?_
    rotate_left
    ·simp only [Act.put,sT,sZ,sS,iW,iV]
     rfl
    refine pure_ (i:=10) (N:=some 23) (v:=undef) (a':=?_) #[J,J,J,J,J,J,J,J,J,J,J,O,O,O,O,O,O,O,O,O,O,O,O,O] rfl rfl (any_of HT_.out (by kernel_rfl)) (fun _ _ _ h=>h) (Or.inr ⟨by rfl,rfl⟩) ?_ ?_
    rotate_left
    ·simp only [Act.put,sT,sZ,sS,iW,iV]
     rfl
    refine pure_ (i:=11) (N:=some 24) (v:=undef) (a':=?_) #[J,J,J,J,J,J,J,J,J,J,J,J,O,O,O,O,O,O,O,O,O,O,O,O] rfl rfl (any_of HT_.out (by kernel_rfl)) (fun _ _ _ h=>h) (Or.inr ⟨by rfl,rfl⟩) ?_ ?_
    rotate_left
    ·simp only [Act.put,sT,sZ,sS,iW,iV]
     rfl
    refine pure_ (i:=12) (N:=some 25) (v:=undef) (a':=?_) #[J,J,J,J,J,J,J,J,J,J,J,J,J,O,O,O,O,O,O,O,O,O,O,O] rfl rfl (any_of HT_.out (by kernel_rfl)) (fun _ _ _ h=>h) (Or.inr ⟨by rfl,rfl⟩) ?_ ?_
    rotate_left
    ·simp only [Act.put,sT,sZ,sS,iW,iV]
     rfl
    refine pure_ (i:=13) (N:=some 26) (v:=undef) (a':=?_) #[J,J,J,J,J,J,J,J,J,J,J,J,J,J,O,O,O,O,O,O,O,O,O,O] rfl rfl (any_of HT_.out (by kernel_rfl)) (fun _ _ _ h=>h) (Or.inr ⟨by rfl,rfl⟩) ?_ ?_
    rotate_left
    ·simp only [Act.put,sT,sZ,sS,iW,iV]
     rfl
    refine pure_ (i:=14) (N:=some 27) (v:=undef) (a':=?_) #[J,J,J,J,J,J,J,J,J,J,J,J,J,J,J,O,O,O,O,O,O,O,O,O] rfl rfl (any_of HT_.out (by kernel_rfl)) (fun _ _ _ h=>h) (Or.inr ⟨by rfl,rfl⟩) ?_ ?_
    rotate_left
    ·simp only [Act.put,sT,sZ,sS,iW,iV]
     rfl
    refine pure_ (i:=15) (N:=some 28) (v:=undef) (a':=?_) #[J,J,J,J,J,J,J,J,J,J,J,J,J,J,J,J,O,O,O,O,O,O,O,O] rfl rfl (any_of HT_.out (by kernel_rfl)) (fun _ _ _ h=>h) (Or.inr ⟨by rfl,rfl⟩) ?_ ?_
    rotate_left
    ·simp only [Act.put,sT,sZ,sS,iW,iV]
     rfl
    refine pure_ (i:=16) (N:=some 29) (v:=undef) (a':=?_) #[J,J,J,J,J,J,J,J,J,J,J,J,J,J,J,J,J,O,O,O,O,O,O,O] rfl rfl (any_of HT_.out (by kernel_rfl)) (fun _ _ _ h=>h) (Or.inr ⟨by rfl,rfl⟩) ?_ ?_
    rotate_left
    ·simp only [Act.put,sT,sZ,sS,iW,iV]
     rfl
    refine pure_ (i:=17) (N:=some 30) (v:=undef) (a':=?_) #[J,J,J,J,J,J,J,J,J,J,J,J,J,J,J,J,J,J,O,O,O,O,O,O] rfl rfl (any_of HT_.out (by kernel_rfl)) (fun _ _ _ h=>h) (Or.inr ⟨by rfl,rfl⟩) ?_ ?_
    rotate_left
    ·simp only [Act.put,sT,sZ,sS,iW,iV]
     rfl
    refine pure_ (i:=18) (N:=some 31) (v:=undef) (a':=?_) #[J,J,J,J,J,J,J,J,J,J,J,J,J,J,J,J,J,J,J,O,O,O,O,O] rfl rfl (any_of HT_.out (by kernel_rfl)) (fun _ _ _ h=>h) (Or.inr ⟨by rfl,rfl⟩) ?_ ?_
    rotate_left
    ·simp only [Act.put,sT,sZ,sS,iW,iV]
     rfl
    refine pure_ (i:=19) (N:=some 32) (v:=undef) (a':=?_) #[J,J,J,J,J,J,J,J,J,J,J,J,J,J,J,J,J,J,J,J,O,O,O,O] rfl rfl (any_of HT_.out (by kernel_rfl)) (fun _ _ _ h=>h) (Or.inr ⟨by rfl,rfl⟩) ?_ ?_
    rotate_left
    ·simp only [Act.put,sT,sZ,sS,iW,iV]
     rfl
    refine pure_ (i:=20) (N:=some 33) (v:=undef) (a':=?_) #[J,J,J,J,J,J,J,J,J,J,J,J,J,J,J,J,J,J,J,J,J,O,O,O] rfl rfl (any_of HT_.out (by kernel_rfl)) (fun _ _ _ h=>h) (Or.inr ⟨by rfl,rfl⟩) ?_ ?_
    rotate_left
    ·simp only [Act.put,sT,sZ,sS,iW,iV]
     rfl
    refine pure_ (i:=21) (N:=some 34) (v:=undef) (a':=?_) #[J,J,J,J,J,J,J,J,J,J,J,J,J,J,J,J,J,J,J,J,J,J,O,O] rfl rfl (any_of HT_.out (by kernel_rfl)) (fun _ _ _ h=>h) (Or.inr ⟨by rfl,rfl⟩) ?_ ?_
    rotate_left
    ·simp only [Act.put,sT,sZ,sS,iW,iV]
     rfl
    refine pure_ (i:=22) (N:=some 35) (v:=undef) (a':=?_) #[J,J,J,J,J,J,J,J,J,J,J,J,J,J,J,J,J,J,J,J,J,J,J,O] rfl rfl (any_of HT_.out (by kernel_rfl)) (fun _ _ _ h=>h) (Or.inr ⟨by rfl,rfl⟩) ?_ ?_
    rotate_left
    ·simp only [Act.put,sT,sZ,sS,iW,iV]
     rfl
    refine pure_ (i:=23) (N:=some 36) (v:=?_) (a':=?_) #[J,J,J,J,J,J,J,J,J,J,J,J,J,J,J,J,J,J,J,J,J,J,J,J] rfl rfl (any_of HT_.out (by kernel_rfl)) (fun _ _ _ h=>h) (Or.inl ⟨by rfl,?_⟩) ?_ ?_
    rotate_left
    ·intro w'
     go_simp
     with_reducible rfl
    rotate_left
    ·simp only [Act.put,sT,sZ,sS,iW,iV]
     rfl
    refine done_ (done_of HT_.out (by kernel_rfl)) ?_
    try go_wp2
    go_ret
    exact ⟨by first|rfl|(simp [errW_none,errW_some] <;> rfl)|(simp [*,errW_none,errW_some] <;> rfl)|(simp [bne,isE_]),by repeat (first|(with_reducible first|exact HB.out|apply bL|apply pN|apply bE)|exact HB.out)⟩
   subst c6
   have H1 : (if x3_1 > 0 then (if 0≤(wrap64 (x3_1 - 1)) then (if (wrap64 (x3_1 - 1)) < (l0.length : Int) then (if ((rd_T24 l0 (wrap64 (x3_1 - 1))).f5) > ((rd_T24 l0 x3_1).f5) then (some 200) else (gangerref20_Check.l0 k1 l0 (wrap64 (x3_1 + 1)))) else (none)) else (none)) else (gangerref20_Check.l0 k1 l0 (wrap64 (x3_1 + 1)))) = some r:=by rw [if_pos rfl] at H;exact H
   clear H
   have H:=H1
   clear H1
   by_cases c7 : x3_1 > 0
   rotate_left
   ·rw [if_neg c7] at H
    have c7b0 : decide (0 < x3_1) = false:=decide_eq_false c7
    clear c7
    have H':=Am H
    clear H
    try go_wp2
    have n0_:=Am (bE HB.out)
    clear HB
    have HB:=n0_
    clear n0_
    have p219 : 0≤(x3_1 : Int):=of_decide_eq_true (by first|(with_reducible assumption)|assumption)
    have q219 : x3_1 < (l0.length : Int):=of_decide_eq_true (by first|(with_reducible assumption)|assumption)
    obtain ⟨ad219,e219,hx219_0,hx219_1,hx219_2,hx219_3,hx219_4,hx219_5⟩:=at_T24 HR0.out x3_1 p219 q219
    have hw219_5:=hx219_5
    have hw219_4:=hx219_4
    have hw219_3:=hx219_3
    have hw219_2:=hx219_2
    have hw219_1:=hx219_1
    have hw219_0:=hx219_0
    cases e219
    replace hx219_0:=(HB.out.cell (wB w _ hx219_0)).trans hx219_0
    replace hx219_1:=(HB.out.cell (wB w _ hx219_1)).trans hx219_1
    replace hx219_2:=(HB.out.cell (wB w _ hx219_2)).trans hx219_2
    replace hx219_3:=(HB.out.cell (wB w _ hx219_3)).trans hx219_3
    replace hx219_4:=(HB.out.cell (wB w _ hx219_4)).trans hx219_4
    replace hx219_5:=(HB.out.cell (wB w _ hx219_5)).trans hx219_5
    replace p219:=eq_true p219
    replace q219:=eq_true q219
    refine start_ (n:=24) (S:=fun w'=>w'.cell? (ad219.add ((x3_1).toNat * 6)) = some (.int .u32 ((rd_T24 l0 x3_1).f0))∧w'.cell? ⟨(ad219.add ((x3_1).toNat * 6)).block,(ad219.add ((x3_1).toNat * 6)).off + 1,none⟩ = some (.string ((rd_T24 l0 x3_1).f1))∧w'.cell? ⟨(ad219.add ((x3_1).toNat * 6)).block,(ad219.add ((x3_1).toNat * 6)).off + 2,none⟩ = some (.int .i64 ((rd_T24 l0 x3_1).f2))∧w'.cell? ⟨(ad219.add ((x3_1).toNat * 6)).block,(ad219.add ((x3_1).toNat * 6)).off + 3,none⟩ = some (.int .i64 ((rd_T24 l0 x3_1).f3))∧w'.cell? ⟨(ad219.add ((x3_1).toNat * 6)).block,(ad219.add ((x3_1).toNat * 6)).off + 4,none⟩ = some (.int .i64 ((rd_T24 l0 x3_1).f4))∧w'.cell? ⟨(ad219.add ((x3_1).toNat * 6)).block,(ad219.add ((x3_1).toNat * 6)).off + 5,none⟩ = some (.int .i64 ((rd_T24 l0 x3_1).f5))) (ds:=[]) #[O,O,O,O,O,O,O,O,O,O,O,O,O,O,O,O,O,O,O,O,O,O,O,O] (by kernel_rfl) rfl rfl ⟨((HB.out.cell (wB w _ hw219_0)).trans hw219_0),((HB.out.cell (wB w _ hw219_1)).trans hw219_1),((HB.out.cell (wB w _ hw219_2)).trans hw219_2),((HB.out.cell (wB w _ hw219_3)).trans hw219_3),((HB.out.cell (wB w _ hw219_4)).trans hw219_4),((HB.out.cell (wB w _ hw219_5)).trans hw219_5)⟩ (fun hHeld=>?_);refine with_tabW gangerref20_Check.tab6 gangerref20_Check.bits6 (fun HT_ HW_=>?_)
    generalize wr.drew = w16 at HB hx219_0 hx219_1 hx219_2 hx219_3 hx219_4 hx219_5 hHeld ⊢
    refine pure_ (i:=0) (N:=some 13) (v:=?_) (a':=?_) #[J,O,O,O,O,O,O,O,O,O,O,O,O,O,O,O,O,O,O,O,O,O,O,O] rfl rfl (any_of HT_.out (by kernel_rfl)) (fun _ _ _ h=>h) (Or.inl ⟨by rfl,?_⟩) ?_ ?_
    rotate_left
    ·intro w'
     go_simp
     with_reducible rfl
    rotate_left
    ·simp only [Act.put,sT,sZ,sS,iW,iV]
     rfl
    refine pure_ (i:=1) (N:=some 14) (v:=?_) (a':=?_) #[J,J,O,O,O,O,O,O,O,O,O,O,O,O,O,O,O,O,O,O,O,O,O,O] rfl rfl (any_of HT_.out (by kernel_rfl)) (fun _ _ _ h=>h) (Or.inl ⟨by rfl,?_⟩) ?_ ?_
    rotate_left
    ·intro w'
     go_simp
     with_reducible rfl
    rotate_left
    ·simp only [Act.put,sT,sZ,sS,iW,iV]
     rfl
    refine pure_ (i:=2) (N:=some 15) (v:=?_) (a':=?_) #[J,J,J,O,O,O,O,O,O,O,O,O,O,O,O,O,O,O,O,O,O,O,O,O] rfl rfl (any_of HT_.out (by kernel_rfl)) (fun _ _ _ h=>h) (Or.inl ⟨by rfl,?_⟩) ?_ ?_
    rotate_left
    ·intro w'
     go_simp
     with_reducible rfl
    rotate_left
    ·simp only [Act.put,sT,sZ,sS,iW,iV]
     rfl
    refine take_ (i:=3) (N:=some 16) (v:=?_) (a':=?_) #[J,J,J,J,O,O,O,O,O,O,O,O,O,O,O,O,O,O,O,O,O,O,O,O] rfl rfl (take_ofW HT_.out HW_.out (by kernel_rfl)) (fun _ _ _ h=>h) (Or.inl ⟨by rfl,?_⟩) hHeld ?_ ?_
    rotate_left
    ·rintro w' ⟨s0,s1,s2,s3,s4,s5⟩
     go_simp
     with_reducible rfl
    rotate_left
    ·simp only [Act.put,sT,sZ,sS,iW,iV]
     rfl
    refine one_ (i:=4) (N:=some 17) #[J,J,J,J,J,O,O,O,O,O,O,O,O,O,O,O,O,O,O,O,O,O,O,O] rfl rfl (one_of HT_.out (by kernel_rfl)) (by decide) (fun K hK=>?_)
    refine goes_ Tryd.func30 (by kernel_rfl) rfl #[.agg #[.int .u32 ((rd_T24 l0 x3_1).f0),.string ((rd_T24 l0 x3_1).f1),.int .i64 ((rd_T24 l0 x3_1).f2),.int .i64 ((rd_T24 l0 x3_1).f3),.int .i64 ((rd_T24 l0 x3_1).f4),.int .i64 ((rd_T24 l0 x3_1).f5)]] (by rfl) rfl rfl (by (try simp only [mT,mC,mN]);first|done|rfl|(simp only [lD,lT];rfl)) ?_
    with_reducible refine (gangerref20_Right.calls k1 ((rd_T24 l0 x3_1).f0) ((rd_T24 l0 x3_1).f1) ((rd_T24 l0 x3_1).f2) ((rd_T24 l0 x3_1).f3) ((rd_T24 l0 x3_1).f4) ((rd_T24 l0 x3_1).f5) true _ A5.out).mono ?_
    rintro e w17 ⟨rfl,hb⟩
    refine ⟨_,rfl,?_⟩
    have n0_:=Am (below_step (by repeat (first|(with_reducible first|exact HB.out|apply bL|apply pN|apply bE)|exact HB.out)) hb)
    clear HB
    have HB:=n0_
    clear n0_
    refine hK.out _ _ ⟨((HB.out.cell (wB w _ hw219_0)).trans hw219_0),((HB.out.cell (wB w _ hw219_1)).trans hw219_1),((HB.out.cell (wB w _ hw219_2)).trans hw219_2),((HB.out.cell (wB w _ hw219_3)).trans hw219_3),((HB.out.cell (wB w _ hw219_4)).trans hw219_4),((HB.out.cell (wB w _ hw219_5)).trans hw219_5)⟩ (fun hHeld=>?_)
    clear hK K
    refine norm_ (a':=?_) ?_ ?_
    rotate_left
    ·show Act.put _ (some 17) _ = _
     simp only [Act.put,sT,sZ,sS,iW,iV]
     rfl
    refine pure_ (i:=5) (N:=some 18) (v:=?_) (a':=?_) #[J,J,J,J,J,J,O,O,O,O,O,O,O,O,O,O,O,O,O,O,O,O,O,O] rfl rfl (any_of HT_.out (by kernel_rfl)) (fun _ _ _ h=>h) (Or.inl ⟨by rfl,?_⟩) ?_ ?_
    rotate_left
    ·intro w'
     go_simp
     with_reducible rfl
    rotate_left
    ·simp only [Act.put,sT,sZ,sS,iW,iV]
     rfl
    refine pure_ (i:=6) (N:=some 19) (v:=?_) (a':=?_) #[J,J,J,J,J,J,J,O,O,O,O,O,O,O,O,O,O,O,O,O,O,O,O,O] rfl rfl (any_of HT_.out (by kernel_rfl)) (fun _ _ _ h=>h) (Or.inl ⟨by rfl,?_⟩) ?_ ?_
    rotate_left
    ·intro w'
     go_simp
     with_reducible rfl
    rotate_left
    ·simp only [Act.put,sT,sZ,sS,iW,iV]
     rfl
    refine pure_ (i:=7) (N:=some 20) (v:=?_) (a':=?_) #[J,J,J,J,J,J,J,J,O,O,O,O,O,O,O,O,O,O,O,O,O,O,O,O] rfl rfl (any_of HT_.out (by kernel_rfl)) (fun _ _ _ h=>h) (Or.inl ⟨by rfl,?_⟩) ?_ ?_
    rotate_left
    ·intro w'
     go_simp
     with_reducible rfl
    rotate_left
    ·simp only [Act.put,sT,sZ,sS,iW,iV]
     rfl
    refine pure_ (i:=8) (N:=some 21) (v:=?_) (a':=?_) #[J,J,J,J,J,J,J,J,J,O,O,O,O,O,O,O,O,O,O,O,O,O,O,O] rfl rfl (any_of HT_.out (by kernel_rfl)) (fun _ _ _ h=>h) (Or.inl ⟨by rfl,?_⟩) ?_ ?_
    rotate_left
    ·intro w'
     go_simp
     with_reducible rfl
    rotate_left
    ·simp only [Act.put,sT,sZ,sS,iW,iV]
     rfl
    refine pure_ (i:=9) (N:=some 22) (v:=?_) (a':=?_) #[J,J,J,J,J,J,J,J,J,J,O,O,O,O,O,O,O,O,O,O,O,O,O,O] rfl rfl (any_of HT_.out (by kernel_rfl)) (fun _ _ _ h=>h) (Or.inl ⟨by rfl,?_⟩) ?_ ?_
    rotate_left
    ·intro w'
     go_simp
     with_reducible rfl
    rotate_left
    ·simp only [Act.put,sT,sZ,sS,iW,iV]
     rfl
    refine pure_ (i:=10) (N:=some 23) (v:=undef) (a':=?_) #[J,J,J,J,J,J,J,J,J,J,J,O,O,O,O,O,O,O,O,O,O,O,O,O] rfl rfl (any_of HT_.out (by kernel_rfl)) (fun _ _ _ h=>h) (Or.inr ⟨by rfl,rfl⟩) ?_ ?_
    rotate_left
    ·simp only [Act.put,sT,sZ,sS,iW,iV]
     rfl
    refine pure_ (i:=11) (N:=some 24) (v:=undef) (a':=?_) #[J,J,J,J,J,J,J,J,J,J,J,J,O,O,O,O,O,O,O,O,O,O,O,O] rfl rfl (any_of HT_.out (by kernel_rfl)) (fun _ _ _ h=>h) (Or.inr ⟨by rfl,rfl⟩) ?_ ?_
    rotate_left
    ·simp only [Act.put,sT,sZ,sS,iW,iV]
     rfl
    refine pure_ (i:=12) (N:=some 25) (v:=undef) (a':=?_) #[J,J,J,J,J,J,J,J,J,J,J,J,J,O,O,O,O,O,O,O,O,O,O,O] rfl rfl (any_of HT_.out (by kernel_rfl)) (fun _ _ _ h=>h) (Or.inr ⟨by rfl,rfl⟩) ?_ ?_
    rotate_left
    ·simp only [Act.put,sT,sZ,sS,iW,iV]
     rfl
    refine pure_ (i:=13) (N:=some 26) (v:=undef) (a':=?_) #[J,J,J,J,J,J,J,J,J,J,J,J,J,J,O,O,O,O,O,O,O,O,O,O] rfl rfl (any_of HT_.out (by kernel_rfl)) (fun _ _ _ h=>h) (Or.inr ⟨by rfl,rfl⟩) ?_ ?_
    rotate_left
    ·simp only [Act.put,sT,sZ,sS,iW,iV]
     rfl
    refine pure_ (i:=14) (N:=some 27) (v:=undef) (a':=?_) #[J,J,J,J,J,J,J,J,J,J,J,J,J,J,J,O,O,O,O,O,O,O,O,O] rfl rfl (any_of HT_.out (by kernel_rfl)) (fun _ _ _ h=>h) (Or.inr ⟨by rfl,rfl⟩) ?_ ?_
    rotate_left
    ·simp only [Act.put,sT,sZ,sS,iW,iV]
     rfl
    refine pure_ (i:=15) (N:=some 28) (v:=undef) (a':=?_) #[J,J,J,J,J,J,J,J,J,J,J,J,J,J,J,J,O,O,O,O,O,O,O,O] rfl rfl (any_of HT_.out (by kernel_rfl)) (fun _ _ _ h=>h) (Or.inr ⟨by rfl,rfl⟩) ?_ ?_
    rotate_left
    ·simp only [Act.put,sT,sZ,sS,iW,iV]
     rfl
    refine pure_ (i:=16) (N:=some 29) (v:=undef) (a':=?_) #[J,J,J,J,J,J,J,J,J,J,J,J,J,J,J,J,J,O,O,O,O,O,O,O] rfl rfl (any_of HT_.out (by kernel_rfl)) (fun _ _ _ h=>h) (Or.inr ⟨by rfl,rfl⟩) ?_ ?_
    rotate_left
    ·simp only [Act.put,sT,sZ,sS,iW,iV]
     rfl
    refine pure_ (i:=17) (N:=some 30) (v:=undef) (a':=?_) #[J,J,J,J,J,J,J,J,J,J,J,J,J,J,J,J,J,J,O,O,O,O,O,O] rfl rfl (any_of HT_.out (by kernel_rfl)) (fun _ _ _ h=>h) (Or.inr ⟨by rfl,rfl⟩) ?_ ?_
    rotate_left
    ·simp only [Act.put,sT,sZ,sS,iW,iV]
     rfl
    refine pure_ (i:=18) (N:=some 31) (v:=undef) (a':=?_) #[J,J,J,J,J,J,J,J,J,J,J,J,J,J,J,J,J,J,J,O,O,O,O,O] rfl rfl (any_of HT_.out (by kernel_rfl)) (fun _ _ _ h=>h) (Or.inr ⟨by rfl,rfl⟩) ?_ ?_
    rotate_left
    ·simp only [Act.put,sT,sZ,sS,iW,iV]
     rfl
    refine pure_ (i:=19) (N:=some 32) (v:=undef) (a':=?_) #[J,J,J,J,J,J,J,J,J,J,J,J,J,J,J,J,J,J,J,J,O,O,O,O] rfl rfl (any_of HT_.out (by kernel_rfl)) (fun _ _ _ h=>h) (Or.inr ⟨by rfl,rfl⟩) ?_ ?_
    rotate_left
    ·simp only [Act.put,sT,sZ,sS,iW,iV]
     rfl
    refine pure_ (i:=20) (N:=some 33) (v:=undef) (a':=?_) #[J,J,J,J,J,J,J,J,J,J,J,J,J,J,J,J,J,J,J,J,J,O,O,O] rfl rfl (any_of HT_.out (by kernel_rfl)) (fun _ _ _ h=>h) (Or.inr ⟨by rfl,rfl⟩) ?_ ?_
    rotate_left
    ·simp only [Act.put,sT,sZ,sS,iW,iV]
     rfl
    refine pure_ (i:=21) (N:=some 34) (v:=undef) (a':=?_) #[J,J,J,J,J,J,J,J,J,J,J,J,J,J,J,J,J,J,J,J,J,J,O,O] rfl rfl (any_of HT_.out (by kernel_rfl)) (fun _ _ _ h=>h) (Or.inr ⟨by rfl,rfl⟩) ?_ ?_
    rotate_left
    ·simp only [Act.put,sT,sZ,sS,iW,iV]
     rfl
    refine pure_ (i:=22) (N:=some 35) (v:=?_) (a':=?_) #[J,J,J,J,J,J,J,J,J,J,J,J,J,J,J,J,J,J,J,J,J,J,J,O] rfl rfl (any_of HT_.out (by kernel_rfl)) (fun _ _ _ h=>h) (Or.inl ⟨by rfl,?_⟩) ?_ ?_
    rotate_left
    ·intro w'
     go_simp
     with_reducible rfl
    rotate_left
    ·simp only [Act.put,sT,sZ,sS,iW,iV]
     rfl
    refine pure_ (i:=23) (N:=some 36) (v:=?_) (a':=?_) #[J,J,J,J,J,J,J,J,J,J,J,J,J,J,J,J,J,J,J,J,J,J,J,J] rfl rfl (any_of HT_.out (by kernel_rfl)) (fun _ _ _ h=>h) (Or.inl ⟨by rfl,?_⟩) ?_ ?_
    rotate_left
    ·intro w'
     go_simp
     with_reducible rfl
    rotate_left
    ·simp only [Act.put,sT,sZ,sS,iW,iV]
     rfl
    refine done_ (done_of HT_.out (by kernel_rfl)) ?_
    try go_wp2
    go_roundg k1
    case measure=>have:=HK1.out;omega
    case rel=>exact ⟨(wrap64 (x3_1 + 1)),(by first|rfl|(simp;done)|(simp [*];done)),H',⟨by have:=HK1.out;omega⟩,⟨by repeat (first|(with_reducible first|exact HB.out|apply bL|apply pN|apply bE)|exact HB.out)⟩⟩
   rw [if_pos c7] at H
   have c7b0 : decide (0 < x3_1) = true:=decide_eq_true c7
   clear c7
   obtain ⟨ji8,hji8⟩ : ∃ j_ : Int,(wrap64 (x3_1 - 1)) = j_:=⟨_,rfl⟩
   replace H : (if 0≤(ji8) then (if (ji8) < (l0.length : Int) then (if ((rd_T24 l0 (ji8)).f5) > ((rd_T24 l0 x3_1).f5) then (some 200) else (gangerref20_Check.l0 k1 l0 (wrap64 (x3_1 + 1)))) else (none)) else (none)) = some r:=by first|(rw [hji8] at H;exact H)|(simp only [hji8] at H ⊢;exact H)
   (try rw [hji8] at A5)
   have hji8w : (IntKind.i64.wrap (x3_1 - 1)) = ji8:=(iW _).trans hji8
   by_cases c9 : 0≤(ji8)
   rotate_left
   ·rw [if_neg c9] at H
    exact absurd H (by simp)
   rw [if_pos c9] at H
   have c9b0 : decide (0≤(ji8)) = true:=decide_eq_true c9
   clear c9
   by_cases c10 : (ji8) < (l0.length : Int)
   rotate_left
   ·rw [if_neg c10] at H
    exact absurd H (by simp)
   rw [if_pos c10] at H
   have c10b0 : decide ((ji8) < (l0.length : Int)) = true:=decide_eq_true c10
   clear c10
   by_cases c11 : ((rd_T24 l0 (ji8)).f5) > ((rd_T24 l0 x3_1).f5)
   rotate_left
   ·rw [if_neg c11] at H
    have c11b0 : decide (((rd_T24 l0 x3_1).f5) < ((rd_T24 l0 (ji8)).f5)) = false:=decide_eq_false c11
    clear c11
    have H':=Am H
    clear H
    try go_wp2
    have n0_:=Am (bE HB.out)
    clear HB
    have HB:=n0_
    clear n0_
    have p219 : 0≤(x3_1 : Int):=of_decide_eq_true (by first|(with_reducible assumption)|assumption)
    have q219 : x3_1 < (l0.length : Int):=of_decide_eq_true (by first|(with_reducible assumption)|assumption)
    obtain ⟨ad219,e219,hx219_0,hx219_1,hx219_2,hx219_3,hx219_4,hx219_5⟩:=at_T24 HR0.out x3_1 p219 q219
    have hw219_5:=hx219_5
    have hw219_4:=hx219_4
    have hw219_3:=hx219_3
    have hw219_2:=hx219_2
    have hw219_1:=hx219_1
    have hw219_0:=hx219_0
    cases e219
    replace hx219_0:=(HB.out.cell (wB w _ hx219_0)).trans hx219_0
    replace hx219_1:=(HB.out.cell (wB w _ hx219_1)).trans hx219_1
    replace hx219_2:=(HB.out.cell (wB w _ hx219_2)).trans hx219_2
    replace hx219_3:=(HB.out.cell (wB w _ hx219_3)).trans hx219_3
    replace hx219_4:=(HB.out.cell (wB w _ hx219_4)).trans hx219_4
    replace hx219_5:=(HB.out.cell (wB w _ hx219_5)).trans hx219_5
    replace p219:=eq_true p219
    replace q219:=eq_true q219
    have p221 : 0≤((ji8) : Int):=of_decide_eq_true (by first|(with_reducible assumption)|assumption)
    have q221 : (ji8) < (l0.length : Int):=of_decide_eq_true (by first|(with_reducible assumption)|assumption)
    obtain ⟨ad221,e221,hx221_0,hx221_1,hx221_2,hx221_3,hx221_4,hx221_5⟩:=at_T24 HR0.out (ji8) p221 q221
    have hw221_5:=hx221_5
    have hw221_4:=hx221_4
    have hw221_3:=hx221_3
    have hw221_2:=hx221_2
    have hw221_1:=hx221_1
    have hw221_0:=hx221_0
    obtain rfl : ad219 = ad221:=(by injection e221)
    replace hx221_0:=(HB.out.cell (wB w _ hx221_0)).trans hx221_0
    replace hx221_1:=(HB.out.cell (wB w _ hx221_1)).trans hx221_1
    replace hx221_2:=(HB.out.cell (wB w _ hx221_2)).trans hx221_2
    replace hx221_3:=(HB.out.cell (wB w _ hx221_3)).trans hx221_3
    replace hx221_4:=(HB.out.cell (wB w _ hx221_4)).trans hx221_4
    replace hx221_5:=(HB.out.cell (wB w _ hx221_5)).trans hx221_5
    replace p221:=eq_true p221
    replace q221:=eq_true q221
    have p222 : 0≤(x3_1 : Int):=of_decide_eq_true (by first|(with_reducible assumption)|assumption)
    have q222 : x3_1 < (l0.length : Int):=of_decide_eq_true (by first|(with_reducible assumption)|assumption)
    obtain ⟨ad222,e222,hx222_0,hx222_1,hx222_2,hx222_3,hx222_4,hx222_5⟩:=at_T24 HR0.out x3_1 p222 q222
    have hw222_5:=hx222_5
    have hw222_4:=hx222_4
    have hw222_3:=hx222_3
    have hw222_2:=hx222_2
    have hw222_1:=hx222_1
    have hw222_0:=hx222_0
    obtain rfl : ad219 = ad222:=(by injection e222)
    replace hx222_0:=(HB.out.cell (wB w _ hx222_0)).trans hx222_0
    replace hx222_1:=(HB.out.cell (wB w _ hx222_1)).trans hx222_1
    replace hx222_2:=(HB.out.cell (wB w _ hx222_2)).trans hx222_2
    replace hx222_3:=(HB.out.cell (wB w _ hx222_3)).trans hx222_3
    replace hx222_4:=(HB.out.cell (wB w _ hx222_4)).trans hx222_4
    replace hx222_5:=(HB.out.cell (wB w _ hx222_5)).trans hx222_5
    replace p222:=eq_true p222
    replace q222:=eq_true q222
    refine start_ (n:=24) (S:=fun w'=>w'.cell? (ad219.add ((x3_1).toNat * 6)) = some (.int .u32 ((rd_T24 l0 x3_1).f0))∧w'.cell? ⟨(ad219.add ((x3_1).toNat * 6)).block,(ad219.add ((x3_1).toNat * 6)).off + 1,none⟩ = some (.string ((rd_T24 l0 x3_1).f1))∧w'.cell? ⟨(ad219.add ((x3_1).toNat * 6)).block,(ad219.add ((x3_1).toNat * 6)).off + 2,none⟩ = some (.int .i64 ((rd_T24 l0 x3_1).f2))∧w'.cell? ⟨(ad219.add ((x3_1).toNat * 6)).block,(ad219.add ((x3_1).toNat * 6)).off + 3,none⟩ = some (.int .i64 ((rd_T24 l0 x3_1).f3))∧w'.cell? ⟨(ad219.add ((x3_1).toNat * 6)).block,(ad219.add ((x3_1).toNat * 6)).off + 4,none⟩ = some (.int .i64 ((rd_T24 l0 x3_1).f4))∧w'.cell? ⟨(ad219.add ((x3_1).toNat * 6)).block,(ad219.add ((x3_1).toNat * 6)).off + 5,none⟩ = some (.int .i64 ((rd_T24 l0 x3_1).f5))∧w'.cell? (ad219.add (((ji8)).toNat * 6)) = some (.int .u32 ((rd_T24 l0 (ji8)).f0))∧w'.cell? ⟨(ad219.add (((ji8)).toNat * 6)).block,(ad219.add (((ji8)).toNat * 6)).off + 1,none⟩ = some (.string ((rd_T24 l0 (ji8)).f1))∧w'.cell? ⟨(ad219.add (((ji8)).toNat * 6)).block,(ad219.add (((ji8)).toNat * 6)).off + 2,none⟩ = some (.int .i64 ((rd_T24 l0 (ji8)).f2))∧w'.cell? ⟨(ad219.add (((ji8)).toNat * 6)).block,(ad219.add (((ji8)).toNat * 6)).off + 3,none⟩ = some (.int .i64 ((rd_T24 l0 (ji8)).f3))∧w'.cell? ⟨(ad219.add (((ji8)).toNat * 6)).block,(ad219.add (((ji8)).toNat * 6)).off + 4,none⟩ = some (.int .i64 ((rd_T24 l0 (ji8)).f4))∧w'.cell? ⟨(ad219.add (((ji8)).toNat * 6)).block,(ad219.add (((ji8)).toNat * 6)).off + 5,none⟩ = some (.int .i64 ((rd_T24 l0 (ji8)).f5))∧w'.cell? (ad219.add ((x3_1).toNat * 6)) = some (.int .u32 ((rd_T24 l0 x3_1).f0))∧w'.cell? ⟨(ad219.add ((x3_1).toNat * 6)).block,(ad219.add ((x3_1).toNat * 6)).off + 1,none⟩ = some (.string ((rd_T24 l0 x3_1).f1))∧w'.cell? ⟨(ad219.add ((x3_1).toNat * 6)).block,(ad219.add ((x3_1).toNat * 6)).off + 2,none⟩ = some (.int .i64 ((rd_T24 l0 x3_1).f2))∧w'.cell? ⟨(ad219.add ((x3_1).toNat * 6)).block,(ad219.add ((x3_1).toNat * 6)).off + 3,none⟩ = some (.int .i64 ((rd_T24 l0 x3_1).f3))∧w'.cell? ⟨(ad219.add ((x3_1).toNat * 6)).block,(ad219.add ((x3_1).toNat * 6)).off + 4,none⟩ = some (.int .i64 ((rd_T24 l0 x3_1).f4))∧w'.cell? ⟨(ad219.add ((x3_1).toNat * 6)).block,(ad219.add ((x3_1).toNat * 6)).off + 5,none⟩ = some (.int .i64 ((rd_T24 l0 x3_1).f5))) (ds:=[]) #[O,O,O,O,O,O,O,O,O,O,O,O,O,O,O,O,O,O,O,O,O,O,O,O] (by kernel_rfl) rfl rfl ⟨((HB.out.cell (wB w _ hw219_0)).trans hw219_0),((HB.out.cell (wB w _ hw219_1)).trans hw219_1),((HB.out.cell (wB w _ hw219_2)).trans hw219_2),((HB.out.cell (wB w _ hw219_3)).trans hw219_3),((HB.out.cell (wB w _ hw219_4)).trans hw219_4),((HB.out.cell (wB w _ hw219_5)).trans hw219_5),((HB.out.cell (wB w _ hw221_0)).trans hw221_0),((HB.out.cell (wB w _ hw221_1)).trans hw221_1),((HB.out.cell (wB w _ hw221_2)).trans hw221_2),((HB.out.cell (wB w _ hw221_3)).trans hw221_3),((HB.out.cell (wB w _ hw221_4)).trans hw221_4),((HB.out.cell (wB w _ hw221_5)).trans hw221_5),((HB.out.cell (wB w _ hw222_0)).trans hw222_0),((HB.out.cell (wB w _ hw222_1)).trans hw222_1),((HB.out.cell (wB w _ hw222_2)).trans hw222_2),((HB.out.cell (wB w _ hw222_3)).trans hw222_3),((HB.out.cell (wB w _ hw222_4)).trans hw222_4),((HB.out.cell (wB w _ hw222_5)).trans hw222_5)⟩ (fun hHeld=>?_);refine with_tabW gangerref20_Check.tab6 gangerref20_Check.bits6 (fun HT_ HW_=>?_)
    generalize wr.drew = w14 at HB hx219_0 hx219_1 hx219_2 hx219_3 hx219_4 hx219_5 hx221_0 hx221_1 hx221_2 hx221_3 hx221_4 hx221_5 hx222_0 hx222_1 hx222_2 hx222_3 hx222_4 hx222_5 hHeld ⊢
    refine pure_ (i:=0) (N:=some 13) (v:=?_) (a':=?_) #[J,O,O,O,O,O,O,O,O,O,O,O,O,O,O,O,O,O,O,O,O,O,O,O] rfl rfl (any_of HT_.out (by kernel_rfl)) (fun _ _ _ h=>h) (Or.inl ⟨by rfl,?_⟩) ?_ ?_
    rotate_left
    ·intro w'
     go_simp
     with_reducible rfl
    rotate_left
    ·simp only [Act.put,sT,sZ,sS,iW,iV]
     rfl
    refine pure_ (i:=1) (N:=some 14) (v:=?_) (a':=?_) #[J,J,O,O,O,O,O,O,O,O,O,O,O,O,O,O,O,O,O,O,O,O,O,O] rfl rfl (any_of HT_.out (by kernel_rfl)) (fun _ _ _ h=>h) (Or.inl ⟨by rfl,?_⟩) ?_ ?_
    rotate_left
    ·intro w'
     go_simp
     with_reducible rfl
    rotate_left
    ·simp only [Act.put,sT,sZ,sS,iW,iV]
     rfl
    refine pure_ (i:=2) (N:=some 15) (v:=?_) (a':=?_) #[J,J,J,O,O,O,O,O,O,O,O,O,O,O,O,O,O,O,O,O,O,O,O,O] rfl rfl (any_of HT_.out (by kernel_rfl)) (fun _ _ _ h=>h) (Or.inl ⟨by rfl,?_⟩) ?_ ?_
    rotate_left
    ·intro w'
     go_simp
     with_reducible rfl
    rotate_left
    ·simp only [Act.put,sT,sZ,sS,iW,iV]
     rfl
    refine take_ (i:=3) (N:=some 16) (v:=?_) (a':=?_) #[J,J,J,J,O,O,O,O,O,O,O,O,O,O,O,O,O,O,O,O,O,O,O,O] rfl rfl (take_ofW HT_.out HW_.out (by kernel_rfl)) (fun _ _ _ h=>h) (Or.inl ⟨by rfl,?_⟩) hHeld ?_ ?_
    rotate_left
    ·rintro w' ⟨s0,s1,s2,s3,s4,s5,s6,s7,s8,s9,s10,s11,s12,s13,s14,s15,s16,s17⟩
     go_simp
     with_reducible rfl
    rotate_left
    ·simp only [Act.put,sT,sZ,sS,iW,iV]
     rfl
    refine one_ (i:=4) (N:=some 17) #[J,J,J,J,J,O,O,O,O,O,O,O,O,O,O,O,O,O,O,O,O,O,O,O] rfl rfl (one_of HT_.out (by kernel_rfl)) (by decide) (fun K hK=>?_)
    refine goes_ Tryd.func30 (by kernel_rfl) rfl #[.agg #[.int .u32 ((rd_T24 l0 x3_1).f0),.string ((rd_T24 l0 x3_1).f1),.int .i64 ((rd_T24 l0 x3_1).f2),.int .i64 ((rd_T24 l0 x3_1).f3),.int .i64 ((rd_T24 l0 x3_1).f4),.int .i64 ((rd_T24 l0 x3_1).f5)]] (by rfl) rfl rfl (by (try simp only [mT,mC,mN]);first|done|rfl|(simp only [lD,lT];rfl)) ?_
    with_reducible refine (gangerref20_Right.calls k1 ((rd_T24 l0 x3_1).f0) ((rd_T24 l0 x3_1).f1) ((rd_T24 l0 x3_1).f2) ((rd_T24 l0 x3_1).f3) ((rd_T24 l0 x3_1).f4) ((rd_T24 l0 x3_1).f5) true _ A5.out).mono ?_
    rintro e w15 ⟨rfl,hb⟩
    refine ⟨_,rfl,?_⟩
    have n0_:=Am (below_step (by repeat (first|(with_reducible first|exact HB.out|apply bL|apply pN|apply bE)|exact HB.out)) hb)
    clear HB
    have HB:=n0_
    clear n0_
    refine hK.out _ _ ⟨((HB.out.cell (wB w _ hw219_0)).trans hw219_0),((HB.out.cell (wB w _ hw219_1)).trans hw219_1),((HB.out.cell (wB w _ hw219_2)).trans hw219_2),((HB.out.cell (wB w _ hw219_3)).trans hw219_3),((HB.out.cell (wB w _ hw219_4)).trans hw219_4),((HB.out.cell (wB w _ hw219_5)).trans hw219_5),((HB.out.cell (wB w _ hw221_0)).trans hw221_0),((HB.out.cell (wB w _ hw221_1)).trans hw221_1),((HB.out.cell (wB w _ hw221_2)).trans hw221_2),((HB.out.cell (wB w _ hw221_3)).trans hw221_3),((HB.out.cell (wB w _ hw221_4)).trans hw221_4),((HB.out.cell (wB w _ hw221_5)).trans hw221_5),((HB.out.cell (wB w _ hw222_0)).trans hw222_0),((HB.out.cell (wB w _ hw222_1)).trans hw222_1),((HB.out.cell (wB w _ hw222_2)).trans hw222_2),((HB.out.cell (wB w _ hw222_3)).trans hw222_3),((HB.out.cell (wB w _ hw222_4)).trans hw222_4),((HB.out.cell (wB w _ hw222_5)).trans hw222_5)⟩ (fun hHeld=>?_)
    clear hK K
    refine norm_ (a':=?_) ?_ ?_
    rotate_left
    ·show Act.put _ (some 17) _ = _
     simp only [Act.put,sT,sZ,sS,iW,iV]
     rfl
    refine pure_ (i:=5) (N:=some 18) (v:=?_) (a':=?_) #[J,J,J,J,J,J,O,O,O,O,O,O,O,O,O,O,O,O,O,O,O,O,O,O] rfl rfl (any_of HT_.out (by kernel_rfl)) (fun _ _ _ h=>h) (Or.inl ⟨by rfl,?_⟩) ?_ ?_
    rotate_left
    ·intro w'
     go_simp
     with_reducible rfl
    rotate_left
    ·simp only [Act.put,sT,sZ,sS,iW,iV]
     rfl
    refine pure_ (i:=6) (N:=some 19) (v:=?_) (a':=?_) #[J,J,J,J,J,J,J,O,O,O,O,O,O,O,O,O,O,O,O,O,O,O,O,O] rfl rfl (any_of HT_.out (by kernel_rfl)) (fun _ _ _ h=>h) (Or.inl ⟨by rfl,?_⟩) ?_ ?_
    rotate_left
    ·intro w'
     go_simp
     with_reducible rfl
    rotate_left
    ·simp only [Act.put,sT,sZ,sS,iW,iV]
     rfl
    refine pure_ (i:=7) (N:=some 20) (v:=?_) (a':=?_) #[J,J,J,J,J,J,J,J,O,O,O,O,O,O,O,O,O,O,O,O,O,O,O,O] rfl rfl (any_of HT_.out (by kernel_rfl)) (fun _ _ _ h=>h) (Or.inl ⟨by rfl,?_⟩) ?_ ?_
    rotate_left
    ·intro w'
     go_simp
     with_reducible rfl
    rotate_left
    ·simp only [Act.put,sT,sZ,sS,iW,iV]
     rfl
    refine pure_ (i:=8) (N:=some 21) (v:=?_) (a':=?_) #[J,J,J,J,J,J,J,J,J,O,O,O,O,O,O,O,O,O,O,O,O,O,O,O] rfl rfl (any_of HT_.out (by kernel_rfl)) (fun _ _ _ h=>h) (Or.inl ⟨by rfl,?_⟩) ?_ ?_
    rotate_left
    ·intro w'
     go_simp
     with_reducible rfl
    rotate_left
    ·simp only [Act.put,sT,sZ,sS,iW,iV]
     rfl
    refine pure_ (i:=9) (N:=some 22) (v:=?_) (a':=?_) #[J,J,J,J,J,J,J,J,J,J,O,O,O,O,O,O,O,O,O,O,O,O,O,O] rfl rfl (any_of HT_.out (by kernel_rfl)) (fun _ _ _ h=>h) (Or.inl ⟨by rfl,?_⟩) ?_ ?_
    rotate_left
    ·intro w'
     go_simp
     with_reducible rfl
    rotate_left
    ·simp only [Act.put,sT,sZ,sS,iW,iV]
     rfl
    refine pure_ (i:=10) (N:=some 23) (v:=?_) (a':=?_) #[J,J,J,J,J,J,J,J,J,J,J,O,O,O,O,O,O,O,O,O,O,O,O,O] rfl rfl (any_of HT_.out (by kernel_rfl)) (fun _ _ _ h=>h) (Or.inl ⟨by rfl,?_⟩) ?_ ?_
    rotate_left
    ·intro w'
     go_simp
     with_reducible rfl
    rotate_left
    ·simp only [Act.put,sT,sZ,sS,iW,iV]
     rfl
    refine pure_ (i:=11) (N:=some 24) (v:=?_) (a':=?_) #[J,J,J,J,J,J,J,J,J,J,J,J,O,O,O,O,O,O,O,O,O,O,O,O] rfl rfl (any_of HT_.out (by kernel_rfl)) (fun _ _ _ h=>h) (Or.inl ⟨by rfl,?_⟩) ?_ ?_
    rotate_left
    ·intro w'
     go_simp
     with_reducible rfl
    rotate_left
    ·simp only [Act.put,sT,sZ,sS,iW,iV]
     rfl
    refine pure_ (i:=12) (N:=some 25) (v:=?_) (a':=?_) #[J,J,J,J,J,J,J,J,J,J,J,J,J,O,O,O,O,O,O,O,O,O,O,O] rfl rfl (any_of HT_.out (by kernel_rfl)) (fun _ _ _ h=>h) (Or.inl ⟨by rfl,?_⟩) ?_ ?_
    rotate_left
    ·intro w'
     go_simp
     with_reducible rfl
    rotate_left
    ·simp only [Act.put,sT,sZ,sS,iW,iV]
     rfl
    refine pure_ (i:=13) (N:=some 26) (v:=?_) (a':=?_) #[J,J,J,J,J,J,J,J,J,J,J,J,J,J,O,O,O,O,O,O,O,O,O,O] rfl rfl (any_of HT_.out (by kernel_rfl)) (fun _ _ _ h=>h) (Or.inl ⟨by rfl,?_⟩) ?_ ?_
    rotate_left
    ·intro w'
     go_simp
     with_reducible rfl
    rotate_left
    ·simp only [Act.put,sT,sZ,sS,iW,iV]
     rfl
    refine pure_ (i:=14) (N:=some 27) (v:=?_) (a':=?_) #[J,J,J,J,J,J,J,J,J,J,J,J,J,J,J,O,O,O,O,O,O,O,O,O] rfl rfl (any_of HT_.out (by kernel_rfl)) (fun _ _ _ h=>h) (Or.inl ⟨by rfl,?_⟩) ?_ ?_
    rotate_left
    ·intro w'
     go_simp
     with_reducible rfl
    rotate_left
    ·simp only [Act.put,sT,sZ,sS,iW,iV]
     rfl
    refine pure_ (i:=16) (N:=some 29) (v:=?_) (a':=?_) #[J,J,J,J,J,J,J,J,J,J,J,J,J,J,J,O,J,O,O,O,O,O,O,O] rfl rfl (any_of HT_.out (by kernel_rfl)) (fun _ _ _ h=>h) (Or.inl ⟨by rfl,?_⟩) ?_ ?_
    rotate_left
    ·intro w'
     go_simp
     with_reducible rfl
    rotate_left
    ·simp only [Act.put,sT,sZ,sS,iW,iV]
     rfl
    refine pure_ (i:=17) (N:=some 30) (v:=?_) (a':=?_) #[J,J,J,J,J,J,J,J,J,J,J,J,J,J,J,O,J,J,O,O,O,O,O,O] rfl rfl (any_of HT_.out (by kernel_rfl)) (fun _ _ _ h=>h) (Or.inl ⟨by rfl,?_⟩) ?_ ?_
    rotate_left
    ·intro w'
     go_simp
     with_reducible rfl
    rotate_left
    ·simp only [Act.put,sT,sZ,sS,iW,iV]
     rfl
    refine pure_ (i:=18) (N:=some 31) (v:=?_) (a':=?_) #[J,J,J,J,J,J,J,J,J,J,J,J,J,J,J,O,J,J,J,O,O,O,O,O] rfl rfl (any_of HT_.out (by kernel_rfl)) (fun _ _ _ h=>h) (Or.inl ⟨by rfl,?_⟩) ?_ ?_
    rotate_left
    ·intro w'
     go_simp
     with_reducible rfl
    rotate_left
    ·simp only [Act.put,sT,sZ,sS,iW,iV]
     rfl
    refine pure_ (i:=19) (N:=some 32) (v:=?_) (a':=?_) #[J,J,J,J,J,J,J,J,J,J,J,J,J,J,J,O,J,J,J,J,O,O,O,O] rfl rfl (any_of HT_.out (by kernel_rfl)) (fun _ _ _ h=>h) (Or.inl ⟨by rfl,?_⟩) ?_ ?_
    rotate_left
    ·intro w'
     go_simp
     with_reducible rfl
    rotate_left
    ·simp only [Act.put,sT,sZ,sS,iW,iV]
     rfl
    refine take_ (i:=15) (N:=some 28) (v:=?_) (a':=?_) #[J,J,J,J,J,J,J,J,J,J,J,J,J,J,J,J,J,J,J,J,O,O,O,O] rfl rfl (take_ofW HT_.out HW_.out (by kernel_rfl)) (fun _ _ _ h=>h) (Or.inl ⟨by rfl,?_⟩) hHeld ?_ ?_
    rotate_left
    ·rintro w' ⟨s0,s1,s2,s3,s4,s5,s6,s7,s8,s9,s10,s11,s12,s13,s14,s15,s16,s17⟩
     go_simp
     with_reducible rfl
    rotate_left
    ·simp only [Act.put,sT,sZ,sS,iW,iV]
     rfl
    refine take_ (i:=20) (N:=some 33) (v:=?_) (a':=?_) #[J,J,J,J,J,J,J,J,J,J,J,J,J,J,J,J,J,J,J,J,J,O,O,O] rfl rfl (take_ofW HT_.out HW_.out (by kernel_rfl)) (fun _ _ _ h=>h) (Or.inl ⟨by rfl,?_⟩) hHeld ?_ ?_
    rotate_left
    ·rintro w' ⟨s0,s1,s2,s3,s4,s5,s6,s7,s8,s9,s10,s11,s12,s13,s14,s15,s16,s17⟩
     go_simp
     with_reducible rfl
    rotate_left
    ·simp only [Act.put,sT,sZ,sS,iW,iV]
     rfl
    refine pure_ (i:=21) (N:=some 34) (v:=?_) (a':=?_) #[J,J,J,J,J,J,J,J,J,J,J,J,J,J,J,J,J,J,J,J,J,J,O,O] rfl rfl (any_of HT_.out (by kernel_rfl)) (fun _ _ _ h=>h) (Or.inl ⟨by rfl,?_⟩) ?_ ?_
    rotate_left
    ·intro w'
     go_simp
     with_reducible rfl
    rotate_left
    ·simp only [Act.put,sT,sZ,sS,iW,iV]
     rfl
    refine pure_ (i:=22) (N:=some 35) (v:=?_) (a':=?_) #[J,J,J,J,J,J,J,J,J,J,J,J,J,J,J,J,J,J,J,J,J,J,J,O] rfl rfl (any_of HT_.out (by kernel_rfl)) (fun _ _ _ h=>h) (Or.inl ⟨by rfl,?_⟩) ?_ ?_
    rotate_left
    ·intro w'
     go_simp
     with_reducible rfl
    rotate_left
    ·simp only [Act.put,sT,sZ,sS,iW,iV]
     rfl
    refine pure_ (i:=23) (N:=some 36) (v:=?_) (a':=?_) #[J,J,J,J,J,J,J,J,J,J,J,J,J,J,J,J,J,J,J,J,J,J,J,J] rfl rfl (any_of HT_.out (by kernel_rfl)) (fun _ _ _ h=>h) (Or.inl ⟨by rfl,?_⟩) ?_ ?_
    rotate_left
    ·intro w'
     go_simp
     with_reducible rfl
    rotate_left
    ·simp only [Act.put,sT,sZ,sS,iW,iV]
     rfl
    refine done_ (done_of HT_.out (by kernel_rfl)) ?_
    try go_wp2
    go_roundg k1
    case measure=>have:=HK1.out;omega
    case rel=>exact ⟨(wrap64 (x3_1 + 1)),(by first|rfl|(simp;done)|(simp [*];done)),H',⟨by have:=HK1.out;omega⟩,⟨by repeat (first|(with_reducible first|exact HB.out|apply bL|apply pN|apply bE)|exact HB.out)⟩⟩
   rw [if_pos c11] at H
   have c11b0 : decide (((rd_T24 l0 x3_1).f5) < ((rd_T24 l0 (ji8)).f5)) = true:=decide_eq_true c11
   clear c11
   obtain rfl:=Option.some.inj H
   try go_wp2
   have n0_:=Am (bE HB.out)
   clear HB
   have HB:=n0_
   clear n0_
   have p219 : 0≤(x3_1 : Int):=of_decide_eq_true (by first|(with_reducible assumption)|assumption)
   have q219 : x3_1 < (l0.length : Int):=of_decide_eq_true (by first|(with_reducible assumption)|assumption)
   obtain ⟨ad219,e219,hx219_0,hx219_1,hx219_2,hx219_3,hx219_4,hx219_5⟩:=at_T24 HR0.out x3_1 p219 q219
   have hw219_5:=hx219_5
   have hw219_4:=hx219_4
   have hw219_3:=hx219_3
   have hw219_2:=hx219_2
   have hw219_1:=hx219_1
   have hw219_0:=hx219_0
   cases e219
   replace hx219_0:=(HB.out.cell (wB w _ hx219_0)).trans hx219_0
   replace hx219_1:=(HB.out.cell (wB w _ hx219_1)).trans hx219_1
   replace hx219_2:=(HB.out.cell (wB w _ hx219_2)).trans hx219_2
   replace hx219_3:=(HB.out.cell (wB w _ hx219_3)).trans hx219_3
   replace hx219_4:=(HB.out.cell (wB w _ hx219_4)).trans hx219_4
   replace hx219_5:=(HB.out.cell (wB w _ hx219_5)).trans hx219_5
   replace p219:=eq_true p219
   replace q219:=eq_true q219
   have p221 : 0≤((ji8) : Int):=of_decide_eq_true (by first|(with_reducible assumption)|assumption)
   have q221 : (ji8) < (l0.length : Int):=of_decide_eq_true (by first|(with_reducible assumption)|assumption)
   obtain ⟨ad221,e221,hx221_0,hx221_1,hx221_2,hx221_3,hx221_4,hx221_5⟩:=at_T24 HR0.out (ji8) p221 q221
   have hw221_5:=hx221_5
   have hw221_4:=hx221_4
   have hw221_3:=hx221_3
   have hw221_2:=hx221_2
   have hw221_1:=hx221_1
   have hw221_0:=hx221_0
   obtain rfl : ad219 = ad221:=(by injection e221)
   replace hx221_0:=(HB.out.cell (wB w _ hx221_0)).trans hx221_0
   replace hx221_1:=(HB.out.cell (wB w _ hx221_1)).trans hx221_1
   replace hx221_2:=(HB.out.cell (wB w _ hx221_2)).trans hx221_2
   replace hx221_3:=(HB.out.cell (wB w _ hx221_3)).trans hx221_3
   replace hx221_4:=(HB.out.cell (wB w _ hx221_4)).trans hx221_4
   replace hx221_5:=(HB.out.cell (wB w _ hx221_5)).trans hx221_5
   replace p221:=eq_true p221
   replace q221:=eq_true q221
   have p222 : 0≤(x3_1 : Int):=of_decide_eq_true (by first|(with_reducible assumption)|assumption)
   have q222 : x3_1 < (l0.length : Int):=of_decide_eq_true (by first|(with_reducible assumption)|assumption)
   obtain ⟨ad222,e222,hx222_0,hx222_1,hx222_2,hx222_3,hx222_4,hx222_5⟩:=at_T24 HR0.out x3_1 p222 q222
   have hw222_5:=hx222_5
   have hw222_4:=hx222_4
   have hw222_3:=hx222_3
   have hw222_2:=hx222_2
   have hw222_1:=hx222_1
   have hw222_0:=hx222_0
   obtain rfl : ad219 = ad222:=(by injection e222)
   replace hx222_0:=(HB.out.cell (wB w _ hx222_0)).trans hx222_0
   replace hx222_1:=(HB.out.cell (wB w _ hx222_1)).trans hx222_1
   replace hx222_2:=(HB.out.cell (wB w _ hx222_2)).trans hx222_2
   replace hx222_3:=(HB.out.cell (wB w _ hx222_3)).trans hx222_3
   replace hx222_4:=(HB.out.cell (wB w _ hx222_4)).trans hx222_4
   replace hx222_5:=(HB.out.cell (wB w _ hx222_5)).trans hx222_5
   replace p222:=eq_true p222
   replace q222:=eq_true q222
   refine start_ (n:=24) (S:=fun w'=>w'.cell? (ad219.add ((x3_1).toNat * 6)) = some (.int .u32 ((rd_T24 l0 x3_1).f0))∧w'.cell? ⟨(ad219.add ((x3_1).toNat * 6)).block,(ad219.add ((x3_1).toNat * 6)).off + 1,none⟩ = some (.string ((rd_T24 l0 x3_1).f1))∧w'.cell? ⟨(ad219.add ((x3_1).toNat * 6)).block,(ad219.add ((x3_1).toNat * 6)).off + 2,none⟩ = some (.int .i64 ((rd_T24 l0 x3_1).f2))∧w'.cell? ⟨(ad219.add ((x3_1).toNat * 6)).block,(ad219.add ((x3_1).toNat * 6)).off + 3,none⟩ = some (.int .i64 ((rd_T24 l0 x3_1).f3))∧w'.cell? ⟨(ad219.add ((x3_1).toNat * 6)).block,(ad219.add ((x3_1).toNat * 6)).off + 4,none⟩ = some (.int .i64 ((rd_T24 l0 x3_1).f4))∧w'.cell? ⟨(ad219.add ((x3_1).toNat * 6)).block,(ad219.add ((x3_1).toNat * 6)).off + 5,none⟩ = some (.int .i64 ((rd_T24 l0 x3_1).f5))∧w'.cell? (ad219.add (((ji8)).toNat * 6)) = some (.int .u32 ((rd_T24 l0 (ji8)).f0))∧w'.cell? ⟨(ad219.add (((ji8)).toNat * 6)).block,(ad219.add (((ji8)).toNat * 6)).off + 1,none⟩ = some (.string ((rd_T24 l0 (ji8)).f1))∧w'.cell? ⟨(ad219.add (((ji8)).toNat * 6)).block,(ad219.add (((ji8)).toNat * 6)).off + 2,none⟩ = some (.int .i64 ((rd_T24 l0 (ji8)).f2))∧w'.cell? ⟨(ad219.add (((ji8)).toNat * 6)).block,(ad219.add (((ji8)).toNat * 6)).off + 3,none⟩ = some (.int .i64 ((rd_T24 l0 (ji8)).f3))∧w'.cell? ⟨(ad219.add (((ji8)).toNat * 6)).block,(ad219.add (((ji8)).toNat * 6)).off + 4,none⟩ = some (.int .i64 ((rd_T24 l0 (ji8)).f4))∧w'.cell? ⟨(ad219.add (((ji8)).toNat * 6)).block,(ad219.add (((ji8)).toNat * 6)).off + 5,none⟩ = some (.int .i64 ((rd_T24 l0 (ji8)).f5))∧w'.cell? (ad219.add ((x3_1).toNat * 6)) = some (.int .u32 ((rd_T24 l0 x3_1).f0))∧w'.cell? ⟨(ad219.add ((x3_1).toNat * 6)).block,(ad219.add ((x3_1).toNat * 6)).off + 1,none⟩ = some (.string ((rd_T24 l0 x3_1).f1))∧w'.cell? ⟨(ad219.add ((x3_1).toNat * 6)).block,(ad219.add ((x3_1).toNat * 6)).off + 2,none⟩ = some (.int .i64 ((rd_T24 l0 x3_1).f2))∧w'.cell? ⟨(ad219.add ((x3_1).toNat * 6)).block,(ad219.add ((x3_1).toNat * 6)).off + 3,none⟩ = some (.int .i64 ((rd_T24 l0 x3_1).f3))∧w'.cell? ⟨(ad219.add ((x3_1).toNat * 6)).block,(ad219.add ((x3_1).toNat * 6)).off + 4,none⟩ = some (.int .i64 ((rd_T24 l0 x3_1).f4))∧w'.cell? ⟨(ad219.add ((x3_1).toNat * 6)).block,(ad219.add ((x3_1).toNat * 6)).off + 5,none⟩ = some (.int .i64 ((rd_T24 l0 x3_1).f5))) (ds:=[]) #[O,O,O,O,O,O,O,O,O,O,O,O,O,O,O,O,O,O,O,O,O,O,O,O] (by kernel_rfl) rfl rfl ⟨((HB.out.cell (wB w _ hw219_0)).trans hw219_0),((HB.out.cell (wB w _ hw219_1)).trans hw219_1),((HB.out.cell (wB w _ hw219_2)).trans hw219_2),((HB.out.cell (wB w _ hw219_3)).trans hw219_3),((HB.out.cell (wB w _ hw219_4)).trans hw219_4),((HB.out.cell (wB w _ hw219_5)).trans hw219_5),((HB.out.cell (wB w _ hw221_0)).trans hw221_0),((HB.out.cell (wB w _ hw221_1)).trans hw221_1),((HB.out.cell (wB w _ hw221_2)).trans hw221_2),((HB.out.cell (wB w _ hw221_3)).trans hw221_3),((HB.out.cell (wB w _ hw221_4)).trans hw221_4),((HB.out.cell (wB w _ hw221_5)).trans hw221_5),((HB.out.cell (wB w _ hw222_0)).trans hw222_0),((HB.out.cell (wB w _ hw222_1)).trans hw222_1),((HB.out.cell (wB w _ hw222_2)).trans hw222_2),((HB.out.cell (wB w _ hw222_3)).trans hw222_3),((HB.out.cell (wB w _ hw222_4)).trans hw222_4),((HB.out.cell (wB w _ hw222_5)).trans hw222_5)⟩ (fun hHeld=>?_);refine with_tabW gangerref20_Check.tab6 gangerref20_Check.bits6 (fun HT_ HW_=>?_)
   generalize wr.drew = w12 at HB hx219_0 hx219_1 hx219_2 hx219_3 hx219_4 hx219_5 hx221_0 hx221_1 hx221_2 hx221_3 hx221_4 hx221_5 hx222_0 hx222_1 hx222_2 hx222_3 hx222_4 hx222_5 hHeld ⊢
   refine pure_ (i:=0) (N:=some 13) (v:=?_) (a':=?_) #[J,O,O,O,O,O,O,O,O,O,O,O,O,O,O,O,O,O,O,O,O,O,O,O] rfl rfl (any_of HT_.out (by kernel_rfl)) (fun _ _ _ h=>h) (Or.inl ⟨by rfl,?_⟩) ?_ ?_
   rotate_left
   ·intro w'
    go_simp
    with_reducible rfl
   rotate_left
   ·simp only [Act.put,sT,sZ,sS,iW,iV]
    rfl
   refine pure_ (i:=1) (N:=some 14) (v:=?_) (a':=?_) #[J,J,O,O,O,O,O,O,O,O,O,O,O,O,O,O,O,O,O,O,O,O,O,O] rfl rfl (any_of HT_.out (by kernel_rfl)) (fun _ _ _ h=>h) (Or.inl ⟨by rfl,?_⟩) ?_ ?_
   rotate_left
   ·intro w'
    go_simp
    with_reducible rfl
   rotate_left
   ·simp only [Act.put,sT,sZ,sS,iW,iV]
    rfl
   refine pure_ (i:=2) (N:=some 15) (v:=?_) (a':=?_) #[J,J,J,O,O,O,O,O,O,O,O,O,O,O,O,O,O,O,O,O,O,O,O,O] rfl rfl (any_of HT_.out (by kernel_rfl)) (fun _ _ _ h=>h) (Or.inl ⟨by rfl,?_⟩) ?_ ?_
   rotate_left
   ·intro w'
    go_simp
    with_reducible rfl
   rotate_left
   ·simp only [Act.put,sT,sZ,sS,iW,iV]
    rfl
   refine take_ (i:=3) (N:=some 16) (v:=?_) (a':=?_) #[J,J,J,J,O,O,O,O,O,O,O,O,O,O,O,O,O,O,O,O,O,O,O,O] rfl rfl (take_ofW HT_.out HW_.out (by kernel_rfl)) (fun _ _ _ h=>h) (Or.inl ⟨by rfl,?_⟩) hHeld ?_ ?_
   rotate_left
   ·rintro w' ⟨s0,s1,s2,s3,s4,s5,s6,s7,s8,s9,s10,s11,s12,s13,s14,s15,s16,s17⟩
    go_simp
    with_reducible rfl
   rotate_left
   ·simp only [Act.put,sT,sZ,sS,iW,iV]
    rfl
   refine one_ (i:=4) (N:=some 17) #[J,J,J,J,J,O,O,O,O,O,O,O,O,O,O,O,O,O,O,O,O,O,O,O] rfl rfl (one_of HT_.out (by kernel_rfl)) (by decide) (fun K hK=>?_)
   refine goes_ Tryd.func30 (by kernel_rfl) rfl #[.agg #[.int .u32 ((rd_T24 l0 x3_1).f0),.string ((rd_T24 l0 x3_1).f1),.int .i64 ((rd_T24 l0 x3_1).f2),.int .i64 ((rd_T24 l0 x3_1).f3),.int .i64 ((rd_T24 l0 x3_1).f4),.int .i64 ((rd_T24 l0 x3_1).f5)]] (by rfl) rfl rfl (by (try simp only [mT,mC,mN]);first|done|rfl|(simp only [lD,lT];rfl)) ?_
   with_reducible refine (gangerref20_Right.calls k1 ((rd_T24 l0 x3_1).f0) ((rd_T24 l0 x3_1).f1) ((rd_T24 l0 x3_1).f2) ((rd_T24 l0 x3_1).f3) ((rd_T24 l0 x3_1).f4) ((rd_T24 l0 x3_1).f5) true _ A5.out).mono ?_
   rintro e w13 ⟨rfl,hb⟩
   refine ⟨_,rfl,?_⟩
   have n0_:=Am (below_step (by repeat (first|(with_reducible first|exact HB.out|apply bL|apply pN|apply bE)|exact HB.out)) hb)
   clear HB
   have HB:=n0_
   clear n0_
   refine hK.out _ _ ⟨((HB.out.cell (wB w _ hw219_0)).trans hw219_0),((HB.out.cell (wB w _ hw219_1)).trans hw219_1),((HB.out.cell (wB w _ hw219_2)).trans hw219_2),((HB.out.cell (wB w _ hw219_3)).trans hw219_3),((HB.out.cell (wB w _ hw219_4)).trans hw219_4),((HB.out.cell (wB w _ hw219_5)).trans hw219_5),((HB.out.cell (wB w _ hw221_0)).trans hw221_0),((HB.out.cell (wB w _ hw221_1)).trans hw221_1),((HB.out.cell (wB w _ hw221_2)).trans hw221_2),((HB.out.cell (wB w _ hw221_3)).trans hw221_3),((HB.out.cell (wB w _ hw221_4)).trans hw221_4),((HB.out.cell (wB w _ hw221_5)).trans hw221_5),((HB.out.cell (wB w _ hw222_0)).trans hw222_0),((HB.out.cell (wB w _ hw222_1)).trans hw222_1),((HB.out.cell (wB w _ hw222_2)).trans hw222_2),((HB.out.cell (wB w _ hw222_3)).trans hw222_3),((HB.out.cell (wB w _ hw222_4)).trans hw222_4),((HB.out.cell (wB w _ hw222_5)).trans hw222_5)⟩ (fun hHeld=>?_)
   clear hK K
   refine norm_ (a':=?_) ?_ ?_
   rotate_left
   ·show Act.put _ (some 17) _ = _
    simp only [Act.put,sT,sZ,sS,iW,iV]
    rfl
   refine pure_ (i:=5) (N:=some 18) (v:=?_) (a':=?_) #[J,J,J,J,J,J,O,O,O,O,O,O,O,O,O,O,O,O,O,O,O,O,O,O] rfl rfl (any_of HT_.out (by kernel_rfl)) (fun _ _ _ h=>h) (Or.inl ⟨by rfl,?_⟩) ?_ ?_
   rotate_left
   ·intro w'
    go_simp
    with_reducible rfl
   rotate_left
   ·simp only [Act.put,sT,sZ,sS,iW,iV]
    rfl
   refine pure_ (i:=6) (N:=some 19) (v:=?_) (a':=?_) #[J,J,J,J,J,J,J,O,O,O,O,O,O,O,O,O,O,O,O,O,O,O,O,O] rfl rfl (any_of HT_.out (by kernel_rfl)) (fun _ _ _ h=>h) (Or.inl ⟨by rfl,?_⟩) ?_ ?_
   rotate_left
   ·intro w'
    go_simp
    with_reducible rfl
   rotate_left
   ·simp only [Act.put,sT,sZ,sS,iW,iV]
    rfl
   refine pure_ (i:=7) (N:=some 20) (v:=?_) (a':=?_) #[J,J,J,J,J,J,J,J,O,O,O,O,O,O,O,O,O,O,O,O,O,O,O,O] rfl rfl (any_of HT_.out (by kernel_rfl)) (fun _ _ _ h=>h) (Or.inl ⟨by rfl,?_⟩) ?_ ?_
   rotate_left
   ·intro w'
    go_simp
    with_reducible rfl
   rotate_left
   ·simp only [Act.put,sT,sZ,sS,iW,iV]
    rfl
   refine pure_ (i:=8) (N:=some 21) (v:=?_) (a':=?_) #[J,J,J,J,J,J,J,J,J,O,O,O,O,O,O,O,O,O,O,O,O,O,O,O] rfl rfl (any_of HT_.out (by kernel_rfl)) (fun _ _ _ h=>h) (Or.inl ⟨by rfl,?_⟩) ?_ ?_
   rotate_left
   ·intro w'
    go_simp
    with_reducible rfl
   rotate_left
   ·simp only [Act.put,sT,sZ,sS,iW,iV]
    rfl
   refine pure_ (i:=9) (N:=some 22) (v:=?_) (a':=?_) #[J,J,J,J,J,J,J,J,J,J,O,O,O,O,O,O,O,O,O,O,O,O,O,O] rfl rfl (any_of HT_.out (by kernel_rfl)) (fun _ _ _ h=>h) (Or.inl ⟨by rfl,?_⟩) ?_ ?_
   rotate_left
   ·intro w'
    go_simp
    with_reducible rfl
   rotate_left
   ·simp only [Act.put,sT,sZ,sS,iW,iV]
    rfl
   refine pure_ (i:=10) (N:=some 23) (v:=?_) (a':=?_) #[J,J,J,J,J,J,J,J,J,J,J,O,O,O,O,O,O,O,O,O,O,O,O,O] rfl rfl (any_of HT_.out (by kernel_rfl)) (fun _ _ _ h=>h) (Or.inl ⟨by rfl,?_⟩) ?_ ?_
   rotate_left
   ·intro w'
    go_simp
    with_reducible rfl
   rotate_left
   ·simp only [Act.put,sT,sZ,sS,iW,iV]
    rfl
   refine pure_ (i:=11) (N:=some 24) (v:=?_) (a':=?_) #[J,J,J,J,J,J,J,J,J,J,J,J,O,O,O,O,O,O,O,O,O,O,O,O] rfl rfl (any_of HT_.out (by kernel_rfl)) (fun _ _ _ h=>h) (Or.inl ⟨by rfl,?_⟩) ?_ ?_
   rotate_left
   ·intro w'
    go_simp
    with_reducible rfl
   rotate_left
   ·simp only [Act.put,sT,sZ,sS,iW,iV]
    rfl
   refine pure_ (i:=12) (N:=some 25) (v:=?_) (a':=?_) #[J,J,J,J,J,J,J,J,J,J,J,J,J,O,O,O,O,O,O,O,O,O,O,O] rfl rfl (any_of HT_.out (by kernel_rfl)) (fun _ _ _ h=>h) (Or.inl ⟨by rfl,?_⟩) ?_ ?_
   rotate_left
   ·intro w'
    go_simp
    with_reducible rfl
   rotate_left
   ·simp only [Act.put,sT,sZ,sS,iW,iV]
    rfl
   refine pure_ (i:=13) (N:=some 26) (v:=?_) (a':=?_) #[J,J,J,J,J,J,J,J,J,J,J,J,J,J,O,O,O,O,O,O,O,O,O,O] rfl rfl (any_of HT_.out (by kernel_rfl)) (fun _ _ _ h=>h) (Or.inl ⟨by rfl,?_⟩) ?_ ?_
   rotate_left
   ·intro w'
    go_simp
    with_reducible rfl
   rotate_left
   ·simp only [Act.put,sT,sZ,sS,iW,iV]
    rfl
   refine pure_ (i:=14) (N:=some 27) (v:=?_) (a':=?_) #[J,J,J,J,J,J,J,J,J,J,J,J,J,J,J,O,O,O,O,O,O,O,O,O] rfl rfl (any_of HT_.out (by kernel_rfl)) (fun _ _ _ h=>h) (Or.inl ⟨by rfl,?_⟩) ?_ ?_
   rotate_left
   ·intro w'
    go_simp
    with_reducible rfl
   rotate_left
   ·simp only [Act.put,sT,sZ,sS,iW,iV]
    rfl
   refine pure_ (i:=16) (N:=some 29) (v:=?_) (a':=?_) #[J,J,J,J,J,J,J,J,J,J,J,J,J,J,J,O,J,O,O,O,O,O,O,O] rfl rfl (any_of HT_.out (by kernel_rfl)) (fun _ _ _ h=>h) (Or.inl ⟨by rfl,?_⟩) ?_ ?_
   rotate_left
   ·intro w'
    go_simp
    with_reducible rfl
   rotate_left
   ·simp only [Act.put,sT,sZ,sS,iW,iV]
    rfl
   refine pure_ (i:=17) (N:=some 30) (v:=?_) (a':=?_) #[J,J,J,J,J,J,J,J,J,J,J,J,J,J,J,O,J,J,O,O,O,O,O,O] rfl rfl (any_of HT_.out (by kernel_rfl)) (fun _ _ _ h=>h) (Or.inl ⟨by rfl,?_⟩) ?_ ?_
   rotate_left
   ·intro w'
    go_simp
    with_reducible rfl
   rotate_left
   ·simp only [Act.put,sT,sZ,sS,iW,iV]
    rfl
   refine pure_ (i:=18) (N:=some 31) (v:=?_) (a':=?_) #[J,J,J,J,J,J,J,J,J,J,J,J,J,J,J,O,J,J,J,O,O,O,O,O] rfl rfl (any_of HT_.out (by kernel_rfl)) (fun _ _ _ h=>h) (Or.inl ⟨by rfl,?_⟩) ?_ ?_
   rotate_left
   ·intro w'
    go_simp
    with_reducible rfl
   rotate_left
   ·simp only [Act.put,sT,sZ,sS,iW,iV]
    rfl
   refine pure_ (i:=19) (N:=some 32) (v:=?_) (a':=?_) #[J,J,J,J,J,J,J,J,J,J,J,J,J,J,J,O,J,J,J,J,O,O,O,O] rfl rfl (any_of HT_.out (by kernel_rfl)) (fun _ _ _ h=>h) (Or.inl ⟨by rfl,?_⟩) ?_ ?_
   rotate_left
   ·intro w'
    go_simp
    with_reducible rfl
   rotate_left
   ·simp only [Act.put,sT,sZ,sS,iW,iV]
    rfl
   refine take_ (i:=15) (N:=some 28) (v:=?_) (a':=?_) #[J,J,J,J,J,J,J,J,J,J,J,J,J,J,J,J,J,J,J,J,O,O,O,O] rfl rfl (take_ofW HT_.out HW_.out (by kernel_rfl)) (fun _ _ _ h=>h) (Or.inl ⟨by rfl,?_⟩) hHeld ?_ ?_
   rotate_left
   ·rintro w' ⟨s0,s1,s2,s3,s4,s5,s6,s7,s8,s9,s10,s11,s12,s13,s14,s15,s16,s17⟩
    go_simp
    with_reducible rfl
   rotate_left
   ·simp only [Act.put,sT,sZ,sS,iW,iV]
    rfl
   refine take_ (i:=20) (N:=some 33) (v:=?_) (a':=?_) #[J,J,J,J,J,J,J,J,J,J,J,J,J,J,J,J,J,J,J,J,J,O,O,O] rfl rfl (take_ofW HT_.out HW_.out (by kernel_rfl)) (fun _ _ _ h=>h) (Or.inl ⟨by rfl,?_⟩) hHeld ?_ ?_
   rotate_left
   ·rintro w' ⟨s0,s1,s2,s3,s4,s5,s6,s7,s8,s9,s10,s11,s12,s13,s14,s15,s16,s17⟩
    go_simp
    with_reducible rfl
   rotate_left
   ·simp only [Act.put,sT,sZ,sS,iW,iV]
    rfl
   refine pure_ (i:=21) (N:=some 34) (v:=?_) (a':=?_) #[J,J,J,J,J,J,J,J,J,J,J,J,J,J,J,J,J,J,J,J,J,J,O,O] rfl rfl (any_of HT_.out (by kernel_rfl)) (fun _ _ _ h=>h) (Or.inl ⟨by rfl,?_⟩) ?_ ?_
   rotate_left
   ·intro w'
    go_simp
    with_reducible rfl
   rotate_left
   ·simp only [Act.put,sT,sZ,sS,iW,iV]
    rfl
   refine pure_ (i:=22) (N:=some 35) (v:=?_) (a':=?_) #[J,J,J,J,J,J,J,J,J,J,J,J,J,J,J,J,J,J,J,J,J,J,J,O] rfl rfl (any_of HT_.out (by kernel_rfl)) (fun _ _ _ h=>h) (Or.inl ⟨by rfl,?_⟩) ?_ ?_
   rotate_left
   ·intro w'
    go_simp
    with_reducible rfl
   rotate_left
   ·simp only [Act.put,sT,sZ,sS,iW,iV]
    rfl
   refine pure_ (i:=23) (N:=some 36) (v:=?_) (a':=?_) #[J,J,J,J,J,J,J,J,J,J,J,J,J,J,J,J,J,J,J,J,J,J,J,J] rfl rfl (any_of HT_.out (by kernel_rfl)) (fun _ _ _ h=>h) (Or.inl ⟨by rfl,?_⟩) ?_ ?_
   rotate_left
   ·intro w'
    go_simp
    with_reducible rfl
   rotate_left
   ·simp only [Act.put,sT,sZ,sS,iW,iV]
    rfl
   refine done_ (done_of HT_.out (by kernel_rfl)) ?_
   try go_wp2
   go_ret
   exact ⟨by first|rfl|(simp [errW_none,errW_some] <;> rfl)|(simp only [← hji8];first|rfl|(simp [errW_none,errW_some] <;> rfl))|(simp [*,errW_none,errW_some] <;> rfl),by repeat (first|(with_reducible first|exact HB.out|apply bL|apply pN|apply bE)|exact HB.out)⟩
end Go.Proofs.YtakdneopmojjdaaDoor.P
