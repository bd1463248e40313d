/- cut to what one law reaches -/
import Derived.Test.YtakdneopmojjdaaDoorBkShort
import Derived.Test.YtakdneopmojjdaaDoorBkP0
import Derived.Test.YtakdneopmojjdaaDoorBkP14
namespace Go.Proofs.YtakdneopmojjdaaDoor.P
open Go.RowKit Go.Proofs.YtakdneopmojjdaaDoorW.PrintWords Go.Proofs.YtakdneopmojjdaaDoorW.PrintLast Go.Proofs.YtakdneopmojjdaaDoorW.PrintMore
attribute [local go_sem] max2_int min2_int max_two min_two max_three min_three max_four min_four   -- for this text's walks alone
set_option linter.unusedVariables false
set_option linter.unusedSimpArgs false
attribute [local go_sem] isSome_setCell
mutual
def gangerref20_Of.l0 : Nat→List (S24)→Int→Int→Int→Int→Int→Option (Int × Int)
 | 0,_,_,_,_,_,_=>none
 | k + 1,x0,x1,x6,x7,x8,x9=>if x9 < (x0.length : Int) then (gangerref20_Of.j1 k x0 x1 x6 x7 x8 x9 (x6 == 0)) else (gangerref20_Of.j1 k x0 x1 x6 x7 x8 x9 false)
def gangerref20_Of.j1 : Nat→List (S24)→Int→Int→Int→Int→Int→Bool→Option (Int × Int)
 | 0,_,_,_,_,_,_,_=>none
 | k + 1,x0,x1,x6,x7,x8,x9,x19=>if x19 = true then (if 0≤x9 then (if x9 < (x0.length : Int) then (if ((rd_T24 x0 x9).f0) = x1 then (gangerref20_Of.l0 k x0 x1 x6 (wrap64 (x7 + ((rd_T24 x0 x9).f3))) (wrap64 (x8 + 1)) (wrap64 (x9 + 1))) else (gangerref20_Of.l0 k x0 x1 x6 x7 x8 (wrap64 (x9 + 1)))) else (none)) else (none)) else (some (x7,x8))
end
def gangerref20_Of.f (k : Nat) (l0 : List (S24)) (a1 : Int) : Option (Int × Int):=(gangerref20_Check.f k l0).bind fun t223=>(gangerref20_Of.l0 k l0 a1 t223 0 0 0)
set_option maxHeartbeats 8000000 in
set_option maxRecDepth 100000 in
theorem gangerref20_Of.calls (k : Nat) (A0 : Option Addr) (c0 : Nat) (l0 : List (S24)) (a1 : Int) (r1 : Int) (r2 : Int) (w : World) (hr0 : Kd.C k24 w A0 l0.length l0) (hc0 : l0.length≤c0) (h : gangerref20_Of.f k l0 a1 = some (r1,r2)) :
  Calls Tryd.prog 16 #[.slice A0 l0.length c0,.int .u32 a1] w fun e w'=>e = .returned (.tuple #[.int .i64 r1,.int .i64 r2])∧Below w.heap.size w w':=by
 have HR0:=Am hr0
 have HC0:=Am hc0
 clear hr0 hc0
 have HB:=Am (Below.refl w.heap.size w)
 have H : ((gangerref20_Check.f k l0).bind fun t223=>(gangerref20_Of.l0 k l0 a1 t223 0 0 0)) = some (r1,r2):=h
 clear h
 replace H:=oB H
 obtain ⟨t223,A30,H⟩:=H
 try dsimp only at H
 have A3:=Am A30
 clear A30
 have H':=Am H
 clear H
 go_enter Tryd.func16,Tryd.ntmps16
 go_wp2_with (first|((with_reducible refine gC (f:=17) rfl ?_);refine goesL_ (some 11) rfl rfl Tryd.func17 (by kernel_rfl) rfl #[.slice A0 l0.length c0] rfl (by (try simp only [mT,mC,mN]);first|done|rfl|(simp only [lD,lT];rfl)) ?_;(with_reducible refine (gangerref20_Check.calls k _ _ l0 t223 _ ?side1 ?side2 A3.out).mono ?_);(case side1=>repeat (first|exact HR0.out|(with_reducible refine Kd.C_alloc ?_ _)|(with_reducible refine Kd.C_drewN ?_ _)|(with_reducible refine Kd.C_drew ?_)));(case side2=>exact HC0.out);rintro e w4 ⟨rfl,hb⟩;refine ⟨_,rfl,?_⟩;have n0_:=Am (below_step (by repeat (first|(with_reducible first|exact HB.out|apply bL|apply pN|apply bE)|exact HB.out)) hb);clear HB;have HB:=n0_;clear n0_))
 go_loopg [7,8,9] k (fun kq v7 v8 v9 w'=>∃ (x7_1 : Int) (x8_1 : Int) (x9_1 : Int),v7 = .int .i64 x7_1∧v8 = .int .i64 x8_1∧v9 = .int .i64 x9_1∧Aside0 (gangerref20_Of.l0 kq l0 a1 t223 x7_1 x8_1 x9_1 = some (r1,r2))∧Aside0 (kq≤k)∧Aside0 (Below w.heap.size w w'))
 case atStart=>exact ⟨(0),(0),(0),(by first|rfl|(simp;done)|(simp [*];done)),(by first|rfl|(simp;done)|(simp [*];done)),(by first|rfl|(simp;done)|(simp [*];done)),H',⟨Nat.le_refl _⟩,⟨by repeat (first|(with_reducible first|exact HB.out|apply bL|apply pN|apply bE)|exact HB.out)⟩⟩
 case round =>
  clear H'
  obtain ⟨x7_1,x8_1,x9_1,rfl,rfl,rfl,HA,HK1,HB⟩:=hrel
  cases gk with
  | zero=>exact absurd HA.out (by simp [gangerref20_Of.l0])
  | succ k1 =>
   have H:=HA.out
   clear HA
   simp only [gangerref20_Of.l0] at H
   have HC5:=Am H
   clear H
   go_upto_region 5 with (fail)
   go_cut [19] (fun v19 wc=>∃ (kq : Nat) (x19_4 : Bool),v19 = .bool x19_4∧Aside0 (gangerref20_Of.j1 kq l0 a1 t223 x7_1 x8_1 x9_1 x19_4 = some (r1,r2))∧Aside0 (kq≤k1)∧Aside0 (Below w.heap.size w wc))
   case first =>
    have H:=HC5.out
    clear HC5
    by_cases c6 : x9_1 < (l0.length : Int)
    rotate_left
    ·rw [if_neg c6] at H
     have c6b0 : decide (x9_1 < (l0.length : Int)) = false:=decide_eq_false c6
     clear c6
     (first|rw [c6b0]|(simp only [iW,iV];rw [c6b0])|skip)
     have H':=Am H
     clear H
     go_wp2
     go_meet
     case rel=>exact ⟨_,(false),(by first|rfl|(simp;done)|(simp [*];done)),H',⟨by have:=HK1.out;first|omega|exact Nat.le_refl _⟩,⟨by repeat (first|(with_reducible first|exact HB.out|apply bL|apply pN|apply bE)|exact HB.out)⟩⟩
    rw [if_pos c6] at H
    have c6b0 : decide (x9_1 < (l0.length : Int)) = true:=decide_eq_true c6
    clear c6
    (first|rw [c6b0]|(simp only [iW,iV];rw [c6b0])|skip)
    have H':=Am H
    clear H
    go_wp2
    go_meet
    case rel=>exact ⟨_,((t223 == 0)),(by first|rfl|(simp;done)|(simp [*];done)),H',⟨by have:=HK1.out;first|omega|exact Nat.le_refl _⟩,⟨by repeat (first|(with_reducible first|exact HB.out|apply bL|apply pN|apply bE)|exact HB.out)⟩⟩
   case rest =>
    clear HC5
    obtain ⟨kq,x19_4,rfl,HA,HJ4,HB⟩:=hcut
    cases kq with
    | zero=>exact absurd HA.out (by simp [gangerref20_Of.j1])
    | succ kj4 =>
     have H:=HA.out
     clear HA
     simp only [gangerref20_Of.j1] at H
     by_cases c7 : x19_4 = true
     rotate_left
     ·replace c7:=Bool.eq_false_iff.mpr c7
      subst c7
      have H1 : (some (x7_1,x8_1)) = some (r1,r2):=by rw [if_neg (show ¬ (false = true) by decide)] at H;exact H
      clear H
      have H:=H1
      clear H1
      simp only [Option.some.injEq,Prod.mk.injEq] at H
      obtain ⟨rfl,rfl⟩:=H
      go_wp2
      go_ret2
      exact ⟨by first|rfl|(simp [errW_none,errW_some] <;> rfl)|(simp [*,errW_none,errW_some] <;> rfl)|(simp [bne,isE_]),by repeat (first|(with_reducible first|exact HB.out|apply bL|apply pN|apply bE)|exact HB.out)⟩
     subst c7
     have H1 : (if 0≤x9_1 then (if x9_1 < (l0.length : Int) then (if ((rd_T24 l0 x9_1).f0) = a1 then (gangerref20_Of.l0 kj4 l0 a1 t223 (wrap64 (x7_1 + ((rd_T24 l0 x9_1).f3))) (wrap64 (x8_1 + 1)) (wrap64 (x9_1 + 1))) else (gangerref20_Of.l0 kj4 l0 a1 t223 x7_1 x8_1 (wrap64 (x9_1 + 1)))) else (none)) else (none)) = some (r1,r2):=by rw [if_pos rfl] at H;exact H
     clear H
     have H:=H1
     clear H1
     by_cases c8 : 0≤x9_1
     rotate_left
     ·rw [if_neg c8] at H
      exact absurd H (by simp)
     rw [if_pos c8] at H
     have c8b0 : decide (0≤x9_1) = true:=decide_eq_true c8
     clear c8
     by_cases c9 : x9_1 < (l0.length : Int)
     rotate_left
     ·rw [if_neg c9] at H
      exact absurd H (by simp)
     rw [if_pos c9] at H
     have c9b0 : decide (x9_1 < (l0.length : Int)) = true:=decide_eq_true c9
     clear c9
     by_cases c10 : ((rd_T24 l0 x9_1).f0) = a1
     rotate_left
     ·rw [if_neg c10] at H
      have c10b0 : (((rd_T24 l0 x9_1).f0) == a1) = false:=beq_eq_false_iff_ne.mpr c10
      have c10b1 : (((rd_T24 l0 x9_1).f0) != a1) = true:=bne_iff_ne.mpr c10
      have H':=Am H
      clear H
      have p224 : 0≤(x9_1 : Int):=of_decide_eq_true (by first|(with_reducible assumption)|assumption)
      have q224 : x9_1 < (l0.length : Int):=of_decide_eq_true (by first|(with_reducible assumption)|assumption)
      obtain ⟨ad224,e224,hx224_0,hx224_1,hx224_2,hx224_3,hx224_4,hx224_5⟩:=at_T24 HR0.out x9_1 p224 q224
      cases e224
      replace hx224_0:=(HB.out.cell (wB w _ hx224_0)).trans hx224_0
      replace hx224_1:=(HB.out.cell (wB w _ hx224_1)).trans hx224_1
      replace hx224_2:=(HB.out.cell (wB w _ hx224_2)).trans hx224_2
      replace hx224_3:=(HB.out.cell (wB w _ hx224_3)).trans hx224_3
      replace hx224_4:=(HB.out.cell (wB w _ hx224_4)).trans hx224_4
      replace hx224_5:=(HB.out.cell (wB w _ hx224_5)).trans hx224_5
      replace p224:=eq_true p224
      replace q224:=eq_true q224
      go_wp2
      go_roundg kj4
      case measure=>have:=HK1.out;have:=HJ4.out;omega
      case rel=>exact ⟨(x7_1),(x8_1),(wrap64 (x9_1 + 1)),(by first|rfl|(simp;done)|(simp [*];done)),(by first|rfl|(simp;done)|(simp [*];done)),(by first|rfl|(simp;done)|(simp [*];done)),H',⟨by have:=HK1.out;have:=HJ4.out;omega⟩,⟨by repeat (first|(with_reducible first|exact HB.out|apply bL|apply pN|apply bE)|exact HB.out)⟩⟩
     rw [if_pos c10] at H
     have c10b0 : (((rd_T24 l0 x9_1).f0) == a1) = true:=beq_iff_eq.mpr c10
     have c10b1 : (((rd_T24 l0 x9_1).f0) != a1) = false:=bne_eq_false_iff_eq.mpr c10
     clear c10
     have H':=Am H
     clear H
     have p224 : 0≤(x9_1 : Int):=of_decide_eq_true (by first|(with_reducible assumption)|assumption)
     have q224 : x9_1 < (l0.length : Int):=of_decide_eq_true (by first|(with_reducible assumption)|assumption)
     obtain ⟨ad224,e224,hx224_0,hx224_1,hx224_2,hx224_3,hx224_4,hx224_5⟩:=at_T24 HR0.out x9_1 p224 q224
     cases e224
     replace hx224_0:=(HB.out.cell (wB w _ hx224_0)).trans hx224_0
     replace hx224_1:=(HB.out.cell (wB w _ hx224_1)).trans hx224_1
     replace hx224_2:=(HB.out.cell (wB w _ hx224_2)).trans hx224_2
     replace hx224_3:=(HB.out.cell (wB w _ hx224_3)).trans hx224_3
     replace hx224_4:=(HB.out.cell (wB w _ hx224_4)).trans hx224_4
     replace hx224_5:=(HB.out.cell (wB w _ hx224_5)).trans hx224_5
     replace p224:=eq_true p224
     replace q224:=eq_true q224
     have p225 : 0≤(x9_1 : Int):=of_decide_eq_true (by first|(with_reducible assumption)|assumption)
     have q225 : x9_1 < (l0.length : Int):=of_decide_eq_true (by first|(with_reducible assumption)|assumption)
     obtain ⟨ad225,e225,hx225_0,hx225_1,hx225_2,hx225_3,hx225_4,hx225_5⟩:=at_T24 HR0.out x9_1 p225 q225
     obtain rfl : ad224 = ad225:=(by injection e225)
     replace hx225_0:=(HB.out.cell (wB w _ hx225_0)).trans hx225_0
     replace hx225_1:=(HB.out.cell (wB w _ hx225_1)).trans hx225_1
     replace hx225_2:=(HB.out.cell (wB w _ hx225_2)).trans hx225_2
     replace hx225_3:=(HB.out.cell (wB w _ hx225_3)).trans hx225_3
     replace hx225_4:=(HB.out.cell (wB w _ hx225_4)).trans hx225_4
     replace hx225_5:=(HB.out.cell (wB w _ hx225_5)).trans hx225_5
     replace p225:=eq_true p225
     replace q225:=eq_true q225
     go_wp2
     go_roundg kj4
     case measure=>have:=HK1.out;have:=HJ4.out;omega
     case rel=>exact ⟨(wrap64 (x7_1 + ((rd_T24 l0 x9_1).f3))),(wrap64 (x8_1 + 1)),(wrap64 (x9_1 + 1)),(by first|rfl|(simp;done)|(simp [*];done)),(by first|rfl|(simp;done)|(simp [*];done)),(by first|rfl|(simp;done)|(simp [*];done)),H',⟨by have:=HK1.out;have:=HJ4.out;omega⟩,⟨by repeat (first|(with_reducible first|exact HB.out|apply bL|apply pN|apply bE)|exact HB.out)⟩⟩
mutual
def gangerref01_Wide_Narrow.j0 : Nat→Bool→Bool→Int→Int→Option (Int × Bool)
 | 0,_,_,_,_=>none
 | k + 1,x4,u_0,u_1,u_2=>if x4 = true then (some (0,false)) else (if u_0 = true then (gangerref01_Wide_Narrow.j1 k (u_2 == 9223372036854775808) u_0 u_1 u_2) else (gangerref01_Wide_Narrow.j1 k false u_0 u_1 u_2))
def gangerref01_Wide_Narrow.j1 : Nat→Bool→Bool→Int→Int→Option (Int × Bool)
 | 0,_,_,_,_=>none
 | k + 1,x13,u_0,u_1,u_2=>if x13 = true then (some ((-9223372036854775808),true)) else (if u_2 > 9223372036854775807 then (some (0,false)) else (if u_0 = true then (some (wrap64 (-(wrap64 (u_2))),true)) else (some (wrap64 (u_2),true))))
end
def gangerref01_Wide_Narrow.f (k : Nat) (a0_0 : Bool) (a0_1 : Int) (a0_2 : Int) : Option (Int × Bool):=if a0_1 > 0 then (gangerref01_Wide_Narrow.j0 k true a0_0 a0_1 a0_2) else (gangerref01_Wide_Narrow.j0 k (decide (a0_2 > 9223372036854775808)) a0_0 a0_1 a0_2)
set_option maxHeartbeats 8000000 in
set_option maxRecDepth 100000 in
theorem gangerref01_Wide_Narrow.calls (k : Nat) (a0_0 : Bool) (a0_1 : Int) (a0_2 : Int) (r1 : Int) (r2 : Bool) (w : World) (h : gangerref01_Wide_Narrow.f k a0_0 a0_1 a0_2 = some (r1,r2)) :
  Calls Tryd.prog 46 #[.agg #[.bool a0_0,.int .u64 a0_1,.int .u64 a0_2]] w fun e w'=>e = .returned (.tuple #[.int .i64 r1,.bool r2])∧Below w.heap.size w w':=by
 have hu70:=Tryd.underlying70
 have HB:=Am (Below.refl w.heap.size w)
 have H : (if a0_1 > 0 then (gangerref01_Wide_Narrow.j0 k true a0_0 a0_1 a0_2) else (gangerref01_Wide_Narrow.j0 k (decide (a0_2 > 9223372036854775808)) a0_0 a0_1 a0_2)) = some (r1,r2):=h
 clear h
 have HC2:=Am H
 clear H
 go_enter Tryd.func46,Tryd.ntmps46
 go_upto_region 1 with (first|((with_reducible refine gD (N:=1) rfl ?_);refine box_event ?hg (N:=1) ?hd (cs:=#[.bool a0_0,.int .u64 a0_1,.int .u64 a0_2]) (t:=70) ?hr ?_;(case hd=>rfl);(case hg=>rfl);(case hr=>first|(go_simp;done)|(go_simp;rfl));intro gb226 hg w3 hbox hb;have n0_:=Am (below_step (by repeat (first|(with_reducible first|exact HB.out|apply bL|apply pN|apply bE)|exact HB.out)) hb);have n1_:=Am (hbox);have n2_:=Am ((by rw [hg];exact (bZ (by repeat (first|(with_reducible first|exact HB.out|apply bL|apply pN|apply bE)|exact HB.out))) : w.heap.size≤gb226));have n3_:=n2_;clear HB;have HB:=n0_;have BK226:=n1_;have GW226:=n2_;have GE226:=n3_;clear n0_ n1_ n2_ n3_;clear hb hbox hg))
 (try simp only [Act.put,sT,sZ,sS])
 go_cut [4] (fun v4 wc=>∃ (kq : Nat) (x4_1 : Bool),v4 = .bool x4_1∧Aside0 (gangerref01_Wide_Narrow.j0 kq x4_1 a0_0 a0_1 a0_2 = some (r1,r2))∧Aside0 (kq≤k)∧Aside0 (wc.heap[gb226]? = some (.cells #[.bool a0_0,.int .u64 a0_1,.int .u64 a0_2] 70 (0,0)))∧Aside0 (Below w.heap.size w wc))
 case first =>
  have H:=HC2.out
  clear HC2
  by_cases c4 : a0_1 > 0
  ·rw [if_pos c4] at H
   have c4b0 : decide (0 < a0_1) = true:=decide_eq_true c4
   clear c4
   (first|rw [c4b0]|(simp only [iW,iV];rw [c4b0])|skip)
   have H':=Am H
   clear H
   obtain ⟨X5_0,X5_1,X5_2,Y5_0,Y5_1,Y5_2⟩:=kc3 (w:=w3) (g:=gb226) BK226.out
   go_wp2
   go_meet
   case rel=>exact ⟨_,(true),(by first|rfl|(simp;done)|(simp [*];done)),H',⟨by first|omega|exact Nat.le_refl _⟩,⟨by (with_reducible repeat (first|refine bN ?_ _|refine bD ?_|refine bA ?_ _));exact BK226.out⟩,⟨by repeat (first|(with_reducible first|exact HB.out|apply bL|apply pN|apply bE|refine bS ?_ GE226.out)|exact HB.out)⟩⟩
  rw [if_neg c4] at H
  have c4b0 : decide (0 < a0_1) = false:=decide_eq_false c4
  clear c4
  (first|rw [c4b0]|(simp only [iW,iV];rw [c4b0])|skip)
  have H':=Am H
  clear H
  obtain ⟨X6_0,X6_1,X6_2,Y6_0,Y6_1,Y6_2⟩:=kc3 (w:=w3) (g:=gb226) BK226.out
  go_wp2
  go_meet
  case rel=>exact ⟨_,(decide (a0_2 > 9223372036854775808)),(by first|rfl|(simp;done)|(simp [*];done)),H',⟨by first|omega|exact Nat.le_refl _⟩,⟨by (with_reducible repeat (first|refine bN ?_ _|refine bD ?_|refine bA ?_ _));exact BK226.out⟩,⟨by repeat (first|(with_reducible first|exact HB.out|apply bL|apply pN|apply bE|refine bS ?_ GE226.out)|exact HB.out)⟩⟩
 case rest =>
  clear HC2
  obtain ⟨kq,x4_1,rfl,HA,HJ1,BK226,HB⟩:=hcut
  cases kq with
  | zero=>exact absurd HA.out (by simp [gangerref01_Wide_Narrow.j0])
  | succ kj1 =>
   have H:=HA.out
   clear HA
   simp only [gangerref01_Wide_Narrow.j0] at H
   by_cases c7 : x4_1 = true
   ·subst c7
    have H1 : (some (0,false)) = some (r1,r2):=by rw [if_pos rfl] at H;exact H
    clear H
    have H:=H1
    clear H1
    simp only [Option.some.injEq,Prod.mk.injEq] at H
    obtain ⟨rfl,rfl⟩:=H
    go_wp2
    go_ret2
    exact ⟨by first|rfl|(simp [errW_none,errW_some] <;> rfl)|(simp [*,errW_none,errW_some] <;> rfl)|(simp [bne,isE_]),by repeat (first|(with_reducible first|exact HB.out|apply bL|apply pN|apply bE|refine bS ?_ GE226.out)|exact HB.out)⟩
   replace c7:=Bool.eq_false_iff.mpr c7
   subst c7
   have H1 : (if a0_0 = true then (gangerref01_Wide_Narrow.j1 kj1 (a0_2 == 9223372036854775808) a0_0 a0_1 a0_2) else (gangerref01_Wide_Narrow.j1 kj1 false a0_0 a0_1 a0_2)) = some (r1,r2):=by rw [if_neg (show ¬ (false = true) by decide)] at H;exact H
   clear H
   have H:=H1
   clear H1
   have HC8:=Am H
   clear H
   go_upto_region 3 with (fail)
   go_cut [13] (fun v13 wc=>∃ (kq : Nat) (x13_7 : Bool),v13 = .bool x13_7∧Aside0 (gangerref01_Wide_Narrow.j1 kq x13_7 a0_0 a0_1 a0_2 = some (r1,r2))∧Aside0 (kq≤kj1)∧Aside0 (wc.heap[gb226]? = some (.cells #[.bool a0_0,.int .u64 a0_1,.int .u64 a0_2] 70 (0,0)))∧Aside0 (Below w.heap.size w wc))
   case first =>
    have H:=HC8.out
    clear HC8
    by_cases c9 : a0_0 = true
    ·subst c9
     have H1 : (gangerref01_Wide_Narrow.j1 kj1 (a0_2 == 9223372036854775808) true a0_1 a0_2) = some (r1,r2):=by rw [if_pos rfl] at H;exact H
     clear H
     have H:=H1
     clear H1
     have H':=Am H
     clear H
     obtain ⟨X10_0,X10_1,X10_2,Y10_0,Y10_1,Y10_2⟩:=kc3 (w:=wc) (g:=gb226) BK226.out
     go_wp2
     go_meet
     case rel=>exact ⟨_,((a0_2 == 9223372036854775808)),(by first|rfl|(simp;done)|(simp [*];done)),H',⟨by have:=HJ1.out;first|omega|exact Nat.le_refl _⟩,⟨by (with_reducible repeat (first|refine bN ?_ _|refine bD ?_|refine bA ?_ _));exact BK226.out⟩,⟨by repeat (first|(with_reducible first|exact HB.out|apply bL|apply pN|apply bE|refine bS ?_ GE226.out)|exact HB.out)⟩⟩
    replace c9:=Bool.eq_false_iff.mpr c9
    subst c9
    have H1 : (gangerref01_Wide_Narrow.j1 kj1 false false a0_1 a0_2) = some (r1,r2):=by rw [if_neg (show ¬ (false = true) by decide)] at H;exact H
    clear H
    have H:=H1
    clear H1
    have H':=Am H
    clear H
    obtain ⟨X11_0,X11_1,X11_2,Y11_0,Y11_1,Y11_2⟩:=kc3 (w:=wc) (g:=gb226) BK226.out
    go_wp2
    go_meet
    case rel=>exact ⟨_,(false),(by first|rfl|(simp;done)|(simp [*];done)),H',⟨by have:=HJ1.out;first|omega|exact Nat.le_refl _⟩,⟨by (with_reducible repeat (first|refine bN ?_ _|refine bD ?_|refine bA ?_ _));exact BK226.out⟩,⟨by repeat (first|(with_reducible first|exact HB.out|apply bL|apply pN|apply bE|refine bS ?_ GE226.out)|exact HB.out)⟩⟩
   case rest =>
    clear HC8
    obtain ⟨kq,x13_7,rfl,HA,HJ7,BK226,HB⟩:=hcut
    cases kq with
    | zero=>exact absurd HA.out (by simp [gangerref01_Wide_Narrow.j1])
    | succ kj7 =>
     have H:=HA.out
     clear HA
     simp only [gangerref01_Wide_Narrow.j1] at H
     by_cases c12 : x13_7 = true
     ·subst c12
      have H1 : (some ((-9223372036854775808),true)) = some (r1,r2):=by rw [if_pos rfl] at H;exact H
      clear H
      have H:=H1
      clear H1
      simp only [Option.some.injEq,Prod.mk.injEq] at H
      obtain ⟨rfl,rfl⟩:=H
      go_wp2
      go_ret2
      exact ⟨by first|rfl|(simp [errW_none,errW_some] <;> rfl)|(simp [*,errW_none,errW_some] <;> rfl)|(simp [bne,isE_]),by repeat (first|(with_reducible first|exact HB.out|apply bL|apply pN|apply bE|refine bS ?_ GE226.out)|exact HB.out)⟩
     replace c12:=Bool.eq_false_iff.mpr c12
     subst c12
     have H1 : (if a0_2 > 9223372036854775807 then (some (0,false)) else (if a0_0 = true then (some (wrap64 (-(wrap64 (a0_2))),true)) else (some (wrap64 (a0_2),true)))) = some (r1,r2):=by rw [if_neg (show ¬ (false = true) by decide)] at H;exact H
     clear H
     have H:=H1
     clear H1
     by_cases c13 : a0_2 > 9223372036854775807
     ·rw [if_pos c13] at H
      have c13b0 : decide (9223372036854775807 < a0_2) = true:=decide_eq_true c13
      clear c13
      simp only [Option.some.injEq,Prod.mk.injEq] at H
      obtain ⟨rfl,rfl⟩:=H
      obtain ⟨X14_0,X14_1,X14_2,Y14_0,Y14_1,Y14_2⟩:=kc3 (w:=wc) (g:=gb226) BK226.out
      go_wp2
      go_ret2
      exact ⟨by first|rfl|(simp [errW_none,errW_some] <;> rfl)|(simp [*,errW_none,errW_some] <;> rfl)|(simp [bne,isE_]),by repeat (first|(with_reducible first|exact HB.out|apply bL|apply pN|apply bE|refine bS ?_ GE226.out)|exact HB.out)⟩
     rw [if_neg c13] at H
     have c13b0 : decide (9223372036854775807 < a0_2) = false:=decide_eq_false c13
     clear c13
     by_cases c15 : a0_0 = true
     ·subst c15
      have H1 : (some (wrap64 (-(wrap64 (a0_2))),true)) = some (r1,r2):=by rw [if_pos rfl] at H;exact H
      clear H
      have H:=H1
      clear H1
      simp only [Option.some.injEq,Prod.mk.injEq] at H
      obtain ⟨rfl,rfl⟩:=H
      obtain ⟨X16_0,X16_1,X16_2,Y16_0,Y16_1,Y16_2⟩:=kc3 (w:=wc) (g:=gb226) BK226.out
      go_wp2
      go_ret2
      exact ⟨by first|rfl|(simp [errW_none,errW_some] <;> rfl)|(simp [*,errW_none,errW_some] <;> rfl)|(simp [bne,isE_]),by repeat (first|(with_reducible first|exact HB.out|apply bL|apply pN|apply bE|refine bS ?_ GE226.out)|exact HB.out)⟩
     replace c15:=Bool.eq_false_iff.mpr c15
     subst c15
     have H1 : (some (wrap64 (a0_2),true)) = some (r1,r2):=by rw [if_neg (show ¬ (false = true) by decide)] at H;exact H
     clear H
     have H:=H1
     clear H1
     simp only [Option.some.injEq,Prod.mk.injEq] at H
     obtain ⟨rfl,rfl⟩:=H
     obtain ⟨X17_0,X17_1,X17_2,Y17_0,Y17_1,Y17_2⟩:=kc3 (w:=wc) (g:=gb226) BK226.out
     go_wp2
     go_ret2
     exact ⟨by first|rfl|(simp [errW_none,errW_some] <;> rfl)|(simp [*,errW_none,errW_some] <;> rfl)|(simp [bne,isE_]),by repeat (first|(with_reducible first|exact HB.out|apply bL|apply pN|apply bE|refine bS ?_ GE226.out)|exact HB.out)⟩
def gangerref01_End.f (k : Nat) (a0_0 : Bool) (a0_1 : Int) (a0_2 : Int) : Option (Int):=(gangerref01_Wide_Narrow.f k a0_0 a0_1 a0_2).bind fun bt228=>(if bt228.2 = true then (some bt228.1) else (if a0_0 = true then (some (-9223372036854775808)) else (some 9223372036854775807)))
set_option maxHeartbeats 8000000 in
set_option maxRecDepth 100000 in
theorem gangerref01_End.calls (k : Nat) (a0_0 : Bool) (a0_1 : Int) (a0_2 : Int) (r : Int) (w : World) (h : gangerref01_End.f k a0_0 a0_1 a0_2 = some r) :
  Calls Tryd.prog 31 #[.agg #[.bool a0_0,.int .u64 a0_1,.int .u64 a0_2]] w fun e w'=>e = .returned (.int .i64 r)∧Below w.heap.size w w':=by
 have hu70:=Tryd.underlying70
 have HB:=Am (Below.refl w.heap.size w)
 have H : ((gangerref01_Wide_Narrow.f k a0_0 a0_1 a0_2).bind fun bt228=>(if bt228.2 = true then (some bt228.1) else (if a0_0 = true then (some (-9223372036854775808)) else (some 9223372036854775807)))) = some r:=h
 clear h
 replace H:=oB H
 obtain ⟨⟨t228,t229⟩,A20,H⟩:=H
 replace H : (if t229 = true then (some t228) else (if a0_0 = true then (some (-9223372036854775808)) else (some 9223372036854775807))) = some r:=H
 have A2:=Am A20
 clear A20
 by_cases c3 : t229 = true
 ·subst c3
  have H1 : (some t228) = some r:=by rw [if_pos rfl] at H;exact H
  clear H
  have H:=H1
  clear H1
  obtain rfl:=Option.some.inj H
  go_enter Tryd.func31,Tryd.ntmps31
  go_wp2_with (first|((with_reducible refine gD (N:=1) rfl ?_);refine box_event ?hg (N:=1) ?hd (cs:=#[.bool a0_0,.int .u64 a0_1,.int .u64 a0_2]) (t:=70) ?hr ?_;(case hd=>rfl);(case hg=>rfl);(case hr=>first|(go_simp;done)|(go_simp;rfl));intro gb227 hg w4 hbox hb;have n0_:=Am (below_step (by repeat (first|(with_reducible first|exact HB.out|apply bL|apply pN|apply bE)|exact HB.out)) hb);have n1_:=Am (hbox);have n2_:=Am ((by rw [hg];exact (bZ (by repeat (first|(with_reducible first|exact HB.out|apply bL|apply pN|apply bE)|exact HB.out))) : w.heap.size≤gb227));have n3_:=n2_;clear HB;have HB:=n0_;have BK227:=n1_;have GW227:=n2_;have GE227:=n3_;clear n0_ n1_ n2_ n3_;clear hb hbox hg;obtain ⟨X5_0,X5_1,X5_2,Y5_0,Y5_1,Y5_2⟩:=kc3 (w:=w4) (g:=gb227) BK227.out)|((with_reducible refine gC (f:=46) rfl ?_);refine goesL_ (some 7) rfl rfl Tryd.func46 (by kernel_rfl) rfl #[.agg #[.bool a0_0,.int .u64 a0_1,.int .u64 a0_2]] rfl (by (try simp only [mT,mC,mN]);first|done|rfl|(simp only [lD,lT];rfl)) ?_;(with_reducible refine (gangerref01_Wide_Narrow.calls k a0_0 a0_1 a0_2 t228 true _ A2.out).mono ?_);rintro e w6 ⟨rfl,hb⟩;refine ⟨_,rfl,?_⟩;have n0_:=Am (blk_below (g:=gb227) (by (with_reducible repeat (first|refine bN ?_ _|refine bD ?_|refine bA ?_ _));exact BK227.out) hb);have n1_:=Am (below_step (by repeat (first|(with_reducible first|exact HB.out|apply bL|apply pN|apply bE|refine bS ?_ GE227.out)|exact HB.out)) hb);clear BK227;clear HB;have BK227:=n0_;have HB:=n1_;clear n0_ n1_))
  go_ret
  exact ⟨by first|rfl|(simp [errW_none,errW_some] <;> rfl)|(simp [*,errW_none,errW_some] <;> rfl)|(simp [bne,isE_]),by repeat (first|(with_reducible first|exact HB.out|apply bL|apply pN|apply bE|refine bS ?_ GE227.out)|exact HB.out)⟩
 replace c3:=Bool.eq_false_iff.mpr c3
 subst c3
 have H1 : (if a0_0 = true then (some (-9223372036854775808)) else (some 9223372036854775807)) = some r:=by rw [if_neg (show ¬ (false = true) by decide)] at H;exact H
 clear H
 have H:=H1
 clear H1
 by_cases c7 : a0_0 = true
 ·subst c7
  have H1 : (some (-9223372036854775808)) = some r:=by rw [if_pos rfl] at H;exact H
  clear H
  have H:=H1
  clear H1
  obtain rfl:=Option.some.inj H
  go_enter Tryd.func31,Tryd.ntmps31
  go_wp2_with (first|((with_reducible refine gD (N:=1) rfl ?_);refine box_event ?hg (N:=1) ?hd (cs:=#[.bool true,.int .u64 a0_1,.int .u64 a0_2]) (t:=70) ?hr ?_;(case hd=>rfl);(case hg=>rfl);(case hr=>first|(go_simp;done)|(go_simp;rfl));intro gb227 hg w8 hbox hb;have n0_:=Am (below_step (by repeat (first|(with_reducible first|exact HB.out|apply bL|apply pN|apply bE)|exact HB.out)) hb);have n1_:=Am (hbox);have n2_:=Am ((by rw [hg];exact (bZ (by repeat (first|(with_reducible first|exact HB.out|apply bL|apply pN|apply bE)|exact HB.out))) : w.heap.size≤gb227));have n3_:=n2_;clear HB;have HB:=n0_;have BK227:=n1_;have GW227:=n2_;have GE227:=n3_;clear n0_ n1_ n2_ n3_;clear hb hbox hg;obtain ⟨X9_0,X9_1,X9_2,Y9_0,Y9_1,Y9_2⟩:=kc3 (w:=w8) (g:=gb227) BK227.out)|((with_reducible refine gC (f:=46) rfl ?_);refine goesL_ (some 7) rfl rfl Tryd.func46 (by kernel_rfl) rfl #[.agg #[.bool true,.int .u64 a0_1,.int .u64 a0_2]] rfl (by (try simp only [mT,mC,mN]);first|done|rfl|(simp only [lD,lT];rfl)) ?_;(with_reducible refine (gangerref01_Wide_Narrow.calls k true a0_1 a0_2 t228 false _ A2.out).mono ?_);rintro e w10 ⟨rfl,hb⟩;refine ⟨_,rfl,?_⟩;have n0_:=Am (blk_below (g:=gb227) (by (with_reducible repeat (first|refine bN ?_ _|refine bD ?_|refine bA ?_ _));exact BK227.out) hb);have n1_:=Am (below_step (by repeat (first|(with_reducible first|exact HB.out|apply bL|apply pN|apply bE|refine bS ?_ GE227.out)|exact HB.out)) hb);clear BK227;clear HB;have BK227:=n0_;have HB:=n1_;clear n0_ n1_;obtain ⟨X11_0,X11_1,X11_2,Y11_0,Y11_1,Y11_2⟩:=kc3 (w:=w10) (g:=gb227) BK227.out))
  go_ret
  exact ⟨by first|rfl|(simp [errW_none,errW_some] <;> rfl)|(simp [*,errW_none,errW_some] <;> rfl)|(simp [bne,isE_]),by repeat (first|(with_reducible first|exact HB.out|apply bL|apply pN|apply bE|refine bS ?_ GE227.out)|exact HB.out)⟩
 replace c7:=Bool.eq_false_iff.mpr c7
 subst c7
 have H1 : (some 9223372036854775807) = some r:=by rw [if_neg (show ¬ (false = true) by decide)] at H;exact H
 clear H
 have H:=H1
 clear H1
 obtain rfl:=Option.some.inj H
 go_enter Tryd.func31,Tryd.ntmps31
 go_wp2_with (first|((with_reducible refine gD (N:=1) rfl ?_);refine box_event ?hg (N:=1) ?hd (cs:=#[.bool false,.int .u64 a0_1,.int .u64 a0_2]) (t:=70) ?hr ?_;(case hd=>rfl);(case hg=>rfl);(case hr=>first|(go_simp;done)|(go_simp;rfl));intro gb227 hg w12 hbox hb;have n0_:=Am (below_step (by repeat (first|(with_reducible first|exact HB.out|apply bL|apply pN|apply bE)|exact HB.out)) hb);have n1_:=Am (hbox);have n2_:=Am ((by rw [hg];exact (bZ (by repeat (first|(with_reducible first|exact HB.out|apply bL|apply pN|apply bE)|exact HB.out))) : w.heap.size≤gb227));have n3_:=n2_;clear HB;have HB:=n0_;have BK227:=n1_;have GW227:=n2_;have GE227:=n3_;clear n0_ n1_ n2_ n3_;clear hb hbox hg;obtain ⟨X13_0,X13_1,X13_2,Y13_0,Y13_1,Y13_2⟩:=kc3 (w:=w12) (g:=gb227) BK227.out)|((with_reducible refine gC (f:=46) rfl ?_);refine goesL_ (some 7) rfl rfl Tryd.func46 (by kernel_rfl) rfl #[.agg #[.bool false,.int .u64 a0_1,.int .u64 a0_2]] rfl (by (try simp only [mT,mC,mN]);first|done|rfl|(simp only [lD,lT];rfl)) ?_;(with_reducible refine (gangerref01_Wide_Narrow.calls k false a0_1 a0_2 t228 false _ A2.out).mono ?_);rintro e w14 ⟨rfl,hb⟩;refine ⟨_,rfl,?_⟩;have n0_:=Am (blk_below (g:=gb227) (by (with_reducible repeat (first|refine bN ?_ _|refine bD ?_|refine bA ?_ _));exact BK227.out) hb);have n1_:=Am (below_step (by repeat (first|(with_reducible first|exact HB.out|apply bL|apply pN|apply bE|refine bS ?_ GE227.out)|exact HB.out)) hb);clear BK227;clear HB;have BK227:=n0_;have HB:=n1_;clear n0_ n1_;obtain ⟨X15_0,X15_1,X15_2,Y15_0,Y15_1,Y15_2⟩:=kc3 (w:=w14) (g:=gb227) BK227.out))
 go_ret
 exact ⟨by first|rfl|(simp [errW_none,errW_some] <;> rfl)|(simp [*,errW_none,errW_some] <;> rfl)|(simp [bne,isE_]),by repeat (first|(with_reducible first|exact HB.out|apply bL|apply pN|apply bE|refine bS ?_ GE227.out)|exact HB.out)⟩
def gangerref01_plus.f (a0_0 : Bool) (a0_1 : Int) (a0_2 : Int) (a1_0 : Bool) (a1_1 : Int) (a1_2 : Int) : Option (Bool × Int × Int):=if (IntKind.u64.wrap (a0_2 + a1_2)) < a0_2 then (some (a0_0,IntKind.u64.wrap ((IntKind.u64.wrap (a0_1 + a1_1)) + 1),IntKind.u64.wrap (a0_2 + a1_2))) else (some (a0_0,IntKind.u64.wrap (a0_1 + a1_1),IntKind.u64.wrap (a0_2 + a1_2)))
set_option maxHeartbeats 8000000 in
set_option maxRecDepth 100000 in
theorem gangerref01_plus.calls (a0_0 : Bool) (a0_1 : Int) (a0_2 : Int) (a1_0 : Bool) (a1_1 : Int) (a1_2 : Int) (r1 : Bool) (r2 : Int) (r3 : Int) (w : World) (h : gangerref01_plus.f a0_0 a0_1 a0_2 a1_0 a1_1 a1_2 = some (r1,r2,r3)) :
  Calls Tryd.prog 47 #[.agg #[.bool a0_0,.int .u64 a0_1,.int .u64 a0_2],.agg #[.bool a1_0,.int .u64 a1_1,.int .u64 a1_2]] w fun e w'=>e = .returned (.agg #[.bool r1,.int .u64 r2,.int .u64 r3])∧Below w.heap.size w w':=by
 have hu70:=Tryd.underlying70
 have HB:=Am (Below.refl w.heap.size w)
 have H : (if (IntKind.u64.wrap (a0_2 + a1_2)) < a0_2 then (some (a0_0,IntKind.u64.wrap ((IntKind.u64.wrap (a0_1 + a1_1)) + 1),IntKind.u64.wrap (a0_2 + a1_2))) else (some (a0_0,IntKind.u64.wrap (a0_1 + a1_1),IntKind.u64.wrap (a0_2 + a1_2)))) = some (r1,r2,r3):=h
 clear h
 by_cases c3 : (IntKind.u64.wrap (a0_2 + a1_2)) < a0_2
 rotate_left
 ·rw [if_neg c3] at H
  have c3b0 : decide ((IntKind.u64.wrap (a0_2 + a1_2)) < a0_2) = false:=decide_eq_false c3
  clear c3
  simp only [Option.some.injEq,Prod.mk.injEq] at H
  obtain ⟨rfl,rfl,rfl⟩:=H
  go_enter Tryd.func47,Tryd.ntmps47
  go_wp2_with (first|((with_reducible refine gD (N:=2) rfl ?_);refine box_event ?hg (N:=2) ?hd (cs:=#[.bool a0_0,.int .u64 a0_1,.int .u64 a0_2]) (t:=70) ?hr ?_;(case hd=>rfl);(case hg=>rfl);(case hr=>first|(go_simp;done)|(go_simp;rfl));intro gb230 hg w19 hbox hb;have n0_:=Am (below_step (by repeat (first|(with_reducible first|exact HB.out|apply bL|apply pN|apply bE)|exact HB.out)) hb);have n1_:=Am (hbox);have n2_:=Am ((by rw [hg];exact (bZ (by repeat (first|(with_reducible first|exact HB.out|apply bL|apply pN|apply bE)|exact HB.out))) : w.heap.size≤gb230));have n3_:=n2_;clear HB;have HB:=n0_;have BK230:=n1_;have GW230:=n2_;have GE230:=n3_;clear n0_ n1_ n2_ n3_;clear hb hbox hg)|((with_reducible refine gD (N:=3) rfl ?_);refine box_event ?hg (N:=3) ?hd (cs:=#[.bool a1_0,.int .u64 a1_1,.int .u64 a1_2]) (t:=70) ?hr ?_;(case hd=>rfl);(case hg=>rfl);(case hr=>first|(go_simp;done)|(go_simp;rfl));intro gb231 hg w20 hbox hb;have n0_:=Am (blk_below (g:=gb230) (by (with_reducible repeat (first|refine bN ?_ _|refine bD ?_|refine bA ?_ _));exact BK230.out) hb);have n1_:=Am (below_step (by repeat (first|(with_reducible first|exact HB.out|apply bL|apply pN|apply bE|refine bS ?_ GE230.out)|exact HB.out)) hb);have n2_:=Am (hbox);have n3_:=Am ((by rw [hg];exact (bZ (by repeat (first|(with_reducible first|exact HB.out|apply bL|apply pN|apply bE|refine bS ?_ GE230.out)|exact HB.out))) : w.heap.size≤gb231));have n4_:=n3_;have n5_:=Am ((by rw [hg];exact Nat.ne_of_lt (blk_lt (g:=gb230) (by (with_reducible repeat (first|refine bN ?_ _|refine bD ?_|refine bA ?_ _));exact BK230.out)) : gb230 ≠ gb231));have n6_:=Am ((by rw [hg];exact Nat.ne_of_gt (blk_lt (g:=gb230) (by (with_reducible repeat (first|refine bN ?_ _|refine bD ?_|refine bA ?_ _));exact BK230.out)) : gb231 ≠ gb230));clear BK230;clear HB;have BK230:=n0_;have HB:=n1_;have BK231:=n2_;have GW231:=n3_;have GE231:=n4_;have NB230_231:=n5_;have NB231_230:=n6_;clear n0_ n1_ n2_ n3_ n4_ n5_ n6_;clear hb hbox hg)|((with_reducible refine gD (N:=4) rfl ?_);refine box_event ?hg (N:=4) ?hd (cs:=#[.bool false,.int .u64 0,.int .u64 0]) (t:=70) ?hr ?_;(case hd=>rfl);(case hg=>rfl);(case hr=>first|(go_simp;done)|(go_simp;rfl));intro gb232 hg w21 hbox hb;have n0_:=Am (blk_below (g:=gb230) (by (with_reducible repeat (first|refine bN ?_ _|refine bD ?_|refine bA ?_ _));exact BK230.out) hb);have n1_:=Am (blk_below (g:=gb231) (by (with_reducible repeat (first|refine bN ?_ _|refine bD ?_|refine bA ?_ _));exact BK231.out) hb);have n2_:=Am (below_step (by repeat (first|(with_reducible first|exact HB.out|apply bL|apply pN|apply bE|refine bS ?_ GE230.out|refine bS ?_ GE231.out)|exact HB.out)) hb);have n3_:=Am (hbox);have n4_:=Am ((by rw [hg];exact (bZ (by repeat (first|(with_reducible first|exact HB.out|apply bL|apply pN|apply bE|refine bS ?_ GE230.out|refine bS ?_ GE231.out)|exact HB.out))) : w.heap.size≤gb232));have n5_:=n4_;have n6_:=Am ((by rw [hg];exact Nat.ne_of_lt (blk_lt (g:=gb230) (by (with_reducible repeat (first|refine bN ?_ _|refine bD ?_|refine bA ?_ _));exact BK230.out)) : gb230 ≠ gb232));have n7_:=Am ((by rw [hg];exact Nat.ne_of_gt (blk_lt (g:=gb230) (by (with_reducible repeat (first|refine bN ?_ _|refine bD ?_|refine bA ?_ _));exact BK230.out)) : gb232 ≠ gb230));have n8_:=Am ((by rw [hg];exact Nat.ne_of_lt (blk_lt (g:=gb231) (by (with_reducible repeat (first|refine bN ?_ _|refine bD ?_|refine bA ?_ _));exact BK231.out)) : gb231 ≠ gb232));have n9_:=Am ((by rw [hg];exact Nat.ne_of_gt (blk_lt (g:=gb231) (by (with_reducible repeat (first|refine bN ?_ _|refine bD ?_|refine bA ?_ _));exact BK231.out)) : gb232 ≠ gb231));clear BK230;clear BK231;clear HB;have BK230:=n0_;have BK231:=n1_;have HB:=n2_;have BK232:=n3_;have GW232:=n4_;have GE232:=n5_;have NB230_232:=n6_;have NB232_230:=n7_;have NB231_232:=n8_;have NB232_231:=n9_;clear n0_ n1_ n2_ n3_ n4_ n5_ n6_ n7_ n8_ n9_;clear hb hbox hg;have hnb22:=NB230_231.out;have hnc22:=NB231_230.out;have hnb23:=NB230_232.out;have hnc23:=NB232_230.out;obtain ⟨X24_0,X24_1,X24_2,Y24_0,Y24_1,Y24_2⟩:=kc3 (w:=w21) (g:=gb230) BK230.out;have hnb25:=NB231_232.out;have hnc25:=NB232_231.out;obtain ⟨X26_0,X26_1,X26_2,Y26_0,Y26_1,Y26_2⟩:=kc3 (w:=w21) (g:=gb231) BK231.out)|((with_reducible refine gD (N:=5) rfl ?_);refine box_event ?hg (N:=5) ?hd (cs:=#[.bool false,.int .u64 0,.int .u64 0]) (t:=70) ?hr ?_;(case hd=>rfl);(case hg=>rfl);(case hr=>first|(go_simp;done)|(go_simp;rfl));intro gb233 hg w27 hbox hb;have n0_:=Am (blk_below (g:=gb230) (by (with_reducible repeat (first|refine bN ?_ _|refine bD ?_|refine bA ?_ _));exact BK230.out) hb);have n1_:=Am (blk_below (g:=gb231) (by (with_reducible repeat (first|refine bN ?_ _|refine bD ?_|refine bA ?_ _));exact BK231.out) hb);have n2_:=Am (blk_below (g:=gb232) (by (with_reducible repeat (first|refine bN ?_ _|refine bD ?_|refine bA ?_ _));exact BK232.out) hb);have n3_:=Am (below_step (by repeat (first|(with_reducible first|exact HB.out|apply bL|apply pN|apply bE|refine bS ?_ GE230.out|refine bS ?_ GE231.out|refine bS ?_ GE232.out)|exact HB.out)) hb);have n4_:=Am (hbox);have n5_:=Am ((by rw [hg];exact (bZ (by repeat (first|(with_reducible first|exact HB.out|apply bL|apply pN|apply bE|refine bS ?_ GE230.out|refine bS ?_ GE231.out|refine bS ?_ GE232.out)|exact HB.out))) : w.heap.size≤gb233));have n6_:=n5_;have n7_:=Am ((by rw [hg];exact Nat.ne_of_lt (blk_lt (g:=gb230) (by (with_reducible repeat (first|refine bN ?_ _|refine bD ?_|refine bA ?_ _));exact BK230.out)) : gb230 ≠ gb233));have n8_:=Am ((by rw [hg];exact Nat.ne_of_gt (blk_lt (g:=gb230) (by (with_reducible repeat (first|refine bN ?_ _|refine bD ?_|refine bA ?_ _));exact BK230.out)) : gb233 ≠ gb230));have n9_:=Am ((by rw [hg];exact Nat.ne_of_lt (blk_lt (g:=gb231) (by (with_reducible repeat (first|refine bN ?_ _|refine bD ?_|refine bA ?_ _));exact BK231.out)) : gb231 ≠ gb233));have n10_:=Am ((by rw [hg];exact Nat.ne_of_gt (blk_lt (g:=gb231) (by (with_reducible repeat (first|refine bN ?_ _|refine bD ?_|refine bA ?_ _));exact BK231.out)) : gb233 ≠ gb231));have n11_:=Am ((by rw [hg];exact Nat.ne_of_lt (blk_lt (g:=gb232) (by (with_reducible repeat (first|refine bN ?_ _|refine bD ?_|refine bA ?_ _));exact BK232.out)) : gb232 ≠ gb233));have n12_:=Am ((by rw [hg];exact Nat.ne_of_gt (blk_lt (g:=gb232) (by (with_reducible repeat (first|refine bN ?_ _|refine bD ?_|refine bA ?_ _));exact BK232.out)) : gb233 ≠ gb232));clear BK230;clear BK231;clear BK232;clear HB;have BK230:=n0_;have BK231:=n1_;have BK232:=n2_;have HB:=n3_;have BK233:=n4_;have GW233:=n5_;have GE233:=n6_;have NB230_233:=n7_;have NB233_230:=n8_;have NB231_233:=n9_;have NB233_231:=n10_;have NB232_233:=n11_;have NB233_232:=n12_;clear n0_ n1_ n2_ n3_ n4_ n5_ n6_ n7_ n8_ n9_ n10_ n11_ n12_;clear hb hbox hg;have hnb28:=NB233_230.out;have hnc28:=NB230_233.out;have hnb29:=NB233_231.out;have hnc29:=NB231_233.out;have hnb30:=NB233_232.out;have hnc30:=NB232_233.out;obtain ⟨X31_0,X31_1,X31_2,Y31_0,Y31_1,Y31_2⟩:=kc3 (w:=w27) (g:=gb233) BK233.out;obtain ⟨X32_0,X32_1,X32_2,Y32_0,Y32_1,Y32_2⟩:=kc3 (w:=w27) (g:=gb230) BK230.out;obtain ⟨X33_0,X33_1,X33_2,Y33_0,Y33_1,Y33_2⟩:=kc3 (w:=w27) (g:=gb232) BK232.out))
  refine bodyPost_ret (results_cell_row rfl _ _ gb232 70 #[.bool a0_0,.int .u64 (IntKind.u64.wrap (a0_1 + a1_1)),.int .u64 (IntKind.u64.wrap (a0_2 + a1_2))] (0,0) _ rfl (by (with_reducible repeat (first|refine bN ?_ _|refine bD ?_|refine bA ?_ _));refine blk_put (cs:=#[.bool a0_0,.int .u64 (IntKind.u64.wrap (a0_1 + a1_1)),.int .u64 0]) ?_ 2 _ rfl;(with_reducible repeat (first|refine bN ?_ _|refine bD ?_|refine bA ?_ _));refine blk_put (cs:=#[.bool a0_0,.int .u64 0,.int .u64 0]) ?_ 1 _ rfl;(with_reducible repeat (first|refine bN ?_ _|refine bD ?_|refine bA ?_ _));refine blk_put (cs:=#[.bool false,.int .u64 0,.int .u64 0]) ?_ 0 _ rfl;(with_reducible repeat (first|refine bN ?_ _|refine bD ?_|refine bA ?_ _));refine blk_far ?_ NB232_233.out _;(with_reducible repeat (first|refine bN ?_ _|refine bD ?_|refine bA ?_ _));refine blk_far ?_ NB232_233.out _;(with_reducible repeat (first|refine bN ?_ _|refine bD ?_|refine bA ?_ _));refine blk_far ?_ NB232_233.out _;(with_reducible repeat (first|refine bN ?_ _|refine bD ?_|refine bA ?_ _));exact BK232.out) Tryd.underlying70 rfl (by kernel_rfl)) rfl ?_
  exact ⟨by first|rfl|(simp [errW_none,errW_some] <;> rfl)|(simp [*,errW_none,errW_some] <;> rfl)|(simp [bne,isE_]),by repeat (first|(with_reducible first|exact HB.out|apply bL|apply pN|apply bE|refine bS ?_ GE230.out|refine bS ?_ GE231.out|refine bS ?_ GE232.out|refine bS ?_ GE233.out)|exact HB.out)⟩
 rw [if_pos c3] at H
 have c3b0 : decide ((IntKind.u64.wrap (a0_2 + a1_2)) < a0_2) = true:=decide_eq_true c3
 clear c3
 simp only [Option.some.injEq,Prod.mk.injEq] at H
 obtain ⟨rfl,rfl,rfl⟩:=H
 go_enter Tryd.func47,Tryd.ntmps47
 go_wp2_with (first|((with_reducible refine gD (N:=2) rfl ?_);refine box_event ?hg (N:=2) ?hd (cs:=#[.bool a0_0,.int .u64 a0_1,.int .u64 a0_2]) (t:=70) ?hr ?_;(case hd=>rfl);(case hg=>rfl);(case hr=>first|(go_simp;done)|(go_simp;rfl));intro gb230 hg w4 hbox hb;have n0_:=Am (below_step (by repeat (first|(with_reducible first|exact HB.out|apply bL|apply pN|apply bE)|exact HB.out)) hb);have n1_:=Am (hbox);have n2_:=Am ((by rw [hg];exact (bZ (by repeat (first|(with_reducible first|exact HB.out|apply bL|apply pN|apply bE)|exact HB.out))) : w.heap.size≤gb230));have n3_:=n2_;clear HB;have HB:=n0_;have BK230:=n1_;have GW230:=n2_;have GE230:=n3_;clear n0_ n1_ n2_ n3_;clear hb hbox hg)|((with_reducible refine gD (N:=3) rfl ?_);refine box_event ?hg (N:=3) ?hd (cs:=#[.bool a1_0,.int .u64 a1_1,.int .u64 a1_2]) (t:=70) ?hr ?_;(case hd=>rfl);(case hg=>rfl);(case hr=>first|(go_simp;done)|(go_simp;rfl));intro gb231 hg w5 hbox hb;have n0_:=Am (blk_below (g:=gb230) (by (with_reducible repeat (first|refine bN ?_ _|refine bD ?_|refine bA ?_ _));exact BK230.out) hb);have n1_:=Am (below_step (by repeat (first|(with_reducible first|exact HB.out|apply bL|apply pN|apply bE|refine bS ?_ GE230.out)|exact HB.out)) hb);have n2_:=Am (hbox);have n3_:=Am ((by rw [hg];exact (bZ (by repeat (first|(with_reducible first|exact HB.out|apply bL|apply pN|apply bE|refine bS ?_ GE230.out)|exact HB.out))) : w.heap.size≤gb231));have n4_:=n3_;have n5_:=Am ((by rw [hg];exact Nat.ne_of_lt (blk_lt (g:=gb230) (by (with_reducible repeat (first|refine bN ?_ _|refine bD ?_|refine bA ?_ _));exact BK230.out)) : gb230 ≠ gb231));have n6_:=Am ((by rw [hg];exact Nat.ne_of_gt (blk_lt (g:=gb230) (by (with_reducible repeat (first|refine bN ?_ _|refine bD ?_|refine bA ?_ _));exact BK230.out)) : gb231 ≠ gb230));clear BK230;clear HB;have BK230:=n0_;have HB:=n1_;have BK231:=n2_;have GW231:=n3_;have GE231:=n4_;have NB230_231:=n5_;have NB231_230:=n6_;clear n0_ n1_ n2_ n3_ n4_ n5_ n6_;clear hb hbox hg)|((with_reducible refine gD (N:=4) rfl ?_);refine box_event ?hg (N:=4) ?hd (cs:=#[.bool false,.int .u64 0,.int .u64 0]) (t:=70) ?hr ?_;(case hd=>rfl);(case hg=>rfl);(case hr=>first|(go_simp;done)|(go_simp;rfl));intro gb232 hg w6 hbox hb;have n0_:=Am (blk_below (g:=gb230) (by (with_reducible repeat (first|refine bN ?_ _|refine bD ?_|refine bA ?_ _));exact BK230.out) hb);have n1_:=Am (blk_below (g:=gb231) (by (with_reducible repeat (first|refine bN ?_ _|refine bD ?_|refine bA ?_ _));exact BK231.out) hb);have n2_:=Am (below_step (by repeat (first|(with_reducible first|exact HB.out|apply bL|apply pN|apply bE|refine bS ?_ GE230.out|refine bS ?_ GE231.out)|exact HB.out)) hb);have n3_:=Am (hbox);have n4_:=Am ((by rw [hg];exact (bZ (by repeat (first|(with_reducible first|exact HB.out|apply bL|apply pN|apply bE|refine bS ?_ GE230.out|refine bS ?_ GE231.out)|exact HB.out))) : w.heap.size≤gb232));have n5_:=n4_;have n6_:=Am ((by rw [hg];exact Nat.ne_of_lt (blk_lt (g:=gb230) (by (with_reducible repeat (first|refine bN ?_ _|refine bD ?_|refine bA ?_ _));exact BK230.out)) : gb230 ≠ gb232));have n7_:=Am ((by rw [hg];exact Nat.ne_of_gt (blk_lt (g:=gb230) (by (with_reducible repeat (first|refine bN ?_ _|refine bD ?_|refine bA ?_ _));exact BK230.out)) : gb232 ≠ gb230));have n8_:=Am ((by rw [hg];exact Nat.ne_of_lt (blk_lt (g:=gb231) (by (with_reducible repeat (first|refine bN ?_ _|refine bD ?_|refine bA ?_ _));exact BK231.out)) : gb231 ≠ gb232));have n9_:=Am ((by rw [hg];exact Nat.ne_of_gt (blk_lt (g:=gb231) (by (with_reducible repeat (first|refine bN ?_ _|refine bD ?_|refine bA ?_ _));exact BK231.out)) : gb232 ≠ gb231));clear BK230;clear BK231;clear HB;have BK230:=n0_;have BK231:=n1_;have HB:=n2_;have BK232:=n3_;have GW232:=n4_;have GE232:=n5_;have NB230_232:=n6_;have NB232_230:=n7_;have NB231_232:=n8_;have NB232_231:=n9_;clear n0_ n1_ n2_ n3_ n4_ n5_ n6_ n7_ n8_ n9_;clear hb hbox hg;have hnb7:=NB230_231.out;have hnc7:=NB231_230.out;have hnb8:=NB230_232.out;have hnc8:=NB232_230.out;obtain ⟨X9_0,X9_1,X9_2,Y9_0,Y9_1,Y9_2⟩:=kc3 (w:=w6) (g:=gb230) BK230.out;have hnb10:=NB231_232.out;have hnc10:=NB232_231.out;obtain ⟨X11_0,X11_1,X11_2,Y11_0,Y11_1,Y11_2⟩:=kc3 (w:=w6) (g:=gb231) BK231.out)|((with_reducible refine gD (N:=5) rfl ?_);refine box_event ?hg (N:=5) ?hd (cs:=#[.bool false,.int .u64 0,.int .u64 0]) (t:=70) ?hr ?_;(case hd=>rfl);(case hg=>rfl);(case hr=>first|(go_simp;done)|(go_simp;rfl));intro gb233 hg w12 hbox hb;have n0_:=Am (blk_below (g:=gb230) (by (with_reducible repeat (first|refine bN ?_ _|refine bD ?_|refine bA ?_ _));exact BK230.out) hb);have n1_:=Am (blk_below (g:=gb231) (by (with_reducible repeat (first|refine bN ?_ _|refine bD ?_|refine bA ?_ _));exact BK231.out) hb);have n2_:=Am (blk_below (g:=gb232) (by (with_reducible repeat (first|refine bN ?_ _|refine bD ?_|refine bA ?_ _));exact BK232.out) hb);have n3_:=Am (below_step (by repeat (first|(with_reducible first|exact HB.out|apply bL|apply pN|apply bE|refine bS ?_ GE230.out|refine bS ?_ GE231.out|refine bS ?_ GE232.out)|exact HB.out)) hb);have n4_:=Am (hbox);have n5_:=Am ((by rw [hg];exact (bZ (by repeat (first|(with_reducible first|exact HB.out|apply bL|apply pN|apply bE|refine bS ?_ GE230.out|refine bS ?_ GE231.out|refine bS ?_ GE232.out)|exact HB.out))) : w.heap.size≤gb233));have n6_:=n5_;have n7_:=Am ((by rw [hg];exact Nat.ne_of_lt (blk_lt (g:=gb230) (by (with_reducible repeat (first|refine bN ?_ _|refine bD ?_|refine bA ?_ _));exact BK230.out)) : gb230 ≠ gb233));have n8_:=Am ((by rw [hg];exact Nat.ne_of_gt (blk_lt (g:=gb230) (by (with_reducible repeat (first|refine bN ?_ _|refine bD ?_|refine bA ?_ _));exact BK230.out)) : gb233 ≠ gb230));have n9_:=Am ((by rw [hg];exact Nat.ne_of_lt (blk_lt (g:=gb231) (by (with_reducible repeat (first|refine bN ?_ _|refine bD ?_|refine bA ?_ _));exact BK231.out)) : gb231 ≠ gb233));have n10_:=Am ((by rw [hg];exact Nat.ne_of_gt (blk_lt (g:=gb231) (by (with_reducible repeat (first|refine bN ?_ _|refine bD ?_|refine bA ?_ _));exact BK231.out)) : gb233 ≠ gb231));have n11_:=Am ((by rw [hg];exact Nat.ne_of_lt (blk_lt (g:=gb232) (by (with_reducible repeat (first|refine bN ?_ _|refine bD ?_|refine bA ?_ _));exact BK232.out)) : gb232 ≠ gb233));have n12_:=Am ((by rw [hg];exact Nat.ne_of_gt (blk_lt (g:=gb232) (by (with_reducible repeat (first|refine bN ?_ _|refine bD ?_|refine bA ?_ _));exact BK232.out)) : gb233 ≠ gb232));clear BK230;clear BK231;clear BK232;clear HB;have BK230:=n0_;have BK231:=n1_;have BK232:=n2_;have HB:=n3_;have BK233:=n4_;have GW233:=n5_;have GE233:=n6_;have NB230_233:=n7_;have NB233_230:=n8_;have NB231_233:=n9_;have NB233_231:=n10_;have NB232_233:=n11_;have NB233_232:=n12_;clear n0_ n1_ n2_ n3_ n4_ n5_ n6_ n7_ n8_ n9_ n10_ n11_ n12_;clear hb hbox hg;have hnb13:=NB233_230.out;have hnc13:=NB230_233.out;have hnb14:=NB233_231.out;have hnc14:=NB231_233.out;have hnb15:=NB233_232.out;have hnc15:=NB232_233.out;obtain ⟨X16_0,X16_1,X16_2,Y16_0,Y16_1,Y16_2⟩:=kc3 (w:=w12) (g:=gb233) BK233.out;obtain ⟨X17_0,X17_1,X17_2,Y17_0,Y17_1,Y17_2⟩:=kc3 (w:=w12) (g:=gb230) BK230.out;obtain ⟨X18_0,X18_1,X18_2,Y18_0,Y18_1,Y18_2⟩:=kc3 (w:=w12) (g:=gb232) BK232.out))
 refine bodyPost_ret (results_cell_row rfl _ _ gb232 70 #[.bool a0_0,.int .u64 (IntKind.u64.wrap ((IntKind.u64.wrap (a0_1 + a1_1)) + 1)),.int .u64 (IntKind.u64.wrap (a0_2 + a1_2))] (0,0) _ rfl (by (with_reducible repeat (first|refine bN ?_ _|refine bD ?_|refine bA ?_ _));refine blk_put (cs:=#[.bool a0_0,.int .u64 (IntKind.u64.wrap ((IntKind.u64.wrap (a0_1 + a1_1)) + 1)),.int .u64 0]) ?_ 2 _ rfl;(with_reducible repeat (first|refine bN ?_ _|refine bD ?_|refine bA ?_ _));refine blk_put (cs:=#[.bool a0_0,.int .u64 0,.int .u64 0]) ?_ 1 _ rfl;(with_reducible repeat (first|refine bN ?_ _|refine bD ?_|refine bA ?_ _));refine blk_put (cs:=#[.bool false,.int .u64 0,.int .u64 0]) ?_ 0 _ rfl;(with_reducible repeat (first|refine bN ?_ _|refine bD ?_|refine bA ?_ _));refine blk_far ?_ NB232_233.out _;(with_reducible repeat (first|refine bN ?_ _|refine bD ?_|refine bA ?_ _));refine blk_far ?_ NB232_233.out _;(with_reducible repeat (first|refine bN ?_ _|refine bD ?_|refine bA ?_ _));refine blk_far ?_ NB232_233.out _;(with_reducible repeat (first|refine bN ?_ _|refine bD ?_|refine bA ?_ _));refine blk_far ?_ NB232_233.out _;(with_reducible repeat (first|refine bN ?_ _|refine bD ?_|refine bA ?_ _));exact BK232.out) Tryd.underlying70 rfl (by kernel_rfl)) rfl ?_
 exact ⟨by first|rfl|(simp [errW_none,errW_some] <;> rfl)|(simp [*,errW_none,errW_some] <;> rfl)|(simp [bne,isE_]),by repeat (first|(with_reducible first|exact HB.out|apply bL|apply pN|apply bE|refine bS ?_ GE230.out|refine bS ?_ GE231.out|refine bS ?_ GE232.out|refine bS ?_ GE233.out)|exact HB.out)⟩
def gangerref01_less.f (a0_0 : Bool) (a0_1 : Int) (a0_2 : Int) (a1_0 : Bool) (a1_1 : Int) (a1_2 : Int) : Option (Bool):=if a0_1 < a1_1 then (some true) else (if a0_1 = a1_1 then (some (decide (a0_2 < a1_2))) else (some false))
set_option maxHeartbeats 8000000 in
set_option maxRecDepth 100000 in
theorem gangerref01_less.calls (a0_0 : Bool) (a0_1 : Int) (a0_2 : Int) (a1_0 : Bool) (a1_1 : Int) (a1_2 : Int) (r : Bool) (w : World) (h : gangerref01_less.f a0_0 a0_1 a0_2 a1_0 a1_1 a1_2 = some r) :
  Calls Tryd.prog 48 #[.agg #[.bool a0_0,.int .u64 a0_1,.int .u64 a0_2],.agg #[.bool a1_0,.int .u64 a1_1,.int .u64 a1_2]] w fun e w'=>e = .returned (.bool r)∧Below w.heap.size w w':=by
 have hu70:=Tryd.underlying70
 have HB:=Am (Below.refl w.heap.size w)
 have H : (if a0_1 < a1_1 then (some true) else (if a0_1 = a1_1 then (some (decide (a0_2 < a1_2))) else (some false))) = some r:=h
 clear h
 by_cases c3 : a0_1 < a1_1
 ·rw [if_pos c3] at H
  have c3b0 : decide (a0_1 < a1_1) = true:=decide_eq_true c3
  clear c3
  obtain rfl:=Option.some.inj H
  go_enter Tryd.func48,Tryd.ntmps48
  go_wp2_with (first|((with_reducible refine gD (N:=2) rfl ?_);refine box_event ?hg (N:=2) ?hd (cs:=#[.bool a0_0,.int .u64 a0_1,.int .u64 a0_2]) (t:=70) ?hr ?_;(case hd=>rfl);(case hg=>rfl);(case hr=>first|(go_simp;done)|(go_simp;rfl));intro gb234 hg w4 hbox hb;have n0_:=Am (below_step (by repeat (first|(with_reducible first|exact HB.out|apply bL|apply pN|apply bE)|exact HB.out)) hb);have n1_:=Am (hbox);have n2_:=Am ((by rw [hg];exact (bZ (by repeat (first|(with_reducible first|exact HB.out|apply bL|apply pN|apply bE)|exact HB.out))) : w.heap.size≤gb234));have n3_:=n2_;clear HB;have HB:=n0_;have BK234:=n1_;have GW234:=n2_;have GE234:=n3_;clear n0_ n1_ n2_ n3_;clear hb hbox hg)|((with_reducible refine gD (N:=3) rfl ?_);refine box_event ?hg (N:=3) ?hd (cs:=#[.bool a1_0,.int .u64 a1_1,.int .u64 a1_2]) (t:=70) ?hr ?_;(case hd=>rfl);(case hg=>rfl);(case hr=>first|(go_simp;done)|(go_simp;rfl));intro gb235 hg w5 hbox hb;have n0_:=Am (blk_below (g:=gb234) (by (with_reducible repeat (first|refine bN ?_ _|refine bD ?_|refine bA ?_ _));exact BK234.out) hb);have n1_:=Am (below_step (by repeat (first|(with_reducible first|exact HB.out|apply bL|apply pN|apply bE|refine bS ?_ GE234.out)|exact HB.out)) hb);have n2_:=Am (hbox);have n3_:=Am ((by rw [hg];exact (bZ (by repeat (first|(with_reducible first|exact HB.out|apply bL|apply pN|apply bE|refine bS ?_ GE234.out)|exact HB.out))) : w.heap.size≤gb235));have n4_:=n3_;have n5_:=Am ((by rw [hg];exact Nat.ne_of_lt (blk_lt (g:=gb234) (by (with_reducible repeat (first|refine bN ?_ _|refine bD ?_|refine bA ?_ _));exact BK234.out)) : gb234 ≠ gb235));have n6_:=Am ((by rw [hg];exact Nat.ne_of_gt (blk_lt (g:=gb234) (by (with_reducible repeat (first|refine bN ?_ _|refine bD ?_|refine bA ?_ _));exact BK234.out)) : gb235 ≠ gb234));clear BK234;clear HB;have BK234:=n0_;have HB:=n1_;have BK235:=n2_;have GW235:=n3_;have GE235:=n4_;have NB234_235:=n5_;have NB235_234:=n6_;clear n0_ n1_ n2_ n3_ n4_ n5_ n6_;clear hb hbox hg;have hnb6:=NB234_235.out;have hnc6:=NB235_234.out;obtain ⟨X7_0,X7_1,X7_2,Y7_0,Y7_1,Y7_2⟩:=kc3 (w:=w5) (g:=gb234) BK234.out;obtain ⟨X8_0,X8_1,X8_2,Y8_0,Y8_1,Y8_2⟩:=kc3 (w:=w5) (g:=gb235) BK235.out))
  go_ret
  exact ⟨by first|rfl|(simp [errW_none,errW_some] <;> rfl)|(simp [*,errW_none,errW_some] <;> rfl)|(simp [bne,isE_]),by repeat (first|(with_reducible first|exact HB.out|apply bL|apply pN|apply bE|refine bS ?_ GE234.out|refine bS ?_ GE235.out)|exact HB.out)⟩
 rw [if_neg c3] at H
 have c3b0 : decide (a0_1 < a1_1) = false:=decide_eq_false c3
 clear c3
 by_cases c9 : a0_1 = a1_1
 rotate_left
 ·rw [if_neg c9] at H
  have c9b0 : (a0_1 == a1_1) = false:=beq_eq_false_iff_ne.mpr c9
  have c9b1 : (a0_1 != a1_1) = true:=bne_iff_ne.mpr c9
  obtain rfl:=Option.some.inj H
  go_enter Tryd.func48,Tryd.ntmps48
  go_wp2_with (first|((with_reducible refine gD (N:=2) rfl ?_);refine box_event ?hg (N:=2) ?hd (cs:=#[.bool a0_0,.int .u64 a0_1,.int .u64 a0_2]) (t:=70) ?hr ?_;(case hd=>rfl);(case hg=>rfl);(case hr=>first|(go_simp;done)|(go_simp;rfl));intro gb234 hg w15 hbox hb;have n0_:=Am (below_step (by repeat (first|(with_reducible first|exact HB.out|apply bL|apply pN|apply bE)|exact HB.out)) hb);have n1_:=Am (hbox);have n2_:=Am ((by rw [hg];exact (bZ (by repeat (first|(with_reducible first|exact HB.out|apply bL|apply pN|apply bE)|exact HB.out))) : w.heap.size≤gb234));have n3_:=n2_;clear HB;have HB:=n0_;have BK234:=n1_;have GW234:=n2_;have GE234:=n3_;clear n0_ n1_ n2_ n3_;clear hb hbox hg)|((with_reducible refine gD (N:=3) rfl ?_);refine box_event ?hg (N:=3) ?hd (cs:=#[.bool a1_0,.int .u64 a1_1,.int .u64 a1_2]) (t:=70) ?hr ?_;(case hd=>rfl);(case hg=>rfl);(case hr=>first|(go_simp;done)|(go_simp;rfl));intro gb235 hg w16 hbox hb;have n0_:=Am (blk_below (g:=gb234) (by (with_reducible repeat (first|refine bN ?_ _|refine bD ?_|refine bA ?_ _));exact BK234.out) hb);have n1_:=Am (below_step (by repeat (first|(with_reducible first|exact HB.out|apply bL|apply pN|apply bE|refine bS ?_ GE234.out)|exact HB.out)) hb);have n2_:=Am (hbox);have n3_:=Am ((by rw [hg];exact (bZ (by repeat (first|(with_reducible first|exact HB.out|apply bL|apply pN|apply bE|refine bS ?_ GE234.out)|exact HB.out))) : w.heap.size≤gb235));have n4_:=n3_;have n5_:=Am ((by rw [hg];exact Nat.ne_of_lt (blk_lt (g:=gb234) (by (with_reducible repeat (first|refine bN ?_ _|refine bD ?_|refine bA ?_ _));exact BK234.out)) : gb234 ≠ gb235));have n6_:=Am ((by rw [hg];exact Nat.ne_of_gt (blk_lt (g:=gb234) (by (with_reducible repeat (first|refine bN ?_ _|refine bD ?_|refine bA ?_ _));exact BK234.out)) : gb235 ≠ gb234));clear BK234;clear HB;have BK234:=n0_;have HB:=n1_;have BK235:=n2_;have GW235:=n3_;have GE235:=n4_;have NB234_235:=n5_;have NB235_234:=n6_;clear n0_ n1_ n2_ n3_ n4_ n5_ n6_;clear hb hbox hg;have hnb17:=NB234_235.out;have hnc17:=NB235_234.out;obtain ⟨X18_0,X18_1,X18_2,Y18_0,Y18_1,Y18_2⟩:=kc3 (w:=w16) (g:=gb234) BK234.out;obtain ⟨X19_0,X19_1,X19_2,Y19_0,Y19_1,Y19_2⟩:=kc3 (w:=w16) (g:=gb235) BK235.out))
  go_ret
  exact ⟨by first|rfl|(simp [errW_none,errW_some] <;> rfl)|(simp [*,errW_none,errW_some] <;> rfl)|(simp [bne,isE_]),by repeat (first|(with_reducible first|exact HB.out|apply bL|apply pN|apply bE|refine bS ?_ GE234.out|refine bS ?_ GE235.out)|exact HB.out)⟩
 rw [if_pos c9] at H
 have c9b0 : (a0_1 == a1_1) = true:=beq_iff_eq.mpr c9
 have c9b1 : (a0_1 != a1_1) = false:=bne_eq_false_iff_eq.mpr c9
 clear c9
 obtain rfl:=Option.some.inj H
 go_enter Tryd.func48,Tryd.ntmps48
 go_wp2_with (first|((with_reducible refine gD (N:=2) rfl ?_);refine box_event ?hg (N:=2) ?hd (cs:=#[.bool a0_0,.int .u64 a0_1,.int .u64 a0_2]) (t:=70) ?hr ?_;(case hd=>rfl);(case hg=>rfl);(case hr=>first|(go_simp;done)|(go_simp;rfl));intro gb234 hg w10 hbox hb;have n0_:=Am (below_step (by repeat (first|(with_reducible first|exact HB.out|apply bL|apply pN|apply bE)|exact HB.out)) hb);have n1_:=Am (hbox);have n2_:=Am ((by rw [hg];exact (bZ (by repeat (first|(with_reducible first|exact HB.out|apply bL|apply pN|apply bE)|exact HB.out))) : w.heap.size≤gb234));have n3_:=n2_;clear HB;have HB:=n0_;have BK234:=n1_;have GW234:=n2_;have GE234:=n3_;clear n0_ n1_ n2_ n3_;clear hb hbox hg)|((with_reducible refine gD (N:=3) rfl ?_);refine box_event ?hg (N:=3) ?hd (cs:=#[.bool a1_0,.int .u64 a1_1,.int .u64 a1_2]) (t:=70) ?hr ?_;(case hd=>rfl);(case hg=>rfl);(case hr=>first|(go_simp;done)|(go_simp;rfl));intro gb235 hg w11 hbox hb;have n0_:=Am (blk_below (g:=gb234) (by (with_reducible repeat (first|refine bN ?_ _|refine bD ?_|refine bA ?_ _));exact BK234.out) hb);have n1_:=Am (below_step (by repeat (first|(with_reducible first|exact HB.out|apply bL|apply pN|apply bE|refine bS ?_ GE234.out)|exact HB.out)) hb);have n2_:=Am (hbox);have n3_:=Am ((by rw [hg];exact (bZ (by repeat (first|(with_reducible first|exact HB.out|apply bL|apply pN|apply bE|refine bS ?_ GE234.out)|exact HB.out))) : w.heap.size≤gb235));have n4_:=n3_;have n5_:=Am ((by rw [hg];exact Nat.ne_of_lt (blk_lt (g:=gb234) (by (with_reducible repeat (first|refine bN ?_ _|refine bD ?_|refine bA ?_ _));exact BK234.out)) : gb234 ≠ gb235));have n6_:=Am ((by rw [hg];exact Nat.ne_of_gt (blk_lt (g:=gb234) (by (with_reducible repeat (first|refine bN ?_ _|refine bD ?_|refine bA ?_ _));exact BK234.out)) : gb235 ≠ gb234));clear BK234;clear HB;have BK234:=n0_;have HB:=n1_;have BK235:=n2_;have GW235:=n3_;have GE235:=n4_;have NB234_235:=n5_;have NB235_234:=n6_;clear n0_ n1_ n2_ n3_ n4_ n5_ n6_;clear hb hbox hg;have hnb12:=NB234_235.out;have hnc12:=NB235_234.out;obtain ⟨X13_0,X13_1,X13_2,Y13_0,Y13_1,Y13_2⟩:=kc3 (w:=w11) (g:=gb234) BK234.out;obtain ⟨X14_0,X14_1,X14_2,Y14_0,Y14_1,Y14_2⟩:=kc3 (w:=w11) (g:=gb235) BK235.out))
 go_ret
 exact ⟨by first|rfl|(simp [errW_none,errW_some] <;> rfl)|(simp [*,errW_none,errW_some] <;> rfl)|(simp [bne,isE_]),by repeat (first|(with_reducible first|exact HB.out|apply bL|apply pN|apply bE|refine bS ?_ GE234.out|refine bS ?_ GE235.out)|exact HB.out)⟩
def gangerref01_minus.f (a0_0 : Bool) (a0_1 : Int) (a0_2 : Int) (a1_0 : Bool) (a1_1 : Int) (a1_2 : Int) : Option (Bool × Int × Int):=if a0_2 < a1_2 then (some (a0_0,IntKind.u64.wrap ((IntKind.u64.wrap (a0_1 - a1_1)) - 1),IntKind.u64.wrap (a0_2 - a1_2))) else (some (a0_0,IntKind.u64.wrap (a0_1 - a1_1),IntKind.u64.wrap (a0_2 - a1_2)))
set_option maxHeartbeats 8000000 in
set_option maxRecDepth 100000 in
theorem gangerref01_minus.calls (a0_0 : Bool) (a0_1 : Int) (a0_2 : Int) (a1_0 : Bool) (a1_1 : Int) (a1_2 : Int) (r1 : Bool) (r2 : Int) (r3 : Int) (w : World) (h : gangerref01_minus.f a0_0 a0_1 a0_2 a1_0 a1_1 a1_2 = some (r1,r2,r3)) :
  Calls Tryd.prog 49 #[.agg #[.bool a0_0,.int .u64 a0_1,.int .u64 a0_2],.agg #[.bool a1_0,.int .u64 a1_1,.int .u64 a1_2]] w fun e w'=>e = .returned (.agg #[.bool r1,.int .u64 r2,.int .u64 r3])∧Below w.heap.size w w':=by
 have hu70:=Tryd.underlying70
 have HB:=Am (Below.refl w.heap.size w)
 have H : (if a0_2 < a1_2 then (some (a0_0,IntKind.u64.wrap ((IntKind.u64.wrap (a0_1 - a1_1)) - 1),IntKind.u64.wrap (a0_2 - a1_2))) else (some (a0_0,IntKind.u64.wrap (a0_1 - a1_1),IntKind.u64.wrap (a0_2 - a1_2)))) = some (r1,r2,r3):=h
 clear h
 by_cases c3 : a0_2 < a1_2
 rotate_left
 ·rw [if_neg c3] at H
  have c3b0 : decide (a0_2 < a1_2) = false:=decide_eq_false c3
  clear c3
  simp only [Option.some.injEq,Prod.mk.injEq] at H
  obtain ⟨rfl,rfl,rfl⟩:=H
  go_enter Tryd.func49,Tryd.ntmps49
  go_wp2_with (first|((with_reducible refine gD (N:=2) rfl ?_);refine box_event ?hg (N:=2) ?hd (cs:=#[.bool a0_0,.int .u64 a0_1,.int .u64 a0_2]) (t:=70) ?hr ?_;(case hd=>rfl);(case hg=>rfl);(case hr=>first|(go_simp;done)|(go_simp;rfl));intro gb236 hg w20 hbox hb;have n0_:=Am (below_step (by repeat (first|(with_reducible first|exact HB.out|apply bL|apply pN|apply bE)|exact HB.out)) hb);have n1_:=Am (hbox);have n2_:=Am ((by rw [hg];exact (bZ (by repeat (first|(with_reducible first|exact HB.out|apply bL|apply pN|apply bE)|exact HB.out))) : w.heap.size≤gb236));have n3_:=n2_;clear HB;have HB:=n0_;have BK236:=n1_;have GW236:=n2_;have GE236:=n3_;clear n0_ n1_ n2_ n3_;clear hb hbox hg)|((with_reducible refine gD (N:=3) rfl ?_);refine box_event ?hg (N:=3) ?hd (cs:=#[.bool a1_0,.int .u64 a1_1,.int .u64 a1_2]) (t:=70) ?hr ?_;(case hd=>rfl);(case hg=>rfl);(case hr=>first|(go_simp;done)|(go_simp;rfl));intro gb237 hg w21 hbox hb;have n0_:=Am (blk_below (g:=gb236) (by (with_reducible repeat (first|refine bN ?_ _|refine bD ?_|refine bA ?_ _));exact BK236.out) hb);have n1_:=Am (below_step (by repeat (first|(with_reducible first|exact HB.out|apply bL|apply pN|apply bE|refine bS ?_ GE236.out)|exact HB.out)) hb);have n2_:=Am (hbox);have n3_:=Am ((by rw [hg];exact (bZ (by repeat (first|(with_reducible first|exact HB.out|apply bL|apply pN|apply bE|refine bS ?_ GE236.out)|exact HB.out))) : w.heap.size≤gb237));have n4_:=n3_;have n5_:=Am ((by rw [hg];exact Nat.ne_of_lt (blk_lt (g:=gb236) (by (with_reducible repeat (first|refine bN ?_ _|refine bD ?_|refine bA ?_ _));exact BK236.out)) : gb236 ≠ gb237));have n6_:=Am ((by rw [hg];exact Nat.ne_of_gt (blk_lt (g:=gb236) (by (with_reducible repeat (first|refine bN ?_ _|refine bD ?_|refine bA ?_ _));exact BK236.out)) : gb237 ≠ gb236));clear BK236;clear HB;have BK236:=n0_;have HB:=n1_;have BK237:=n2_;have GW237:=n3_;have GE237:=n4_;have NB236_237:=n5_;have NB237_236:=n6_;clear n0_ n1_ n2_ n3_ n4_ n5_ n6_;clear hb hbox hg)|((with_reducible refine gD (N:=4) rfl ?_);refine box_event ?hg (N:=4) ?hd (cs:=#[.bool false,.int .u64 0,.int .u64 0]) (t:=70) ?hr ?_;(case hd=>rfl);(case hg=>rfl);(case hr=>first|(go_simp;done)|(go_simp;rfl));intro gb238 hg w22 hbox hb;have n0_:=Am (blk_below (g:=gb236) (by (with_reducible repeat (first|refine bN ?_ _|refine bD ?_|refine bA ?_ _));exact BK236.out) hb);have n1_:=Am (blk_below (g:=gb237) (by (with_reducible repeat (first|refine bN ?_ _|refine bD ?_|refine bA ?_ _));exact BK237.out) hb);have n2_:=Am (below_step (by repeat (first|(with_reducible first|exact HB.out|apply bL|apply pN|apply bE|refine bS ?_ GE236.out|refine bS ?_ GE237.out)|exact HB.out)) hb);have n3_:=Am (hbox);have n4_:=Am ((by rw [hg];exact (bZ (by repeat (first|(with_reducible first|exact HB.out|apply bL|apply pN|apply bE|refine bS ?_ GE236.out|refine bS ?_ GE237.out)|exact HB.out))) : w.heap.size≤gb238));have n5_:=n4_;have n6_:=Am ((by rw [hg];exact Nat.ne_of_lt (blk_lt (g:=gb236) (by (with_reducible repeat (first|refine bN ?_ _|refine bD ?_|refine bA ?_ _));exact BK236.out)) : gb236 ≠ gb238));have n7_:=Am ((by rw [hg];exact Nat.ne_of_gt (blk_lt (g:=gb236) (by (with_reducible repeat (first|refine bN ?_ _|refine bD ?_|refine bA ?_ _));exact BK236.out)) : gb238 ≠ gb236));have n8_:=Am ((by rw [hg];exact Nat.ne_of_lt (blk_lt (g:=gb237) (by (with_reducible repeat (first|refine bN ?_ _|refine bD ?_|refine bA ?_ _));exact BK237.out)) : gb237 ≠ gb238));have n9_:=Am ((by rw [hg];exact Nat.ne_of_gt (blk_lt (g:=gb237) (by (with_reducible repeat (first|refine bN ?_ _|refine bD ?_|refine bA ?_ _));exact BK237.out)) : gb238 ≠ gb237));clear BK236;clear BK237;clear HB;have BK236:=n0_;have BK237:=n1_;have HB:=n2_;have BK238:=n3_;have GW238:=n4_;have GE238:=n5_;have NB236_238:=n6_;have NB238_236:=n7_;have NB237_238:=n8_;have NB238_237:=n9_;clear n0_ n1_ n2_ n3_ n4_ n5_ n6_ n7_ n8_ n9_;clear hb hbox hg;have hnb23:=NB236_237.out;have hnc23:=NB237_236.out;have hnb24:=NB236_238.out;have hnc24:=NB238_236.out;obtain ⟨X25_0,X25_1,X25_2,Y25_0,Y25_1,Y25_2⟩:=kc3 (w:=w22) (g:=gb236) BK236.out;have hnb26:=NB237_238.out;have hnc26:=NB238_237.out;obtain ⟨X27_0,X27_1,X27_2,Y27_0,Y27_1,Y27_2⟩:=kc3 (w:=w22) (g:=gb237) BK237.out)|((with_reducible refine gD (N:=5) rfl ?_);refine box_event ?hg (N:=5) ?hd (cs:=#[.bool false,.int .u64 0,.int .u64 0]) (t:=70) ?hr ?_;(case hd=>rfl);(case hg=>rfl);(case hr=>first|(go_simp;done)|(go_simp;rfl));intro gb239 hg w28 hbox hb;have n0_:=Am (blk_below (g:=gb236) (by (with_reducible repeat (first|refine bN ?_ _|refine bD ?_|refine bA ?_ _));exact BK236.out) hb);have n1_:=Am (blk_below (g:=gb237) (by (with_reducible repeat (first|refine bN ?_ _|refine bD ?_|refine bA ?_ _));exact BK237.out) hb);have n2_:=Am (blk_below (g:=gb238) (by (with_reducible repeat (first|refine bN ?_ _|refine bD ?_|refine bA ?_ _));exact BK238.out) hb);have n3_:=Am (below_step (by repeat (first|(with_reducible first|exact HB.out|apply bL|apply pN|apply bE|refine bS ?_ GE236.out|refine bS ?_ GE237.out|refine bS ?_ GE238.out)|exact HB.out)) hb);have n4_:=Am (hbox);have n5_:=Am ((by rw [hg];exact (bZ (by repeat (first|(with_reducible first|exact HB.out|apply bL|apply pN|apply bE|refine bS ?_ GE236.out|refine bS ?_ GE237.out|refine bS ?_ GE238.out)|exact HB.out))) : w.heap.size≤gb239));have n6_:=n5_;have n7_:=Am ((by rw [hg];exact Nat.ne_of_lt (blk_lt (g:=gb236) (by (with_reducible repeat (first|refine bN ?_ _|refine bD ?_|refine bA ?_ _));exact BK236.out)) : gb236 ≠ gb239));have n8_:=Am ((by rw [hg];exact Nat.ne_of_gt (blk_lt (g:=gb236) (by (with_reducible repeat (first|refine bN ?_ _|refine bD ?_|refine bA ?_ _));exact BK236.out)) : gb239 ≠ gb236));have n9_:=Am ((by rw [hg];exact Nat.ne_of_lt (blk_lt (g:=gb237) (by (with_reducible repeat (first|refine bN ?_ _|refine bD ?_|refine bA ?_ _));exact BK237.out)) : gb237 ≠ gb239));have n10_:=Am ((by rw [hg];exact Nat.ne_of_gt (blk_lt (g:=gb237) (by (with_reducible repeat (first|refine bN ?_ _|refine bD ?_|refine bA ?_ _));exact BK237.out)) : gb239 ≠ gb237));have n11_:=Am ((by rw [hg];exact Nat.ne_of_lt (blk_lt (g:=gb238) (by (with_reducible repeat (first|refine bN ?_ _|refine bD ?_|refine bA ?_ _));exact BK238.out)) : gb238 ≠ gb239));have n12_:=Am ((by rw [hg];exact Nat.ne_of_gt (blk_lt (g:=gb238) (by (with_reducible repeat (first|refine bN ?_ _|refine bD ?_|refine bA ?_ _));exact BK238.out)) : gb239 ≠ gb238));clear BK236;clear BK237;clear BK238;clear HB;have BK236:=n0_;have BK237:=n1_;have BK238:=n2_;have HB:=n3_;have BK239:=n4_;have GW239:=n5_;have GE239:=n6_;have NB236_239:=n7_;have NB239_236:=n8_;have NB237_239:=n9_;have NB239_237:=n10_;have NB238_239:=n11_;have NB239_238:=n12_;clear n0_ n1_ n2_ n3_ n4_ n5_ n6_ n7_ n8_ n9_ n10_ n11_ n12_;clear hb hbox hg;have hnb29:=NB239_236.out;have hnc29:=NB236_239.out;have hnb30:=NB239_237.out;have hnc30:=NB237_239.out;have hnb31:=NB239_238.out;have hnc31:=NB238_239.out;obtain ⟨X32_0,X32_1,X32_2,Y32_0,Y32_1,Y32_2⟩:=kc3 (w:=w28) (g:=gb239) BK239.out;obtain ⟨X33_0,X33_1,X33_2,Y33_0,Y33_1,Y33_2⟩:=kc3 (w:=w28) (g:=gb236) BK236.out;obtain ⟨X34_0,X34_1,X34_2,Y34_0,Y34_1,Y34_2⟩:=kc3 (w:=w28) (g:=gb237) BK237.out;obtain ⟨X35_0,X35_1,X35_2,Y35_0,Y35_1,Y35_2⟩:=kc3 (w:=w28) (g:=gb238) BK238.out))
  refine bodyPost_ret (results_cell_row rfl _ _ gb238 70 #[.bool a0_0,.int .u64 (IntKind.u64.wrap (a0_1 - a1_1)),.int .u64 (IntKind.u64.wrap (a0_2 - a1_2))] (0,0) _ rfl (by (with_reducible repeat (first|refine bN ?_ _|refine bD ?_|refine bA ?_ _));refine blk_put (cs:=#[.bool a0_0,.int .u64 (IntKind.u64.wrap (a0_1 - a1_1)),.int .u64 0]) ?_ 2 _ rfl;(with_reducible repeat (first|refine bN ?_ _|refine bD ?_|refine bA ?_ _));refine blk_put (cs:=#[.bool a0_0,.int .u64 0,.int .u64 0]) ?_ 1 _ rfl;(with_reducible repeat (first|refine bN ?_ _|refine bD ?_|refine bA ?_ _));refine blk_put (cs:=#[.bool false,.int .u64 0,.int .u64 0]) ?_ 0 _ rfl;(with_reducible repeat (first|refine bN ?_ _|refine bD ?_|refine bA ?_ _));refine blk_far ?_ NB238_239.out _;(with_reducible repeat (first|refine bN ?_ _|refine bD ?_|refine bA ?_ _));refine blk_far ?_ NB238_239.out _;(with_reducible repeat (first|refine bN ?_ _|refine bD ?_|refine bA ?_ _));refine blk_far ?_ NB238_239.out _;(with_reducible repeat (first|refine bN ?_ _|refine bD ?_|refine bA ?_ _));exact BK238.out) Tryd.underlying70 rfl (by kernel_rfl)) rfl ?_
  exact ⟨by first|rfl|(simp [errW_none,errW_some] <;> rfl)|(simp [*,errW_none,errW_some] <;> rfl)|(simp [bne,isE_]),by repeat (first|(with_reducible first|exact HB.out|apply bL|apply pN|apply bE|refine bS ?_ GE236.out|refine bS ?_ GE237.out|refine bS ?_ GE238.out|refine bS ?_ GE239.out)|exact HB.out)⟩
 rw [if_pos c3] at H
 have c3b0 : decide (a0_2 < a1_2) = true:=decide_eq_true c3
 clear c3
 simp only [Option.some.injEq,Prod.mk.injEq] at H
 obtain ⟨rfl,rfl,rfl⟩:=H
 go_enter Tryd.func49,Tryd.ntmps49
 go_wp2_with (first|((with_reducible refine gD (N:=2) rfl ?_);refine box_event ?hg (N:=2) ?hd (cs:=#[.bool a0_0,.int .u64 a0_1,.int .u64 a0_2]) (t:=70) ?hr ?_;(case hd=>rfl);(case hg=>rfl);(case hr=>first|(go_simp;done)|(go_simp;rfl));intro gb236 hg w4 hbox hb;have n0_:=Am (below_step (by repeat (first|(with_reducible first|exact HB.out|apply bL|apply pN|apply bE)|exact HB.out)) hb);have n1_:=Am (hbox);have n2_:=Am ((by rw [hg];exact (bZ (by repeat (first|(with_reducible first|exact HB.out|apply bL|apply pN|apply bE)|exact HB.out))) : w.heap.size≤gb236));have n3_:=n2_;clear HB;have HB:=n0_;have BK236:=n1_;have GW236:=n2_;have GE236:=n3_;clear n0_ n1_ n2_ n3_;clear hb hbox hg)|((with_reducible refine gD (N:=3) rfl ?_);refine box_event ?hg (N:=3) ?hd (cs:=#[.bool a1_0,.int .u64 a1_1,.int .u64 a1_2]) (t:=70) ?hr ?_;(case hd=>rfl);(case hg=>rfl);(case hr=>first|(go_simp;done)|(go_simp;rfl));intro gb237 hg w5 hbox hb;have n0_:=Am (blk_below (g:=gb236) (by (with_reducible repeat (first|refine bN ?_ _|refine bD ?_|refine bA ?_ _));exact BK236.out) hb);have n1_:=Am (below_step (by repeat (first|(with_reducible first|exact HB.out|apply bL|apply pN|apply bE|refine bS ?_ GE236.out)|exact HB.out)) hb);have n2_:=Am (hbox);have n3_:=Am ((by rw [hg];exact (bZ (by repeat (first|(with_reducible first|exact HB.out|apply bL|apply pN|apply bE|refine bS ?_ GE236.out)|exact HB.out))) : w.heap.size≤gb237));have n4_:=n3_;have n5_:=Am ((by rw [hg];exact Nat.ne_of_lt (blk_lt (g:=gb236) (by (with_reducible repeat (first|refine bN ?_ _|refine bD ?_|refine bA ?_ _));exact BK236.out)) : gb236 ≠ gb237));have n6_:=Am ((by rw [hg];exact Nat.ne_of_gt (blk_lt (g:=gb236) (by (with_reducible repeat (first|refine bN ?_ _|refine bD ?_|refine bA ?_ _));exact BK236.out)) : gb237 ≠ gb236));clear BK236;clear HB;have BK236:=n0_;have HB:=n1_;have BK237:=n2_;have GW237:=n3_;have GE237:=n4_;have NB236_237:=n5_;have NB237_236:=n6_;clear n0_ n1_ n2_ n3_ n4_ n5_ n6_;clear hb hbox hg)|((with_reducible refine gD (N:=4) rfl ?_);refine box_event ?hg (N:=4) ?hd (cs:=#[.bool false,.int .u64 0,.int .u64 0]) (t:=70) ?hr ?_;(case hd=>rfl);(case hg=>rfl);(case hr=>first|(go_simp;done)|(go_simp;rfl));intro gb238 hg w6 hbox hb;have n0_:=Am (blk_below (g:=gb236) (by (with_reducible repeat (first|refine bN ?_ _|refine bD ?_|refine bA ?_ _));exact BK236.out) hb);have n1_:=Am (blk_below (g:=gb237) (by (with_reducible repeat (first|refine bN ?_ _|refine bD ?_|refine bA ?_ _));exact BK237.out) hb);have n2_:=Am (below_step (by repeat (first|(with_reducible first|exact HB.out|apply bL|apply pN|apply bE|refine bS ?_ GE236.out|refine bS ?_ GE237.out)|exact HB.out)) hb);have n3_:=Am (hbox);have n4_:=Am ((by rw [hg];exact (bZ (by repeat (first|(with_reducible first|exact HB.out|apply bL|apply pN|apply bE|refine bS ?_ GE236.out|refine bS ?_ GE237.out)|exact HB.out))) : w.heap.size≤gb238));have n5_:=n4_;have n6_:=Am ((by rw [hg];exact Nat.ne_of_lt (blk_lt (g:=gb236) (by (with_reducible repeat (first|refine bN ?_ _|refine bD ?_|refine bA ?_ _));exact BK236.out)) : gb236 ≠ gb238));have n7_:=Am ((by rw [hg];exact Nat.ne_of_gt (blk_lt (g:=gb236) (by (with_reducible repeat (first|refine bN ?_ _|refine bD ?_|refine bA ?_ _));exact BK236.out)) : gb238 ≠ gb236));have n8_:=Am ((by rw [hg];exact Nat.ne_of_lt (blk_lt (g:=gb237) (by (with_reducible repeat (first|refine bN ?_ _|refine bD ?_|refine bA ?_ _));exact BK237.out)) : gb237 ≠ gb238));have n9_:=Am ((by rw [hg];exact Nat.ne_of_gt (blk_lt (g:=gb237) (by (with_reducible repeat (first|refine bN ?_ _|refine bD ?_|refine bA ?_ _));exact BK237.out)) : gb238 ≠ gb237));clear BK236;clear BK237;clear HB;have BK236:=n0_;have BK237:=n1_;have HB:=n2_;have BK238:=n3_;have GW238:=n4_;have GE238:=n5_;have NB236_238:=n6_;have NB238_236:=n7_;have NB237_238:=n8_;have NB238_237:=n9_;clear n0_ n1_ n2_ n3_ n4_ n5_ n6_ n7_ n8_ n9_;clear hb hbox hg;have hnb7:=NB236_237.out;have hnc7:=NB237_236.out;have hnb8:=NB236_238.out;have hnc8:=NB238_236.out;obtain ⟨X9_0,X9_1,X9_2,Y9_0,Y9_1,Y9_2⟩:=kc3 (w:=w6) (g:=gb236) BK236.out;have hnb10:=NB237_238.out;have hnc10:=NB238_237.out;obtain ⟨X11_0,X11_1,X11_2,Y11_0,Y11_1,Y11_2⟩:=kc3 (w:=w6) (g:=gb237) BK237.out)|((with_reducible refine gD (N:=5) rfl ?_);refine box_event ?hg (N:=5) ?hd (cs:=#[.bool false,.int .u64 0,.int .u64 0]) (t:=70) ?hr ?_;(case hd=>rfl);(case hg=>rfl);(case hr=>first|(go_simp;done)|(go_simp;rfl));intro gb239 hg w12 hbox hb;have n0_:=Am (blk_below (g:=gb236) (by (with_reducible repeat (first|refine bN ?_ _|refine bD ?_|refine bA ?_ _));exact BK236.out) hb);have n1_:=Am (blk_below (g:=gb237) (by (with_reducible repeat (first|refine bN ?_ _|refine bD ?_|refine bA ?_ _));exact BK237.out) hb);have n2_:=Am (blk_below (g:=gb238) (by (with_reducible repeat (first|refine bN ?_ _|refine bD ?_|refine bA ?_ _));exact BK238.out) hb);have n3_:=Am (below_step (by repeat (first|(with_reducible first|exact HB.out|apply bL|apply pN|apply bE|refine bS ?_ GE236.out|refine bS ?_ GE237.out|refine bS ?_ GE238.out)|exact HB.out)) hb);have n4_:=Am (hbox);have n5_:=Am ((by rw [hg];exact (bZ (by repeat (first|(with_reducible first|exact HB.out|apply bL|apply pN|apply bE|refine bS ?_ GE236.out|refine bS ?_ GE237.out|refine bS ?_ GE238.out)|exact HB.out))) : w.heap.size≤gb239));have n6_:=n5_;have n7_:=Am ((by rw [hg];exact Nat.ne_of_lt (blk_lt (g:=gb236) (by (with_reducible repeat (first|refine bN ?_ _|refine bD ?_|refine bA ?_ _));exact BK236.out)) : gb236 ≠ gb239));have n8_:=Am ((by rw [hg];exact Nat.ne_of_gt (blk_lt (g:=gb236) (by (with_reducible repeat (first|refine bN ?_ _|refine bD ?_|refine bA ?_ _));exact BK236.out)) : gb239 ≠ gb236));have n9_:=Am ((by rw [hg];exact Nat.ne_of_lt (blk_lt (g:=gb237) (by (with_reducible repeat (first|refine bN ?_ _|refine bD ?_|refine bA ?_ _));exact BK237.out)) : gb237 ≠ gb239));have n10_:=Am ((by rw [hg];exact Nat.ne_of_gt (blk_lt (g:=gb237) (by (with_reducible repeat (first|refine bN ?_ _|refine bD ?_|refine bA ?_ _));exact BK237.out)) : gb239 ≠ gb237));have n11_:=Am ((by rw [hg];exact Nat.ne_of_lt (blk_lt (g:=gb238) (by (with_reducible repeat (first|refine bN ?_ _|refine bD ?_|refine bA ?_ _));exact BK238.out)) : gb238 ≠ gb239));have n12_:=Am ((by rw [hg];exact Nat.ne_of_gt (blk_lt (g:=gb238) (by (with_reducible repeat (first|refine bN ?_ _|refine bD ?_|refine bA ?_ _));exact BK238.out)) : gb239 ≠ gb238));clear BK236;clear BK237;clear BK238;clear HB;have BK236:=n0_;have BK237:=n1_;have BK238:=n2_;have HB:=n3_;have BK239:=n4_;have GW239:=n5_;have GE239:=n6_;have NB236_239:=n7_;have NB239_236:=n8_;have NB237_239:=n9_;have NB239_237:=n10_;have NB238_239:=n11_;have NB239_238:=n12_;clear n0_ n1_ n2_ n3_ n4_ n5_ n6_ n7_ n8_ n9_ n10_ n11_ n12_;clear hb hbox hg;have hnb13:=NB239_236.out;have hnc13:=NB236_239.out;have hnb14:=NB239_237.out;have hnc14:=NB237_239.out;have hnb15:=NB239_238.out;have hnc15:=NB238_239.out;obtain ⟨X16_0,X16_1,X16_2,Y16_0,Y16_1,Y16_2⟩:=kc3 (w:=w12) (g:=gb239) BK239.out;obtain ⟨X17_0,X17_1,X17_2,Y17_0,Y17_1,Y17_2⟩:=kc3 (w:=w12) (g:=gb236) BK236.out;obtain ⟨X18_0,X18_1,X18_2,Y18_0,Y18_1,Y18_2⟩:=kc3 (w:=w12) (g:=gb237) BK237.out;obtain ⟨X19_0,X19_1,X19_2,Y19_0,Y19_1,Y19_2⟩:=kc3 (w:=w12) (g:=gb238) BK238.out))
 refine bodyPost_ret (results_cell_row rfl _ _ gb238 70 #[.bool a0_0,.int .u64 (IntKind.u64.wrap ((IntKind.u64.wrap (a0_1 - a1_1)) - 1)),.int .u64 (IntKind.u64.wrap (a0_2 - a1_2))] (0,0) _ rfl (by (with_reducible repeat (first|refine bN ?_ _|refine bD ?_|refine bA ?_ _));refine blk_put (cs:=#[.bool a0_0,.int .u64 (IntKind.u64.wrap ((IntKind.u64.wrap (a0_1 - a1_1)) - 1)),.int .u64 0]) ?_ 2 _ rfl;(with_reducible repeat (first|refine bN ?_ _|refine bD ?_|refine bA ?_ _));refine blk_put (cs:=#[.bool a0_0,.int .u64 0,.int .u64 0]) ?_ 1 _ rfl;(with_reducible repeat (first|refine bN ?_ _|refine bD ?_|refine bA ?_ _));refine blk_put (cs:=#[.bool false,.int .u64 0,.int .u64 0]) ?_ 0 _ rfl;(with_reducible repeat (first|refine bN ?_ _|refine bD ?_|refine bA ?_ _));refine blk_far ?_ NB238_239.out _;(with_reducible repeat (first|refine bN ?_ _|refine bD ?_|refine bA ?_ _));refine blk_far ?_ NB238_239.out _;(with_reducible repeat (first|refine bN ?_ _|refine bD ?_|refine bA ?_ _));refine blk_far ?_ NB238_239.out _;(with_reducible repeat (first|refine bN ?_ _|refine bD ?_|refine bA ?_ _));refine blk_far ?_ NB238_239.out _;(with_reducible repeat (first|refine bN ?_ _|refine bD ?_|refine bA ?_ _));exact BK238.out) Tryd.underlying70 rfl (by kernel_rfl)) rfl ?_
 exact ⟨by first|rfl|(simp [errW_none,errW_some] <;> rfl)|(simp [*,errW_none,errW_some] <;> rfl)|(simp [bne,isE_]),by repeat (first|(with_reducible first|exact HB.out|apply bL|apply pN|apply bE|refine bS ?_ GE236.out|refine bS ?_ GE237.out|refine bS ?_ GE238.out|refine bS ?_ GE239.out)|exact HB.out)⟩
def gangerref01_Plus.f (a0_0 : Bool) (a0_1 : Int) (a0_2 : Int) (a1_0 : Bool) (a1_1 : Int) (a1_2 : Int) : Option (Bool × Int × Int):=if (a0_0 == a1_0) = true then ((gangerref01_plus.f a0_0 a0_1 a0_2 a1_0 a1_1 a1_2).bind fun bt243=>(some (bt243.1,bt243.2.1,bt243.2.2))) else ((gangerref01_less.f a0_0 a0_1 a0_2 a1_0 a1_1 a1_2).bind fun t246=>(if t246 = true then ((gangerref01_minus.f a1_0 a1_1 a1_2 a0_0 a0_1 a0_2).bind fun bt247=>(some (bt247.1,bt247.2.1,bt247.2.2))) else ((gangerref01_minus.f a0_0 a0_1 a0_2 a1_0 a1_1 a1_2).bind fun bt250=>(some (bt250.1,bt250.2.1,bt250.2.2)))))
set_option maxHeartbeats 8000000 in
set_option maxRecDepth 100000 in
theorem gangerref01_Plus.calls (a0_0 : Bool) (a0_1 : Int) (a0_2 : Int) (a1_0 : Bool) (a1_1 : Int) (a1_2 : Int) (r1 : Bool) (r2 : Int) (r3 : Int) (w : World) (h : gangerref01_Plus.f a0_0 a0_1 a0_2 a1_0 a1_1 a1_2 = some (r1,r2,r3)) :
  Calls Tryd.prog 32 #[.agg #[.bool a0_0,.int .u64 a0_1,.int .u64 a0_2],.agg #[.bool a1_0,.int .u64 a1_1,.int .u64 a1_2]] w fun e w'=>e = .returned (.agg #[.bool r1,.int .u64 r2,.int .u64 r3])∧Below w.heap.size w w':=by
 have hu70:=Tryd.underlying70
 have HB:=Am (Below.refl w.heap.size w)
 have H : (if (a0_0 == a1_0) = true then ((gangerref01_plus.f a0_0 a0_1 a0_2 a1_0 a1_1 a1_2).bind fun bt243=>(some (bt243.1,bt243.2.1,bt243.2.2))) else ((gangerref01_less.f a0_0 a0_1 a0_2 a1_0 a1_1 a1_2).bind fun t246=>(if t246 = true then ((gangerref01_minus.f a1_0 a1_1 a1_2 a0_0 a0_1 a0_2).bind fun bt247=>(some (bt247.1,bt247.2.1,bt247.2.2))) else ((gangerref01_minus.f a0_0 a0_1 a0_2 a1_0 a1_1 a1_2).bind fun bt250=>(some (bt250.1,bt250.2.1,bt250.2.2)))))) = some (r1,r2,r3):=h
 clear h
 by_cases c3 : (a0_0 == a1_0) = true
 ·rw [if_pos c3] at H
  have c3b0 : (a0_0 == a1_0) = true:=c3
  (try (have c3b1 : decide (a0_0 = a1_0) = true:=by simpa using c3))
  (try (have c3b2 : (a0_0 == a1_0) = true:=by simpa using c3))
  clear c3
  replace H:=oB H
  obtain ⟨⟨t243,t244,t245⟩,A40,H⟩:=H
  replace H : (some (t243,t244,t245)) = some (r1,r2,r3):=H
  have A4:=Am A40
  clear A40
  simp only [Option.some.injEq,Prod.mk.injEq] at H
  obtain ⟨rfl,rfl,rfl⟩:=H
  go_enter Tryd.func32,Tryd.ntmps32
  go_wp2_with (first|((with_reducible refine gD (N:=2) rfl ?_);refine box_event ?hg (N:=2) ?hd (cs:=#[.bool a0_0,.int .u64 a0_1,.int .u64 a0_2]) (t:=70) ?hr ?_;(case hd=>rfl);(case hg=>rfl);(case hr=>first|(go_simp;done)|(go_simp;rfl));intro gb240 hg w5 hbox hb;have n0_:=Am (below_step (by repeat (first|(with_reducible first|exact HB.out|apply bL|apply pN|apply bE)|exact HB.out)) hb);have n1_:=Am (hbox);have n2_:=Am ((by rw [hg];exact (bZ (by repeat (first|(with_reducible first|exact HB.out|apply bL|apply pN|apply bE)|exact HB.out))) : w.heap.size≤gb240));have n3_:=n2_;clear HB;have HB:=n0_;have BK240:=n1_;have GW240:=n2_;have GE240:=n3_;clear n0_ n1_ n2_ n3_;clear hb hbox hg)|((with_reducible refine gD (N:=3) rfl ?_);refine box_event ?hg (N:=3) ?hd (cs:=#[.bool a1_0,.int .u64 a1_1,.int .u64 a1_2]) (t:=70) ?hr ?_;(case hd=>rfl);(case hg=>rfl);(case hr=>first|(go_simp;done)|(go_simp;rfl));intro gb241 hg w6 hbox hb;have n0_:=Am (blk_below (g:=gb240) (by (with_reducible repeat (first|refine bN ?_ _|refine bD ?_|refine bA ?_ _));exact BK240.out) hb);have n1_:=Am (below_step (by repeat (first|(with_reducible first|exact HB.out|apply bL|apply pN|apply bE|refine bS ?_ GE240.out)|exact HB.out)) hb);have n2_:=Am (hbox);have n3_:=Am ((by rw [hg];exact (bZ (by repeat (first|(with_reducible first|exact HB.out|apply bL|apply pN|apply bE|refine bS ?_ GE240.out)|exact HB.out))) : w.heap.size≤gb241));have n4_:=n3_;have n5_:=Am ((by rw [hg];exact Nat.ne_of_lt (blk_lt (g:=gb240) (by (with_reducible repeat (first|refine bN ?_ _|refine bD ?_|refine bA ?_ _));exact BK240.out)) : gb240 ≠ gb241));have n6_:=Am ((by rw [hg];exact Nat.ne_of_gt (blk_lt (g:=gb240) (by (with_reducible repeat (first|refine bN ?_ _|refine bD ?_|refine bA ?_ _));exact BK240.out)) : gb241 ≠ gb240));clear BK240;clear HB;have BK240:=n0_;have HB:=n1_;have BK241:=n2_;have GW241:=n3_;have GE241:=n4_;have NB240_241:=n5_;have NB241_240:=n6_;clear n0_ n1_ n2_ n3_ n4_ n5_ n6_;clear hb hbox hg)|((with_reducible refine gD (N:=4) rfl ?_);refine box_event ?hg (N:=4) ?hd (cs:=#[.bool false,.int .u64 0,.int .u64 0]) (t:=70) ?hr ?_;(case hd=>rfl);(case hg=>rfl);(case hr=>first|(go_simp;done)|(go_simp;rfl));intro gb242 hg w7 hbox hb;have n0_:=Am (blk_below (g:=gb240) (by (with_reducible repeat (first|refine bN ?_ _|refine bD ?_|refine bA ?_ _));exact BK240.out) hb);have n1_:=Am (blk_below (g:=gb241) (by (with_reducible repeat (first|refine bN ?_ _|refine bD ?_|refine bA ?_ _));exact BK241.out) hb);have n2_:=Am (below_step (by repeat (first|(with_reducible first|exact HB.out|apply bL|apply pN|apply bE|refine bS ?_ GE240.out|refine bS ?_ GE241.out)|exact HB.out)) hb);have n3_:=Am (hbox);have n4_:=Am ((by rw [hg];exact (bZ (by repeat (first|(with_reducible first|exact HB.out|apply bL|apply pN|apply bE|refine bS ?_ GE240.out|refine bS ?_ GE241.out)|exact HB.out))) : w.heap.size≤gb242));have n5_:=n4_;have n6_:=Am ((by rw [hg];exact Nat.ne_of_lt (blk_lt (g:=gb240) (by (with_reducible repeat (first|refine bN ?_ _|refine bD ?_|refine bA ?_ _));exact BK240.out)) : gb240 ≠ gb242));have n7_:=Am ((by rw [hg];exact Nat.ne_of_gt (blk_lt (g:=gb240) (by (with_reducible repeat (first|refine bN ?_ _|refine bD ?_|refine bA ?_ _));exact BK240.out)) : gb242 ≠ gb240));have n8_:=Am ((by rw [hg];exact Nat.ne_of_lt (blk_lt (g:=gb241) (by (with_reducible repeat (first|refine bN ?_ _|refine bD ?_|refine bA ?_ _));exact BK241.out)) : gb241 ≠ gb242));have n9_:=Am ((by rw [hg];exact Nat.ne_of_gt (blk_lt (g:=gb241) (by (with_reducible repeat (first|refine bN ?_ _|refine bD ?_|refine bA ?_ _));exact BK241.out)) : gb242 ≠ gb241));clear BK240;clear BK241;clear HB;have BK240:=n0_;have BK241:=n1_;have HB:=n2_;have BK242:=n3_;have GW242:=n4_;have GE242:=n5_;have NB240_242:=n6_;have NB242_240:=n7_;have NB241_242:=n8_;have NB242_241:=n9_;clear n0_ n1_ n2_ n3_ n4_ n5_ n6_ n7_ n8_ n9_;clear hb hbox hg;have hnb8:=NB240_241.out;have hnc8:=NB241_240.out;have hnb9:=NB240_242.out;have hnc9:=NB242_240.out;obtain ⟨X10_0,X10_1,X10_2,Y10_0,Y10_1,Y10_2⟩:=kc3 (w:=w7) (g:=gb240) BK240.out;have hnb11:=NB241_242.out;have hnc11:=NB242_241.out;obtain ⟨X12_0,X12_1,X12_2,Y12_0,Y12_1,Y12_2⟩:=kc3 (w:=w7) (g:=gb241) BK241.out)|((with_reducible refine gC (f:=47) rfl ?_);refine goesL_ (some 12) rfl rfl Tryd.func47 (by kernel_rfl) rfl #[.agg #[.bool a0_0,.int .u64 a0_1,.int .u64 a0_2],.agg #[.bool a1_0,.int .u64 a1_1,.int .u64 a1_2]] rfl (by (try simp only [mT,mC,mN]);first|done|rfl|(simp only [lD,lT];rfl)) ?_;(with_reducible refine (gangerref01_plus.calls a0_0 a0_1 a0_2 a1_0 a1_1 a1_2 t243 t244 t245 _ A4.out).mono ?_);rintro e w13 ⟨rfl,hb⟩;refine ⟨_,rfl,?_⟩;have n0_:=Am (blk_below (g:=gb240) (by (with_reducible repeat (first|refine bN ?_ _|refine bD ?_|refine bA ?_ _));exact BK240.out) hb);have n1_:=Am (blk_below (g:=gb241) (by (with_reducible repeat (first|refine bN ?_ _|refine bD ?_|refine bA ?_ _));exact BK241.out) hb);have n2_:=Am (blk_below (g:=gb242) (by (with_reducible repeat (first|refine bN ?_ _|refine bD ?_|refine bA ?_ _));exact BK242.out) hb);have n3_:=Am (below_step (by repeat (first|(with_reducible first|exact HB.out|apply bL|apply pN|apply bE|refine bS ?_ GE240.out|refine bS ?_ GE241.out|refine bS ?_ GE242.out)|exact HB.out)) hb);clear BK240;clear BK241;clear BK242;clear HB;have BK240:=n0_;have BK241:=n1_;have BK242:=n2_;have HB:=n3_;clear n0_ n1_ n2_ n3_;obtain ⟨X14_0,X14_1,X14_2,Y14_0,Y14_1,Y14_2⟩:=kc3 (w:=w13) (g:=gb242) BK242.out))
  refine bodyPost_ret (results_cell_row rfl _ _ gb242 70 #[.bool t243,.int .u64 t244,.int .u64 t245] (0,0) _ rfl (by (with_reducible repeat (first|refine bN ?_ _|refine bD ?_|refine bA ?_ _));refine blk_put (cs:=#[.bool t243,.int .u64 t244,.int .u64 0]) ?_ 2 _ rfl;(with_reducible repeat (first|refine bN ?_ _|refine bD ?_|refine bA ?_ _));refine blk_put (cs:=#[.bool t243,.int .u64 0,.int .u64 0]) ?_ 1 _ rfl;(with_reducible repeat (first|refine bN ?_ _|refine bD ?_|refine bA ?_ _));refine blk_put (cs:=#[.bool false,.int .u64 0,.int .u64 0]) ?_ 0 _ rfl;(with_reducible repeat (first|refine bN ?_ _|refine bD ?_|refine bA ?_ _));exact BK242.out) Tryd.underlying70 rfl (by kernel_rfl)) rfl ?_
  exact ⟨by first|rfl|(simp [errW_none,errW_some] <;> rfl)|(simp [*,errW_none,errW_some] <;> rfl)|(simp [bne,isE_]),by repeat (first|(with_reducible first|exact HB.out|apply bL|apply pN|apply bE|refine bS ?_ GE240.out|refine bS ?_ GE241.out|refine bS ?_ GE242.out)|exact HB.out)⟩
 rw [if_neg c3] at H
 have c3b0 : (a0_0 == a1_0) = false:=by simpa using c3
 (try (have c3b1 : decide (a0_0 = a1_0) = false:=by simpa using c3))
 (try (have c3b2 : (a0_0 == a1_0) = false:=by simpa using c3))
 (try (have c3b3 : ¬ (a0_0 = a1_0):=by simpa using c3))
 clear c3
 replace H:=oB H
 obtain ⟨t246,A150,H⟩:=H
 try dsimp only at H
 have A15:=Am A150
 clear A150
 by_cases c16 : t246 = true
 ·subst c16
  have H1 : ((gangerref01_minus.f a1_0 a1_1 a1_2 a0_0 a0_1 a0_2).bind fun bt247=>(some (bt247.1,bt247.2.1,bt247.2.2))) = some (r1,r2,r3):=by rw [if_pos rfl] at H;exact H
  clear H
  have H:=H1
  clear H1
  replace H:=oB H
  obtain ⟨⟨t247,t248,t249⟩,A170,H⟩:=H
  replace H : (some (t247,t248,t249)) = some (r1,r2,r3):=H
  have A17:=Am A170
  clear A170
  simp only [Option.some.injEq,Prod.mk.injEq] at H
  obtain ⟨rfl,rfl,rfl⟩:=H
  go_enter Tryd.func32,Tryd.ntmps32
  go_wp2_with (first|((with_reducible refine gD (N:=2) rfl ?_);refine box_event ?hg (N:=2) ?hd (cs:=#[.bool a0_0,.int .u64 a0_1,.int .u64 a0_2]) (t:=70) ?hr ?_;(case hd=>rfl);(case hg=>rfl);(case hr=>first|(go_simp;done)|(go_simp;rfl));intro gb240 hg w18 hbox hb;have n0_:=Am (below_step (by repeat (first|(with_reducible first|exact HB.out|apply bL|apply pN|apply bE)|exact HB.out)) hb);have n1_:=Am (hbox);have n2_:=Am ((by rw [hg];exact (bZ (by repeat (first|(with_reducible first|exact HB.out|apply bL|apply pN|apply bE)|exact HB.out))) : w.heap.size≤gb240));have n3_:=n2_;clear HB;have HB:=n0_;have BK240:=n1_;have GW240:=n2_;have GE240:=n3_;clear n0_ n1_ n2_ n3_;clear hb hbox hg)|((with_reducible refine gD (N:=3) rfl ?_);refine box_event ?hg (N:=3) ?hd (cs:=#[.bool a1_0,.int .u64 a1_1,.int .u64 a1_2]) (t:=70) ?hr ?_;(case hd=>rfl);(case hg=>rfl);(case hr=>first|(go_simp;done)|(go_simp;rfl));intro gb241 hg w19 hbox hb;have n0_:=Am (blk_below (g:=gb240) (by (with_reducible repeat (first|refine bN ?_ _|refine bD ?_|refine bA ?_ _));exact BK240.out) hb);have n1_:=Am (below_step (by repeat (first|(with_reducible first|exact HB.out|apply bL|apply pN|apply bE|refine bS ?_ GE240.out)|exact HB.out)) hb);have n2_:=Am (hbox);have n3_:=Am ((by rw [hg];exact (bZ (by repeat (first|(with_reducible first|exact HB.out|apply bL|apply pN|apply bE|refine bS ?_ GE240.out)|exact HB.out))) : w.heap.size≤gb241));have n4_:=n3_;have n5_:=Am ((by rw [hg];exact Nat.ne_of_lt (blk_lt (g:=gb240) (by (with_reducible repeat (first|refine bN ?_ _|refine bD ?_|refine bA ?_ _));exact BK240.out)) : gb240 ≠ gb241));have n6_:=Am ((by rw [hg];exact Nat.ne_of_gt (blk_lt (g:=gb240) (by (with_reducible repeat (first|refine bN ?_ _|refine bD ?_|refine bA ?_ _));exact BK240.out)) : gb241 ≠ gb240));clear BK240;clear HB;have BK240:=n0_;have HB:=n1_;have BK241:=n2_;have GW241:=n3_;have GE241:=n4_;have NB240_241:=n5_;have NB241_240:=n6_;clear n0_ n1_ n2_ n3_ n4_ n5_ n6_;clear hb hbox hg)|((with_reducible refine gD (N:=4) rfl ?_);refine box_event ?hg (N:=4) ?hd (cs:=#[.bool false,.int .u64 0,.int .u64 0]) (t:=70) ?hr ?_;(case hd=>rfl);(case hg=>rfl);(case hr=>first|(go_simp;done)|(go_simp;rfl));intro gb242 hg w20 hbox hb;have n0_:=Am (blk_below (g:=gb240) (by (with_reducible repeat (first|refine bN ?_ _|refine bD ?_|refine bA ?_ _));exact BK240.out) hb);have n1_:=Am (blk_below (g:=gb241) (by (with_reducible repeat (first|refine bN ?_ _|refine bD ?_|refine bA ?_ _));exact BK241.out) hb);have n2_:=Am (below_step (by repeat (first|(with_reducible first|exact HB.out|apply bL|apply pN|apply bE|refine bS ?_ GE240.out|refine bS ?_ GE241.out)|exact HB.out)) hb);have n3_:=Am (hbox);have n4_:=Am ((by rw [hg];exact (bZ (by repeat (first|(with_reducible first|exact HB.out|apply bL|apply pN|apply bE|refine bS ?_ GE240.out|refine bS ?_ GE241.out)|exact HB.out))) : w.heap.size≤gb242));have n5_:=n4_;have n6_:=Am ((by rw [hg];exact Nat.ne_of_lt (blk_lt (g:=gb240) (by (with_reducible repeat (first|refine bN ?_ _|refine bD ?_|refine bA ?_ _));exact BK240.out)) : gb240 ≠ gb242));have n7_:=Am ((by rw [hg];exact Nat.ne_of_gt (blk_lt (g:=gb240) (by (with_reducible repeat (first|refine bN ?_ _|refine bD ?_|refine bA ?_ _));exact BK240.out)) : gb242 ≠ gb240));have n8_:=Am ((by rw [hg];exact Nat.ne_of_lt (blk_lt (g:=gb241) (by (with_reducible repeat (first|refine bN ?_ _|refine bD ?_|refine bA ?_ _));exact BK241.out)) : gb241 ≠ gb242));have n9_:=Am ((by rw [hg];exact Nat.ne_of_gt (blk_lt (g:=gb241) (by (with_reducible repeat (first|refine bN ?_ _|refine bD ?_|refine bA ?_ _));exact BK241.out)) : gb242 ≠ gb241));clear BK240;clear BK241;clear HB;have BK240:=n0_;have BK241:=n1_;have HB:=n2_;have BK242:=n3_;have GW242:=n4_;have GE242:=n5_;have NB240_242:=n6_;have NB242_240:=n7_;have NB241_242:=n8_;have NB242_241:=n9_;clear n0_ n1_ n2_ n3_ n4_ n5_ n6_ n7_ n8_ n9_;clear hb hbox hg;have hnb21:=NB240_241.out;have hnc21:=NB241_240.out;have hnb22:=NB240_242.out;have hnc22:=NB242_240.out;obtain ⟨X23_0,X23_1,X23_2,Y23_0,Y23_1,Y23_2⟩:=kc3 (w:=w20) (g:=gb240) BK240.out;have hnb24:=NB241_242.out;have hnc24:=NB242_241.out;obtain ⟨X25_0,X25_1,X25_2,Y25_0,Y25_1,Y25_2⟩:=kc3 (w:=w20) (g:=gb241) BK241.out)|((with_reducible refine gC (f:=48) rfl ?_);refine goesL_ (some 15) rfl rfl Tryd.func48 (by kernel_rfl) rfl #[.agg #[.bool a0_0,.int .u64 a0_1,.int .u64 a0_2],.agg #[.bool a1_0,.int .u64 a1_1,.int .u64 a1_2]] rfl (by (try simp only [mT,mC,mN]);first|done|rfl|(simp only [lD,lT];rfl)) ?_;(with_reducible refine (gangerref01_less.calls a0_0 a0_1 a0_2 a1_0 a1_1 a1_2 true _ A15.out).mono ?_);rintro e w26 ⟨rfl,hb⟩;refine ⟨_,rfl,?_⟩;have n0_:=Am (blk_below (g:=gb240) (by (with_reducible repeat (first|refine bN ?_ _|refine bD ?_|refine bA ?_ _));exact BK240.out) hb);have n1_:=Am (blk_below (g:=gb241) (by (with_reducible repeat (first|refine bN ?_ _|refine bD ?_|refine bA ?_ _));exact BK241.out) hb);have n2_:=Am (blk_below (g:=gb242) (by (with_reducible repeat (first|refine bN ?_ _|refine bD ?_|refine bA ?_ _));exact BK242.out) hb);have n3_:=Am (below_step (by repeat (first|(with_reducible first|exact HB.out|apply bL|apply pN|apply bE|refine bS ?_ GE240.out|refine bS ?_ GE241.out|refine bS ?_ GE242.out)|exact HB.out)) hb);clear BK240;clear BK241;clear BK242;clear HB;have BK240:=n0_;have BK241:=n1_;have BK242:=n2_;have HB:=n3_;clear n0_ n1_ n2_ n3_;obtain ⟨X27_0,X27_1,X27_2,Y27_0,Y27_1,Y27_2⟩:=kc3 (w:=w26) (g:=gb241) BK241.out;obtain ⟨X28_0,X28_1,X28_2,Y28_0,Y28_1,Y28_2⟩:=kc3 (w:=w26) (g:=gb240) BK240.out)|((with_reducible refine gC (f:=49) rfl ?_);refine goesL_ (some 18) rfl rfl Tryd.func49 (by kernel_rfl) rfl #[.agg #[.bool a1_0,.int .u64 a1_1,.int .u64 a1_2],.agg #[.bool a0_0,.int .u64 a0_1,.int .u64 a0_2]] rfl (by (try simp only [mT,mC,mN]);first|done|rfl|(simp only [lD,lT];rfl)) ?_;(with_reducible refine (gangerref01_minus.calls a1_0 a1_1 a1_2 a0_0 a0_1 a0_2 t247 t248 t249 _ A17.out).mono ?_);rintro e w29 ⟨rfl,hb⟩;refine ⟨_,rfl,?_⟩;have n0_:=Am (blk_below (g:=gb240) (by (with_reducible repeat (first|refine bN ?_ _|refine bD ?_|refine bA ?_ _));exact BK240.out) hb);have n1_:=Am (blk_below (g:=gb241) (by (with_reducible repeat (first|refine bN ?_ _|refine bD ?_|refine bA ?_ _));exact BK241.out) hb);have n2_:=Am (blk_below (g:=gb242) (by (with_reducible repeat (first|refine bN ?_ _|refine bD ?_|refine bA ?_ _));exact BK242.out) hb);have n3_:=Am (below_step (by repeat (first|(with_reducible first|exact HB.out|apply bL|apply pN|apply bE|refine bS ?_ GE240.out|refine bS ?_ GE241.out|refine bS ?_ GE242.out)|exact HB.out)) hb);clear BK240;clear BK241;clear BK242;clear HB;have BK240:=n0_;have BK241:=n1_;have BK242:=n2_;have HB:=n3_;clear n0_ n1_ n2_ n3_;obtain ⟨X30_0,X30_1,X30_2,Y30_0,Y30_1,Y30_2⟩:=kc3 (w:=w29) (g:=gb242) BK242.out))
  refine bodyPost_ret (results_cell_row rfl _ _ gb242 70 #[.bool t247,.int .u64 t248,.int .u64 t249] (0,0) _ rfl (by (with_reducible repeat (first|refine bN ?_ _|refine bD ?_|refine bA ?_ _));refine blk_put (cs:=#[.bool t247,.int .u64 t248,.int .u64 0]) ?_ 2 _ rfl;(with_reducible repeat (first|refine bN ?_ _|refine bD ?_|refine bA ?_ _));refine blk_put (cs:=#[.bool t247,.int .u64 0,.int .u64 0]) ?_ 1 _ rfl;(with_reducible repeat (first|refine bN ?_ _|refine bD ?_|refine bA ?_ _));refine blk_put (cs:=#[.bool false,.int .u64 0,.int .u64 0]) ?_ 0 _ rfl;(with_reducible repeat (first|refine bN ?_ _|refine bD ?_|refine bA ?_ _));exact BK242.out) Tryd.underlying70 rfl (by kernel_rfl)) rfl ?_
  exact ⟨by first|rfl|(simp [errW_none,errW_some] <;> rfl)|(simp [*,errW_none,errW_some] <;> rfl)|(simp [bne,isE_]),by repeat (first|(with_reducible first|exact HB.out|apply bL|apply pN|apply bE|refine bS ?_ GE240.out|refine bS ?_ GE241.out|refine bS ?_ GE242.out)|exact HB.out)⟩
 replace c16:=Bool.eq_false_iff.mpr c16
 subst c16
 have H1 : ((gangerref01_minus.f a0_0 a0_1 a0_2 a1_0 a1_1 a1_2).bind fun bt250=>(some (bt250.1,bt250.2.1,bt250.2.2))) = some (r1,r2,r3):=by rw [if_neg (show ¬ (false = true) by decide)] at H;exact H
 clear H
 have H:=H1
 clear H1
 replace H:=oB H
 obtain ⟨⟨t250,t251,t252⟩,A310,H⟩:=H
 replace H : (some (t250,t251,t252)) = some (r1,r2,r3):=H
 have A31:=Am A310
 clear A310
 simp only [Option.some.injEq,Prod.mk.injEq] at H
 obtain ⟨rfl,rfl,rfl⟩:=H
 go_enter Tryd.func32,Tryd.ntmps32
 go_wp2_with (first|((with_reducible refine gD (N:=2) rfl ?_);refine box_event ?hg (N:=2) ?hd (cs:=#[.bool a0_0,.int .u64 a0_1,.int .u64 a0_2]) (t:=70) ?hr ?_;(case hd=>rfl);(case hg=>rfl);(case hr=>first|(go_simp;done)|(go_simp;rfl));intro gb240 hg w32 hbox hb;have n0_:=Am (below_step (by repeat (first|(with_reducible first|exact HB.out|apply bL|apply pN|apply bE)|exact HB.out)) hb);have n1_:=Am (hbox);have n2_:=Am ((by rw [hg];exact (bZ (by repeat (first|(with_reducible first|exact HB.out|apply bL|apply pN|apply bE)|exact HB.out))) : w.heap.size≤gb240));have n3_:=n2_;clear HB;have HB:=n0_;have BK240:=n1_;have GW240:=n2_;have GE240:=n3_;clear n0_ n1_ n2_ n3_;clear hb hbox hg)|((with_reducible refine gD (N:=3) rfl ?_);refine box_event ?hg (N:=3) ?hd (cs:=#[.bool a1_0,.int .u64 a1_1,.int .u64 a1_2]) (t:=70) ?hr ?_;(case hd=>rfl);(case hg=>rfl);(case hr=>first|(go_simp;done)|(go_simp;rfl));intro gb241 hg w33 hbox hb;have n0_:=Am (blk_below (g:=gb240) (by (with_reducible repeat (first|refine bN ?_ _|refine bD ?_|refine bA ?_ _));exact BK240.out) hb);have n1_:=Am (below_step (by repeat (first|(with_reducible first|exact HB.out|apply bL|apply pN|apply bE|refine bS ?_ GE240.out)|exact HB.out)) hb);have n2_:=Am (hbox);have n3_:=Am ((by rw [hg];exact (bZ (by repeat (first|(with_reducible first|exact HB.out|apply bL|apply pN|apply bE|refine bS ?_ GE240.out)|exact HB.out))) : w.heap.size≤gb241));have n4_:=n3_;have n5_:=Am ((by rw [hg];exact Nat.ne_of_lt (blk_lt (g:=gb240) (by (with_reducible repeat (first|refine bN ?_ _|refine bD ?_|refine bA ?_ _));exact BK240.out)) : gb240 ≠ gb241));have n6_:=Am ((by rw [hg];exact Nat.ne_of_gt (blk_lt (g:=gb240) (by (with_reducible repeat (first|refine bN ?_ _|refine bD ?_|refine bA ?_ _));exact BK240.out)) : gb241 ≠ gb240));clear BK240;clear HB;have BK240:=n0_;have HB:=n1_;have BK241:=n2_;have GW241:=n3_;have GE241:=n4_;have NB240_241:=n5_;have NB241_240:=n6_;clear n0_ n1_ n2_ n3_ n4_ n5_ n6_;clear hb hbox hg)|((with_reducible refine gD (N:=4) rfl ?_);refine box_event ?hg (N:=4) ?hd (cs:=#[.bool false,.int .u64 0,.int .u64 0]) (t:=70) ?hr ?_;(case hd=>rfl);(case hg=>rfl);(case hr=>first|(go_simp;done)|(go_simp;rfl));intro gb242 hg w34 hbox hb;have n0_:=Am (blk_below (g:=gb240) (by (with_reducible repeat (first|refine bN ?_ _|refine bD ?_|refine bA ?_ _));exact BK240.out) hb);have n1_:=Am (blk_below (g:=gb241) (by (with_reducible repeat (first|refine bN ?_ _|refine bD ?_|refine bA ?_ _));exact BK241.out) hb);have n2_:=Am (below_step (by repeat (first|(with_reducible first|exact HB.out|apply bL|apply pN|apply bE|refine bS ?_ GE240.out|refine bS ?_ GE241.out)|exact HB.out)) hb);have n3_:=Am (hbox);have n4_:=Am ((by rw [hg];exact (bZ (by repeat (first|(with_reducible first|exact HB.out|apply bL|apply pN|apply bE|refine bS ?_ GE240.out|refine bS ?_ GE241.out)|exact HB.out))) : w.heap.size≤gb242));have n5_:=n4_;have n6_:=Am ((by rw [hg];exact Nat.ne_of_lt (blk_lt (g:=gb240) (by (with_reducible repeat (first|refine bN ?_ _|refine bD ?_|refine bA ?_ _));exact BK240.out)) : gb240 ≠ gb242));have n7_:=Am ((by rw [hg];exact Nat.ne_of_gt (blk_lt (g:=gb240) (by (with_reducible repeat (first|refine bN ?_ _|refine bD ?_|refine bA ?_ _));exact BK240.out)) : gb242 ≠ gb240));have n8_:=Am ((by rw [hg];exact Nat.ne_of_lt (blk_lt (g:=gb241) (by (with_reducible repeat (first|refine bN ?_ _|refine bD ?_|refine bA ?_ _));exact BK241.out)) : gb241 ≠ gb242));have n9_:=Am ((by rw [hg];exact Nat.ne_of_gt (blk_lt (g:=gb241) (by (with_reducible repeat (first|refine bN ?_ _|refine bD ?_|refine bA ?_ _));exact BK241.out)) : gb242 ≠ gb241));clear BK240;clear BK241;clear HB;have BK240:=n0_;have BK241:=n1_;have HB:=n2_;have BK242:=n3_;have GW242:=n4_;have GE242:=n5_;have NB240_242:=n6_;have NB242_240:=n7_;have NB241_242:=n8_;have NB242_241:=n9_;clear n0_ n1_ n2_ n3_ n4_ n5_ n6_ n7_ n8_ n9_;clear hb hbox hg;have hnb35:=NB240_241.out;have hnc35:=NB241_240.out;have hnb36:=NB240_242.out;have hnc36:=NB242_240.out;obtain ⟨X37_0,X37_1,X37_2,Y37_0,Y37_1,Y37_2⟩:=kc3 (w:=w34) (g:=gb240) BK240.out;have hnb38:=NB241_242.out;have hnc38:=NB242_241.out;obtain ⟨X39_0,X39_1,X39_2,Y39_0,Y39_1,Y39_2⟩:=kc3 (w:=w34) (g:=gb241) BK241.out)|((with_reducible refine gC (f:=48) rfl ?_);refine goesL_ (some 15) rfl rfl Tryd.func48 (by kernel_rfl) rfl #[.agg #[.bool a0_0,.int .u64 a0_1,.int .u64 a0_2],.agg #[.bool a1_0,.int .u64 a1_1,.int .u64 a1_2]] rfl (by (try simp only [mT,mC,mN]);first|done|rfl|(simp only [lD,lT];rfl)) ?_;(with_reducible refine (gangerref01_less.calls a0_0 a0_1 a0_2 a1_0 a1_1 a1_2 false _ A15.out).mono ?_);rintro e w40 ⟨rfl,hb⟩;refine ⟨_,rfl,?_⟩;have n0_:=Am (blk_below (g:=gb240) (by (with_reducible repeat (first|refine bN ?_ _|refine bD ?_|refine bA ?_ _));exact BK240.out) hb);have n1_:=Am (blk_below (g:=gb241) (by (with_reducible repeat (first|refine bN ?_ _|refine bD ?_|refine bA ?_ _));exact BK241.out) hb);have n2_:=Am (blk_below (g:=gb242) (by (with_reducible repeat (first|refine bN ?_ _|refine bD ?_|refine bA ?_ _));exact BK242.out) hb);have n3_:=Am (below_step (by repeat (first|(with_reducible first|exact HB.out|apply bL|apply pN|apply bE|refine bS ?_ GE240.out|refine bS ?_ GE241.out|refine bS ?_ GE242.out)|exact HB.out)) hb);clear BK240;clear BK241;clear BK242;clear HB;have BK240:=n0_;have BK241:=n1_;have BK242:=n2_;have HB:=n3_;clear n0_ n1_ n2_ n3_;obtain ⟨X41_0,X41_1,X41_2,Y41_0,Y41_1,Y41_2⟩:=kc3 (w:=w40) (g:=gb240) BK240.out;obtain ⟨X42_0,X42_1,X42_2,Y42_0,Y42_1,Y42_2⟩:=kc3 (w:=w40) (g:=gb241) BK241.out)|((with_reducible refine gC (f:=49) rfl ?_);refine goesL_ (some 21) rfl rfl Tryd.func49 (by kernel_rfl) rfl #[.agg #[.bool a0_0,.int .u64 a0_1,.int .u64 a0_2],.agg #[.bool a1_0,.int .u64 a1_1,.int .u64 a1_2]] rfl (by (try simp only [mT,mC,mN]);first|done|rfl|(simp only [lD,lT];rfl)) ?_;(with_reducible refine (gangerref01_minus.calls a0_0 a0_1 a0_2 a1_0 a1_1 a1_2 t250 t251 t252 _ A31.out).mono ?_);rintro e w43 ⟨rfl,hb⟩;refine ⟨_,rfl,?_⟩;have n0_:=Am (blk_below (g:=gb240) (by (with_reducible repeat (first|refine bN ?_ _|refine bD ?_|refine bA ?_ _));exact BK240.out) hb);have n1_:=Am (blk_below (g:=gb241) (by (with_reducible repeat (first|refine bN ?_ _|refine bD ?_|refine bA ?_ _));exact BK241.out) hb);have n2_:=Am (blk_below (g:=gb242) (by (with_reducible repeat (first|refine bN ?_ _|refine bD ?_|refine bA ?_ _));exact BK242.out) hb);have n3_:=Am (below_step (by repeat (first|(with_reducible first|exact HB.out|apply bL|apply pN|apply bE|refine bS ?_ GE240.out|refine bS ?_ GE241.out|refine bS ?_ GE242.out)|exact HB.out)) hb);clear BK240;clear BK241;clear BK242;clear HB;have BK240:=n0_;have BK241:=n1_;have BK242:=n2_;have HB:=n3_;clear n0_ n1_ n2_ n3_;obtain ⟨X44_0,X44_1,X44_2,Y44_0,Y44_1,Y44_2⟩:=kc3 (w:=w43) (g:=gb242) BK242.out))
 refine bodyPost_ret (results_cell_row rfl _ _ gb242 70 #[.bool t250,.int .u64 t251,.int .u64 t252] (0,0) _ rfl (by (with_reducible repeat (first|refine bN ?_ _|refine bD ?_|refine bA ?_ _));refine blk_put (cs:=#[.bool t250,.int .u64 t251,.int .u64 0]) ?_ 2 _ rfl;(with_reducible repeat (first|refine bN ?_ _|refine bD ?_|refine bA ?_ _));refine blk_put (cs:=#[.bool t250,.int .u64 0,.int .u64 0]) ?_ 1 _ rfl;(with_reducible repeat (first|refine bN ?_ _|refine bD ?_|refine bA ?_ _));refine blk_put (cs:=#[.bool false,.int .u64 0,.int .u64 0]) ?_ 0 _ rfl;(with_reducible repeat (first|refine bN ?_ _|refine bD ?_|refine bA ?_ _));exact BK242.out) Tryd.underlying70 rfl (by kernel_rfl)) rfl ?_
 exact ⟨by first|rfl|(simp [errW_none,errW_some] <;> rfl)|(simp [*,errW_none,errW_some] <;> rfl)|(simp [bne,isE_]),by repeat (first|(with_reducible first|exact HB.out|apply bL|apply pN|apply bE|refine bS ?_ GE240.out|refine bS ?_ GE241.out|refine bS ?_ GE242.out)|exact HB.out)⟩
def gangerref01_size.f (a0 : Int) : Option (Int):=if a0 < 0 then (some (IntKind.u64.wrap ((IntKind.u64.wrap (wrap64 (-(wrap64 (a0 + 1))))) + 1))) else (some (IntKind.u64.wrap (a0)))
set_option maxHeartbeats 8000000 in
set_option maxRecDepth 100000 in
theorem gangerref01_size.calls (a0 : Int) (r : Int) (w : World) (h : gangerref01_size.f a0 = some r) :
  Calls Tryd.prog 50 #[.int .i64 a0] w fun e w'=>e = .returned (.int .u64 r)∧Drawn0 w w':=by
 have H : (if a0 < 0 then (some (IntKind.u64.wrap ((IntKind.u64.wrap (wrap64 (-(wrap64 (a0 + 1))))) + 1))) else (some (IntKind.u64.wrap (a0)))) = some r:=h
 clear h
 by_cases c2 : a0 < 0
 ·rw [if_pos c2] at H
  have c2b0 : decide (a0 < 0) = true:=decide_eq_true c2
  clear c2
  obtain rfl:=Option.some.inj H
  go_enter Tryd.func50,Tryd.ntmps50
  go_wp2
  go_ret
  exact ⟨by first|rfl|(simp;done)|(simp [*];done),by repeat (first|exact Drawn0.refl _|apply Drawn0.step)⟩
 rw [if_neg c2] at H
 have c2b0 : decide (a0 < 0) = false:=decide_eq_false c2
 clear c2
 obtain rfl:=Option.some.inj H
 go_enter Tryd.func50,Tryd.ntmps50
 go_wp2
 go_ret
 exact ⟨by first|rfl|(simp;done)|(simp [*];done),by repeat (first|exact Drawn0.refl _|apply Drawn0.step)⟩
def gangerref01_Of.f (a0 : Int) : Option (Bool × Int × Int):=(gangerref01_size.f a0).bind fun t254=>(some (decide (a0 < 0),0,t254))
set_option maxHeartbeats 8000000 in
set_option maxRecDepth 100000 in
theorem gangerref01_Of.calls (a0 : Int) (r1 : Bool) (r2 : Int) (r3 : Int) (w : World) (h : gangerref01_Of.f a0 = some (r1,r2,r3)) :
  Calls Tryd.prog 33 #[.int .i64 a0] w fun e w'=>e = .returned (.agg #[.bool r1,.int .u64 r2,.int .u64 r3])∧Below w.heap.size w w':=by
 have hu70:=Tryd.underlying70
 have HB:=Am (Below.refl w.heap.size w)
 have H : ((gangerref01_size.f a0).bind fun t254=>(some (decide (a0 < 0),0,t254))) = some (r1,r2,r3):=h
 clear h
 replace H:=oB H
 obtain ⟨t254,A20,H⟩:=H
 try dsimp only at H
 have A2:=Am A20
 clear A20
 simp only [Option.some.injEq,Prod.mk.injEq] at H
 obtain ⟨rfl,rfl,rfl⟩:=H
 go_enter Tryd.func33,Tryd.ntmps33
 go_wp2_with (first|((with_reducible refine gD (N:=2) rfl ?_);refine box_event ?hg (N:=2) ?hd (cs:=#[.bool false,.int .u64 0,.int .u64 0]) (t:=70) ?hr ?_;(case hd=>rfl);(case hg=>rfl);(case hr=>first|(go_simp;done)|(go_simp;rfl));intro gb253 hg w3 hbox hb;have n0_:=Am (below_step (by repeat (first|(with_reducible first|exact HB.out|apply bL|apply pN|apply bE)|exact HB.out)) hb);have n1_:=Am (hbox);have n2_:=Am ((by rw [hg];exact (bZ (by repeat (first|(with_reducible first|exact HB.out|apply bL|apply pN|apply bE)|exact HB.out))) : w.heap.size≤gb253));have n3_:=n2_;clear HB;have HB:=n0_;have BK253:=n1_;have GW253:=n2_;have GE253:=n3_;clear n0_ n1_ n2_ n3_;clear hb hbox hg)|((with_reducible refine gC (f:=50) rfl ?_);refine goesL_ (some 6) rfl rfl Tryd.func50 (by kernel_rfl) rfl #[.int .i64 a0] rfl (by (try simp only [mT,mC,mN]);first|done|rfl|(simp only [lD,lT];rfl)) ?_;(with_reducible refine (gangerref01_size.calls a0 t254 _ A2.out).mono ?_);rintro e w' ⟨rfl,⟨nd,rfl⟩⟩;refine ⟨_,rfl,?_⟩;(try (rw [drewN_self w3];generalize hq_ : World.drewN w3 _ = w3;have n0_ : Aside0 (w3.heap[gb253]? = some (.cells #[.bool false,.int .u64 0,.int .u64 0] 70 (0,0))):=⟨by rw [← hq_];exact (by (with_reducible repeat (first|refine bN ?_ _|refine bD ?_|refine bA ?_ _));exact BK253.out)⟩;have n1_ : Aside0 (Below w.heap.size w w3):=⟨by rw [← hq_];exact (by repeat (first|(with_reducible first|exact HB.out|apply bL|apply pN|apply bE|refine bS ?_ GE253.out)|exact HB.out))⟩;clear BK253 HB hq_;have BK253:=n0_;have HB:=n1_;clear n0_ n1_));obtain ⟨X4_0,X4_1,X4_2,Y4_0,Y4_1,Y4_2⟩:=kc3 (w:=w3) (g:=gb253) BK253.out))
 refine bodyPost_ret (results_cell_row rfl _ _ gb253 70 #[.bool (decide (a0 < 0)),.int .u64 0,.int .u64 t254] (0,0) _ rfl (by (with_reducible repeat (first|refine bN ?_ _|refine bD ?_|refine bA ?_ _));refine blk_put (cs:=#[.bool (decide (a0 < 0)),.int .u64 0,.int .u64 0]) ?_ 2 _ rfl;(with_reducible repeat (first|refine bN ?_ _|refine bD ?_|refine bA ?_ _));refine blk_put (cs:=#[.bool (decide (a0 < 0)),.int .u64 0,.int .u64 0]) ?_ 1 _ rfl;(with_reducible repeat (first|refine bN ?_ _|refine bD ?_|refine bA ?_ _));refine blk_put (cs:=#[.bool false,.int .u64 0,.int .u64 0]) ?_ 0 _ rfl;(with_reducible repeat (first|refine bN ?_ _|refine bD ?_|refine bA ?_ _));exact BK253.out) Tryd.underlying70 rfl (by kernel_rfl)) rfl ?_
 exact ⟨by first|rfl|(simp [errW_none,errW_some] <;> rfl)|(simp [*,errW_none,errW_some] <;> rfl)|(simp [bne,isE_]),by repeat (first|(with_reducible first|exact HB.out|apply bL|apply pN|apply bE|refine bS ?_ GE253.out)|exact HB.out)⟩
end Go.Proofs.YtakdneopmojjdaaDoor.P
