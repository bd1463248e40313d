/- cut to what one law reaches -/
import Derived.Test.YtakdneopmojjdaaDoorBfShort
import Derived.Test.YtakdneopmojjdaaDoorBfP0
import Derived.Test.YtakdneopmojjdaaDoorBfP2
namespace Go.Proofs.YtakdneopmojjdaaDoor.P
open Go.RowKit Go.Proofs.YtakdneopmojjdaaDoorW.PrintWords Go.Proofs.YtakdneopmojjdaaDoorW.PrintLast Go.Proofs.YtakdneopmojjdaaDoorW.PrintMore
attribute [local go_sem] max2_int min2_int max_two min_two max_three min_three max_four min_four   -- for this text's walks alone
set_option linter.unusedVariables false
set_option linter.unusedSimpArgs false
attribute [local go_sem] isSome_setCell
def book_right.f (a0_0 : Int) (a0_1 : ByteArray) (a0_2 : Int) (a0_3 : Int) (a0_4 : Int) (a0_5 : Int) : Option (Bool):=if a0_4 ≥ 0 then (if a0_4 < 9 then ((book_names.f).bind fun bt103=>(if 0≤a0_4 then (if a0_0 > 0 then ((script_Name.f a0_1).bind fun t112=>(if t112 = true then (if a0_2 ≥ 1 then (if a0_2≤1024 then (if a0_3 ≥ 0 then (if a0_3≤1073741824 then (if (rdOf ByteArray.empty ([bt103.1,bt103.2.1,bt103.2.2.1,bt103.2.2.2.1,bt103.2.2.2.2.1,bt103.2.2.2.2.2.1,bt103.2.2.2.2.2.2.1,bt103.2.2.2.2.2.2.2.1,bt103.2.2.2.2.2.2.2.2] : List ByteArray) a0_4).toList = ([] : List UInt8) then (some false) else (if a0_5 ≥ 0 then (some (decide (a0_5≤1099511627776))) else (some false))) else (some false)) else (some false)) else (some false)) else (some false)) else (some false))) else (some false)) else (none))) else (if a0_0 > 0 then ((script_Name.f a0_1).bind fun t113=>(if t113 = true then (if a0_2 ≥ 1 then (if a0_2≤1024 then (if a0_3 ≥ 0 then (if a0_3≤1073741824 then (some false) else (some false)) else (some false)) else (some false)) else (some false)) else (some false))) else (some false))) else (if a0_0 > 0 then ((script_Name.f a0_1).bind fun t114=>(if t114 = true then (if a0_2 ≥ 1 then (if a0_2≤1024 then (if a0_3 ≥ 0 then (if a0_3≤1073741824 then (some false) else (some false)) else (some false)) else (some false)) else (some false)) else (some false))) else (some false))
def book_right.T1 : Bool × List (List Nat × List Nat):=(true,[([],[]),([0],[0]),([1],[1]),([2],[2]),([3],[3]),([4,3],[3,4]),([5,3],[3,5]),([3,6],[3,6]),([7,3],[7]),([8,8],[8]),([8],[8]),([10,8],[8,10]),([9,11,8],[8,9,11]),([12,8],[8,12]),([8,13],[8,13]),([14,9,0,1,2,3,4,5,6,7,8,9,10,11,12,13,14],[14])])
def book_right.B1 : List Nat:=[0,1,3,7,15,31,63,127,255,511,511,1535,4095,8191,16383,32767]
theorem book_right.tab1 : rtab .any (opsOf Tryd.f19 1) = book_right.T1:=by kernel_rfl
theorem book_right.bits1 : waitsOk book_right.T1.2 book_right.B1 = true:=by kernel_rfl
set_option maxHeartbeats 8000000 in
set_option maxRecDepth 100000 in
theorem book_right.calls (a0_0 : Int) (a0_1 : ByteArray) (a0_2 : Int) (a0_3 : Int) (a0_4 : Int) (a0_5 : Int) (r : Bool) (w : World) (hG : Glob w) (h : book_right.f a0_0 a0_1 a0_2 a0_3 a0_4 a0_5 = some r) :
  Calls Tryd.prog 19 #[.agg #[.int .u32 a0_0,.string a0_1,.int .i64 a0_2,.int .i64 a0_3,.int .i64 a0_4,.int .i64 a0_5]] w fun e w'=>e = .returned (.bool r)∧Below w.heap.size w w':=by
 have hu24:=Tryd.underlying24
 have HG:=Am hG
 clear hG
 have HB:=Am (Below.refl w.heap.size w)
 have H : (if a0_4 ≥ 0 then (if a0_4 < 9 then ((book_names.f).bind fun bt103=>(if 0≤a0_4 then (if a0_0 > 0 then ((script_Name.f a0_1).bind fun t112=>(if t112 = true then (if a0_2 ≥ 1 then (if a0_2≤1024 then (if a0_3 ≥ 0 then (if a0_3≤1073741824 then (if (rdOf ByteArray.empty ([bt103.1,bt103.2.1,bt103.2.2.1,bt103.2.2.2.1,bt103.2.2.2.2.1,bt103.2.2.2.2.2.1,bt103.2.2.2.2.2.2.1,bt103.2.2.2.2.2.2.2.1,bt103.2.2.2.2.2.2.2.2] : List ByteArray) a0_4).toList = ([] : List UInt8) then (some false) else (if a0_5 ≥ 0 then (some (decide (a0_5≤1099511627776))) else (some false))) else (some false)) else (some false)) else (some false)) else (some false)) else (some false))) else (some false)) else (none))) else (if a0_0 > 0 then ((script_Name.f a0_1).bind fun t113=>(if t113 = true then (if a0_2 ≥ 1 then (if a0_2≤1024 then (if a0_3 ≥ 0 then (if a0_3≤1073741824 then (some false) else (some false)) else (some false)) else (some false)) else (some false)) else (some false))) else (some false))) else (if a0_0 > 0 then ((script_Name.f a0_1).bind fun t114=>(if t114 = true then (if a0_2 ≥ 1 then (if a0_2≤1024 then (if a0_3 ≥ 0 then (if a0_3≤1073741824 then (some false) else (some false)) else (some false)) else (some false)) else (some false)) else (some false))) else (some false))) = some r:=h
 clear h
 by_cases c2 : a0_4 ≥ 0
 rotate_left
 ·rw [if_neg c2] at H
  have c2b0 : decide (0≤a0_4) = false:=decide_eq_false c2
  clear c2
  by_cases c106 : a0_0 > 0
  rotate_left
  ·rw [if_neg c106] at H
   have c106b0 : decide (0 < a0_0) = false:=decide_eq_false c106
   clear c106
   obtain rfl:=Option.some.inj H
   go_enter Tryd.func19,Tryd.ntmps19
   try go_wp2_with (first|((with_reducible refine gD (N:=1) rfl ?_);refine box_event ?hg (N:=1) ?hd (cs:=#[.int .u32 a0_0,.string a0_1,.int .i64 a0_2,.int .i64 a0_3,.int .i64 a0_4,.int .i64 a0_5]) (t:=24) ?hr ?_;(case hd=>rfl);(case hg=>rfl);(case hr=>first|(go_simp;done)|(go_simp;rfl));intro gb102 hg w142 hbox hb;have n0_:=Am (below_step (by repeat (first|(with_reducible first|exact HB.out|apply bL|apply pN|apply bE)|exact HB.out)) hb);have n1_:=Am (hbox);have n2_:=Am ((by rw [hg];exact (bZ (by repeat (first|(with_reducible first|exact HB.out|apply bL|apply pN|apply bE)|exact HB.out))) : w.heap.size≤gb102));have n3_:=n2_;clear HB;have HB:=n0_;have BK102:=n1_;have GW102:=n2_;have GE102:=n3_;clear n0_ n1_ n2_ n3_;clear hb hbox hg))
   have n0_:=Am (bD BK102.out)
   have n1_:=Am (bE HB.out)
   clear BK102
   clear HB
   have BK102:=n0_
   have HB:=n1_
   clear n0_ n1_
   refine start_ (n:=16) (S:=fun w'=>w'.cell? ⟨gb102,0,none⟩ = some (.int .u32 a0_0)∧w'.cell? ⟨gb102,1,none⟩ = some (.string a0_1)∧w'.cell? ⟨gb102,2,none⟩ = some (.int .i64 a0_2)∧w'.cell? ⟨gb102,3,none⟩ = some (.int .i64 a0_3)∧w'.cell? ⟨gb102,4,none⟩ = some (.int .i64 a0_4)∧w'.cell? ⟨gb102,5,none⟩ = some (.int .i64 a0_5)) (ds:=[]) #[O,O,O,O,O,O,O,O,O,O,O,O,O,O,O,O] (by kernel_rfl) rfl rfl ⟨(bC BK102.out 0).trans rfl,(bC BK102.out 1).trans rfl,(bC BK102.out 2).trans rfl,(bC BK102.out 3).trans rfl,(bC BK102.out 4).trans rfl,(bC BK102.out 5).trans rfl⟩ (fun hHeld=>?_);refine with_tabW book_right.tab1 book_right.bits1 (fun HT_ HW_=>?_)
   generalize w142.drew = w143 at BK102 HB hHeld ⊢
   refine pure_ (i:=0) (N:=some 4) (v:=?_) (a':=?_) #[J,O,O,O,O,O,O,O,O,O,O,O,O,O,O,O] rfl rfl (any_of HT_.out (by kernel_rfl)) (fun _ _ _ h=>h) (Or.inl ⟨by rfl,?_⟩) ?_ ?_
   rotate_left
   ·intro w'
    go_simp
    with_reducible rfl
   rotate_left
   ·simp only [Act.put,sT,sZ,sS,iW,iV]
    rfl
   refine take_ (i:=1) (N:=some 5) (v:=?_) (a':=?_) #[J,J,O,O,O,O,O,O,O,O,O,O,O,O,O,O] rfl rfl (take_ofW HT_.out HW_.out (by kernel_rfl)) (fun _ _ _ h=>h) (Or.inl ⟨by rfl,?_⟩) hHeld ?_ ?_
   rotate_left
   ·rintro w' ⟨s0,s1,s2,s3,s4,s5⟩
    go_simp
    with_reducible rfl
   rotate_left
   ·simp only [Act.put,sT,sZ,sS,iW,iV]
    rfl
   refine pure_ (i:=2) (N:=some 6) (v:=?_) (a':=?_) #[J,J,J,O,O,O,O,O,O,O,O,O,O,O,O,O] rfl rfl (any_of HT_.out (by kernel_rfl)) (fun _ _ _ h=>h) (Or.inl ⟨by rfl,?_⟩) ?_ ?_
   rotate_left
   ·intro w'
    go_simp
    with_reducible rfl
   rotate_left
   ·simp only [Act.put,sT,sZ,sS,iW,iV]
    rfl
   refine pure_ (i:=3) (N:=some 7) (v:=?_) (a':=?_) #[J,J,J,J,O,O,O,O,O,O,O,O,O,O,O,O] rfl rfl (any_of HT_.out (by kernel_rfl)) (fun _ _ _ h=>h) (Or.inl ⟨by rfl,?_⟩) ?_ ?_
   rotate_left
   ·intro w'
    go_simp
    with_reducible rfl
   rotate_left
   ·simp only [Act.put,sT,sZ,sS,iW,iV]
    rfl
   refine pure_ (i:=4) (N:=some 8) (v:=undef) (a':=?_) #[J,J,J,J,J,O,O,O,O,O,O,O,O,O,O,O] rfl rfl (any_of HT_.out (by kernel_rfl)) (fun _ _ _ h=>h) (Or.inr ⟨by rfl,rfl⟩) ?_ ?_
   rotate_left
   ·simp only [Act.put,sT,sZ,sS,iW,iV]
    rfl
   refine pure_ (i:=5) (N:=some 9) (v:=undef) (a':=?_) #[J,J,J,J,J,J,O,O,O,O,O,O,O,O,O,O] rfl rfl (any_of HT_.out (by kernel_rfl)) (fun _ _ _ h=>h) (Or.inr ⟨by rfl,rfl⟩) ?_ ?_
   rotate_left
   ·simp only [Act.put,sT,sZ,sS,iW,iV]
    rfl
   refine pure_ (i:=6) (N:=some 10) (v:=undef) (a':=?_) #[J,J,J,J,J,J,J,O,O,O,O,O,O,O,O,O] rfl rfl (any_of HT_.out (by kernel_rfl)) (fun _ _ _ h=>h) (Or.inr ⟨by rfl,rfl⟩) ?_ ?_
   rotate_left
   ·simp only [Act.put,sT,sZ,sS,iW,iV]
    rfl
   refine pure_ (i:=7) (N:=some 11) (v:=?_) (a':=?_) #[J,J,J,J,J,J,J,J,O,O,O,O,O,O,O,O] rfl rfl (any_of HT_.out (by kernel_rfl)) (fun _ _ _ h=>h) (Or.inl ⟨by rfl,?_⟩) ?_ ?_
   rotate_left
   ·intro w'
    go_simp
    with_reducible rfl
   rotate_left
   ·simp only [Act.put,sT,sZ,sS,iW,iV]
    rfl
   refine pure_ (i:=8) (N:=some 12) (v:=?_) (a':=?_) #[J,J,J,J,J,J,J,J,J,O,O,O,O,O,O,O] rfl rfl (any_of HT_.out (by kernel_rfl)) (fun _ _ _ h=>h) (Or.inl ⟨by rfl,?_⟩) ?_ ?_
   rotate_left
   ·intro w'
    go_simp
    with_reducible rfl
   rotate_left
   ·simp only [Act.put,sT,sZ,sS,iW,iV]
    rfl
   refine pure_ (i:=9) (N:=some 13) (v:=undef) (a':=?_) #[J,J,J,J,J,J,J,J,J,J,O,O,O,O,O,O] rfl rfl (any_of HT_.out (by kernel_rfl)) (fun _ _ _ h=>h) (Or.inr ⟨by rfl,rfl⟩) ?_ ?_
   rotate_left
   ·simp only [Act.put,sT,sZ,sS,iW,iV]
    rfl
   refine pure_ (i:=10) (N:=some 14) (v:=undef) (a':=?_) #[J,J,J,J,J,J,J,J,J,J,J,O,O,O,O,O] rfl rfl (any_of HT_.out (by kernel_rfl)) (fun _ _ _ h=>h) (Or.inr ⟨by rfl,rfl⟩) ?_ ?_
   rotate_left
   ·simp only [Act.put,sT,sZ,sS,iW,iV]
    rfl
   refine pure_ (i:=11) (N:=some 15) (v:=undef) (a':=?_) #[J,J,J,J,J,J,J,J,J,J,J,J,O,O,O,O] rfl rfl (any_of HT_.out (by kernel_rfl)) (fun _ _ _ h=>h) (Or.inr ⟨by rfl,rfl⟩) ?_ ?_
   rotate_left
   ·simp only [Act.put,sT,sZ,sS,iW,iV]
    rfl
   refine pure_ (i:=12) (N:=some 16) (v:=undef) (a':=?_) #[J,J,J,J,J,J,J,J,J,J,J,J,J,O,O,O] rfl rfl (any_of HT_.out (by kernel_rfl)) (fun _ _ _ h=>h) (Or.inr ⟨by rfl,rfl⟩) ?_ ?_
   rotate_left
   ·simp only [Act.put,sT,sZ,sS,iW,iV]
    rfl
   refine pure_ (i:=13) (N:=some 17) (v:=undef) (a':=?_) #[J,J,J,J,J,J,J,J,J,J,J,J,J,J,O,O] rfl rfl (any_of HT_.out (by kernel_rfl)) (fun _ _ _ h=>h) (Or.inr ⟨by rfl,rfl⟩) ?_ ?_
   rotate_left
   ·simp only [Act.put,sT,sZ,sS,iW,iV]
    rfl
   refine pure_ (i:=14) (N:=some 18) (v:=?_) (a':=?_) #[J,J,J,J,J,J,J,J,J,J,J,J,J,J,J,O] rfl rfl (any_of HT_.out (by kernel_rfl)) (fun _ _ _ h=>h) (Or.inl ⟨by rfl,?_⟩) ?_ ?_
   rotate_left
   ·intro w'
    go_simp
    with_reducible rfl
   rotate_left
   ·simp only [Act.put,sT,sZ,sS,iW,iV]
    rfl
   refine pure_ (i:=15) (N:=some 3) (v:=?_) (a':=?_) #[J,J,J,J,J,J,J,J,J,J,J,J,J,J,J,J] rfl rfl (any_of HT_.out (by kernel_rfl)) (fun _ _ _ h=>h) (Or.inl ⟨by rfl,?_⟩) ?_ ?_
   rotate_left
   ·intro w'
    go_simp
    with_reducible rfl
   rotate_left
   ·simp only [Act.put,sT,sZ,sS,iW,iV]
    rfl
   refine done_ (done_of HT_.out (by kernel_rfl)) ?_
   obtain ⟨X144_0,X144_1,X144_2,X144_3,X144_4,X144_5,Y144_0,Y144_1,Y144_2,Y144_3,Y144_4,Y144_5⟩:=kc6 (w:=w143) (g:=gb102) BK102.out
   try go_wp2
   go_ret
   exact ⟨by first|rfl|(simp [errW_none,errW_some] <;> rfl)|(simp [*,errW_none,errW_some] <;> rfl),by repeat (first|(with_reducible first|exact HB.out|apply bL|apply pN|apply bE|refine bS ?_ GE102.out)|exact HB.out)⟩
  rw [if_pos c106] at H
  have c106b0 : decide (0 < a0_0) = true:=decide_eq_true c106
  clear c106
  replace H:=oB H
  obtain ⟨t114,A1070,H⟩:=H
  try dsimp only at H
  have A107:=Am A1070
  clear A1070
  by_cases c108 : t114 = true
  rotate_left
  ·replace c108:=Bool.eq_false_iff.mpr c108
   subst c108
   have H1 : (some false) = some r:=by rw [if_neg (show ¬ (false = true) by decide)] at H;exact H
   clear H
   have H:=H1
   clear H1
   obtain rfl:=Option.some.inj H
   go_enter Tryd.func19,Tryd.ntmps19
   try go_wp2_with (first|((with_reducible refine gD (N:=1) rfl ?_);refine box_event ?hg (N:=1) ?hd (cs:=#[.int .u32 a0_0,.string a0_1,.int .i64 a0_2,.int .i64 a0_3,.int .i64 a0_4,.int .i64 a0_5]) (t:=24) ?hr ?_;(case hd=>rfl);(case hg=>rfl);(case hr=>first|(go_simp;done)|(go_simp;rfl));intro gb102 hg w138 hbox hb;have n0_:=Am (below_step (by repeat (first|(with_reducible first|exact HB.out|apply bL|apply pN|apply bE)|exact HB.out)) hb);have n1_:=Am (hbox);have n2_:=Am ((by rw [hg];exact (bZ (by repeat (first|(with_reducible first|exact HB.out|apply bL|apply pN|apply bE)|exact HB.out))) : w.heap.size≤gb102));have n3_:=n2_;clear HB;have HB:=n0_;have BK102:=n1_;have GW102:=n2_;have GE102:=n3_;clear n0_ n1_ n2_ n3_;clear hb hbox hg))
   have n0_:=Am (bD BK102.out)
   have n1_:=Am (bE HB.out)
   clear BK102
   clear HB
   have BK102:=n0_
   have HB:=n1_
   clear n0_ n1_
   refine start_ (n:=16) (S:=fun w'=>w'.cell? ⟨gb102,0,none⟩ = some (.int .u32 a0_0)∧w'.cell? ⟨gb102,1,none⟩ = some (.string a0_1)∧w'.cell? ⟨gb102,2,none⟩ = some (.int .i64 a0_2)∧w'.cell? ⟨gb102,3,none⟩ = some (.int .i64 a0_3)∧w'.cell? ⟨gb102,4,none⟩ = some (.int .i64 a0_4)∧w'.cell? ⟨gb102,5,none⟩ = some (.int .i64 a0_5)) (ds:=[]) #[O,O,O,O,O,O,O,O,O,O,O,O,O,O,O,O] (by kernel_rfl) rfl rfl ⟨(bC BK102.out 0).trans rfl,(bC BK102.out 1).trans rfl,(bC BK102.out 2).trans rfl,(bC BK102.out 3).trans rfl,(bC BK102.out 4).trans rfl,(bC BK102.out 5).trans rfl⟩ (fun hHeld=>?_);refine with_tabW book_right.tab1 book_right.bits1 (fun HT_ HW_=>?_)
   generalize w138.drew = w139 at BK102 HB hHeld ⊢
   refine pure_ (i:=0) (N:=some 4) (v:=?_) (a':=?_) #[J,O,O,O,O,O,O,O,O,O,O,O,O,O,O,O] rfl rfl (any_of HT_.out (by kernel_rfl)) (fun _ _ _ h=>h) (Or.inl ⟨by rfl,?_⟩) ?_ ?_
   rotate_left
   ·intro w'
    go_simp
    with_reducible rfl
   rotate_left
   ·simp only [Act.put,sT,sZ,sS,iW,iV]
    rfl
   refine take_ (i:=1) (N:=some 5) (v:=?_) (a':=?_) #[J,J,O,O,O,O,O,O,O,O,O,O,O,O,O,O] rfl rfl (take_ofW HT_.out HW_.out (by kernel_rfl)) (fun _ _ _ h=>h) (Or.inl ⟨by rfl,?_⟩) hHeld ?_ ?_
   rotate_left
   ·rintro w' ⟨s0,s1,s2,s3,s4,s5⟩
    go_simp
    with_reducible rfl
   rotate_left
   ·simp only [Act.put,sT,sZ,sS,iW,iV]
    rfl
   refine pure_ (i:=2) (N:=some 6) (v:=?_) (a':=?_) #[J,J,J,O,O,O,O,O,O,O,O,O,O,O,O,O] rfl rfl (any_of HT_.out (by kernel_rfl)) (fun _ _ _ h=>h) (Or.inl ⟨by rfl,?_⟩) ?_ ?_
   rotate_left
   ·intro w'
    go_simp
    with_reducible rfl
   rotate_left
   ·simp only [Act.put,sT,sZ,sS,iW,iV]
    rfl
   refine pure_ (i:=3) (N:=some 7) (v:=?_) (a':=?_) #[J,J,J,J,O,O,O,O,O,O,O,O,O,O,O,O] rfl rfl (any_of HT_.out (by kernel_rfl)) (fun _ _ _ h=>h) (Or.inl ⟨by rfl,?_⟩) ?_ ?_
   rotate_left
   ·intro w'
    go_simp
    with_reducible rfl
   rotate_left
   ·simp only [Act.put,sT,sZ,sS,iW,iV]
    rfl
   refine pure_ (i:=4) (N:=some 8) (v:=undef) (a':=?_) #[J,J,J,J,J,O,O,O,O,O,O,O,O,O,O,O] rfl rfl (any_of HT_.out (by kernel_rfl)) (fun _ _ _ h=>h) (Or.inr ⟨by rfl,rfl⟩) ?_ ?_
   rotate_left
   ·simp only [Act.put,sT,sZ,sS,iW,iV]
    rfl
   refine pure_ (i:=5) (N:=some 9) (v:=undef) (a':=?_) #[J,J,J,J,J,J,O,O,O,O,O,O,O,O,O,O] rfl rfl (any_of HT_.out (by kernel_rfl)) (fun _ _ _ h=>h) (Or.inr ⟨by rfl,rfl⟩) ?_ ?_
   rotate_left
   ·simp only [Act.put,sT,sZ,sS,iW,iV]
    rfl
   refine pure_ (i:=6) (N:=some 10) (v:=undef) (a':=?_) #[J,J,J,J,J,J,J,O,O,O,O,O,O,O,O,O] rfl rfl (any_of HT_.out (by kernel_rfl)) (fun _ _ _ h=>h) (Or.inr ⟨by rfl,rfl⟩) ?_ ?_
   rotate_left
   ·simp only [Act.put,sT,sZ,sS,iW,iV]
    rfl
   refine pure_ (i:=7) (N:=some 11) (v:=?_) (a':=?_) #[J,J,J,J,J,J,J,J,O,O,O,O,O,O,O,O] rfl rfl (any_of HT_.out (by kernel_rfl)) (fun _ _ _ h=>h) (Or.inl ⟨by rfl,?_⟩) ?_ ?_
   rotate_left
   ·intro w'
    go_simp
    with_reducible rfl
   rotate_left
   ·simp only [Act.put,sT,sZ,sS,iW,iV]
    rfl
   refine pure_ (i:=8) (N:=some 12) (v:=?_) (a':=?_) #[J,J,J,J,J,J,J,J,J,O,O,O,O,O,O,O] rfl rfl (any_of HT_.out (by kernel_rfl)) (fun _ _ _ h=>h) (Or.inl ⟨by rfl,?_⟩) ?_ ?_
   rotate_left
   ·intro w'
    go_simp
    with_reducible rfl
   rotate_left
   ·simp only [Act.put,sT,sZ,sS,iW,iV]
    rfl
   refine pure_ (i:=9) (N:=some 13) (v:=undef) (a':=?_) #[J,J,J,J,J,J,J,J,J,J,O,O,O,O,O,O] rfl rfl (any_of HT_.out (by kernel_rfl)) (fun _ _ _ h=>h) (Or.inr ⟨by rfl,rfl⟩) ?_ ?_
   rotate_left
   ·simp only [Act.put,sT,sZ,sS,iW,iV]
    rfl
   refine pure_ (i:=10) (N:=some 14) (v:=undef) (a':=?_) #[J,J,J,J,J,J,J,J,J,J,J,O,O,O,O,O] rfl rfl (any_of HT_.out (by kernel_rfl)) (fun _ _ _ h=>h) (Or.inr ⟨by rfl,rfl⟩) ?_ ?_
   rotate_left
   ·simp only [Act.put,sT,sZ,sS,iW,iV]
    rfl
   refine pure_ (i:=11) (N:=some 15) (v:=undef) (a':=?_) #[J,J,J,J,J,J,J,J,J,J,J,J,O,O,O,O] rfl rfl (any_of HT_.out (by kernel_rfl)) (fun _ _ _ h=>h) (Or.inr ⟨by rfl,rfl⟩) ?_ ?_
   rotate_left
   ·simp only [Act.put,sT,sZ,sS,iW,iV]
    rfl
   refine pure_ (i:=12) (N:=some 16) (v:=undef) (a':=?_) #[J,J,J,J,J,J,J,J,J,J,J,J,J,O,O,O] rfl rfl (any_of HT_.out (by kernel_rfl)) (fun _ _ _ h=>h) (Or.inr ⟨by rfl,rfl⟩) ?_ ?_
   rotate_left
   ·simp only [Act.put,sT,sZ,sS,iW,iV]
    rfl
   refine pure_ (i:=13) (N:=some 17) (v:=undef) (a':=?_) #[J,J,J,J,J,J,J,J,J,J,J,J,J,J,O,O] rfl rfl (any_of HT_.out (by kernel_rfl)) (fun _ _ _ h=>h) (Or.inr ⟨by rfl,rfl⟩) ?_ ?_
   rotate_left
   ·simp only [Act.put,sT,sZ,sS,iW,iV]
    rfl
   refine pure_ (i:=14) (N:=some 18) (v:=?_) (a':=?_) #[J,J,J,J,J,J,J,J,J,J,J,J,J,J,J,O] rfl rfl (any_of HT_.out (by kernel_rfl)) (fun _ _ _ h=>h) (Or.inl ⟨by rfl,?_⟩) ?_ ?_
   rotate_left
   ·intro w'
    go_simp
    with_reducible rfl
   rotate_left
   ·simp only [Act.put,sT,sZ,sS,iW,iV]
    rfl
   refine pure_ (i:=15) (N:=some 3) (v:=?_) (a':=?_) #[J,J,J,J,J,J,J,J,J,J,J,J,J,J,J,J] rfl rfl (any_of HT_.out (by kernel_rfl)) (fun _ _ _ h=>h) (Or.inl ⟨by rfl,?_⟩) ?_ ?_
   rotate_left
   ·intro w'
    go_simp
    with_reducible rfl
   rotate_left
   ·simp only [Act.put,sT,sZ,sS,iW,iV]
    rfl
   refine done_ (done_of HT_.out (by kernel_rfl)) ?_
   obtain ⟨X140_0,X140_1,X140_2,X140_3,X140_4,X140_5,Y140_0,Y140_1,Y140_2,Y140_3,Y140_4,Y140_5⟩:=kc6 (w:=w139) (g:=gb102) BK102.out
   try go_wp2_with (first|(go_at_call 26;(with_reducible refine (script_Name.calls a0_1 false _ ?side1 A107.out).mono ?_);(case side1=>exact Glob.below HG.out (by repeat (first|(with_reducible first|exact HB.out|apply bL|apply pN|apply bE|refine bS ?_ GE102.out)|exact HB.out)));rintro e w141 ⟨rfl,hb⟩;have n0_:=Am (blk_below (g:=gb102) (by (with_reducible repeat (first|refine bN ?_ _|refine bD ?_|refine bA ?_ _));exact BK102.out) hb);have n1_:=Am (below_step (by repeat (first|(with_reducible first|exact HB.out|apply bL|apply pN|apply bE|refine bS ?_ GE102.out)|exact HB.out)) hb);clear BK102;clear HB;have BK102:=n0_;have HB:=n1_;clear n0_ n1_))
   go_ret
   exact ⟨by first|rfl|(simp [errW_none,errW_some] <;> rfl)|(simp [*,errW_none,errW_some] <;> rfl),by repeat (first|(with_reducible first|exact HB.out|apply bL|apply pN|apply bE|refine bS ?_ GE102.out)|exact HB.out)⟩
  subst c108
  have H1 : (if a0_2 ≥ 1 then (if a0_2≤1024 then (if a0_3 ≥ 0 then (if a0_3≤1073741824 then (some false) else (some false)) else (some false)) else (some false)) else (some false)) = some r:=by rw [if_pos rfl] at H;exact H
  clear H
  have H:=H1
  clear H1
  by_cases c109 : a0_2 ≥ 1
  rotate_left
  ·rw [if_neg c109] at H
   have c109b0 : decide (1≤a0_2) = false:=decide_eq_false c109
   clear c109
   obtain rfl:=Option.some.inj H
   go_enter Tryd.func19,Tryd.ntmps19
   try go_wp2_with (first|((with_reducible refine gD (N:=1) rfl ?_);refine box_event ?hg (N:=1) ?hd (cs:=#[.int .u32 a0_0,.string a0_1,.int .i64 a0_2,.int .i64 a0_3,.int .i64 a0_4,.int .i64 a0_5]) (t:=24) ?hr ?_;(case hd=>rfl);(case hg=>rfl);(case hr=>first|(go_simp;done)|(go_simp;rfl));intro gb102 hg w133 hbox hb;have n0_:=Am (below_step (by repeat (first|(with_reducible first|exact HB.out|apply bL|apply pN|apply bE)|exact HB.out)) hb);have n1_:=Am (hbox);have n2_:=Am ((by rw [hg];exact (bZ (by repeat (first|(with_reducible first|exact HB.out|apply bL|apply pN|apply bE)|exact HB.out))) : w.heap.size≤gb102));have n3_:=n2_;clear HB;have HB:=n0_;have BK102:=n1_;have GW102:=n2_;have GE102:=n3_;clear n0_ n1_ n2_ n3_;clear hb hbox hg))
   have n0_:=Am (bD BK102.out)
   have n1_:=Am (bE HB.out)
   clear BK102
   clear HB
   have BK102:=n0_
   have HB:=n1_
   clear n0_ n1_
   refine start_ (n:=16) (S:=fun w'=>w'.cell? ⟨gb102,0,none⟩ = some (.int .u32 a0_0)∧w'.cell? ⟨gb102,1,none⟩ = some (.string a0_1)∧w'.cell? ⟨gb102,2,none⟩ = some (.int .i64 a0_2)∧w'.cell? ⟨gb102,3,none⟩ = some (.int .i64 a0_3)∧w'.cell? ⟨gb102,4,none⟩ = some (.int .i64 a0_4)∧w'.cell? ⟨gb102,5,none⟩ = some (.int .i64 a0_5)) (ds:=[]) #[O,O,O,O,O,O,O,O,O,O,O,O,O,O,O,O] (by kernel_rfl) rfl rfl ⟨(bC BK102.out 0).trans rfl,(bC BK102.out 1).trans rfl,(bC BK102.out 2).trans rfl,(bC BK102.out 3).trans rfl,(bC BK102.out 4).trans rfl,(bC BK102.out 5).trans rfl⟩ (fun hHeld=>?_);refine with_tabW book_right.tab1 book_right.bits1 (fun HT_ HW_=>?_)
   generalize w133.drew = w134 at BK102 HB hHeld ⊢
   refine pure_ (i:=0) (N:=some 4) (v:=?_) (a':=?_) #[J,O,O,O,O,O,O,O,O,O,O,O,O,O,O,O] rfl rfl (any_of HT_.out (by kernel_rfl)) (fun _ _ _ h=>h) (Or.inl ⟨by rfl,?_⟩) ?_ ?_
   rotate_left
   ·intro w'
    go_simp
    with_reducible rfl
   rotate_left
   ·simp only [Act.put,sT,sZ,sS,iW,iV]
    rfl
   refine take_ (i:=1) (N:=some 5) (v:=?_) (a':=?_) #[J,J,O,O,O,O,O,O,O,O,O,O,O,O,O,O] rfl rfl (take_ofW HT_.out HW_.out (by kernel_rfl)) (fun _ _ _ h=>h) (Or.inl ⟨by rfl,?_⟩) hHeld ?_ ?_
   rotate_left
   ·rintro w' ⟨s0,s1,s2,s3,s4,s5⟩
    go_simp
    with_reducible rfl
   rotate_left
   ·simp only [Act.put,sT,sZ,sS,iW,iV]
    rfl
   refine pure_ (i:=2) (N:=some 6) (v:=?_) (a':=?_) #[J,J,J,O,O,O,O,O,O,O,O,O,O,O,O,O] rfl rfl (any_of HT_.out (by kernel_rfl)) (fun _ _ _ h=>h) (Or.inl ⟨by rfl,?_⟩) ?_ ?_
   rotate_left
   ·intro w'
    go_simp
    with_reducible rfl
   rotate_left
   ·simp only [Act.put,sT,sZ,sS,iW,iV]
    rfl
   refine pure_ (i:=3) (N:=some 7) (v:=?_) (a':=?_) #[J,J,J,J,O,O,O,O,O,O,O,O,O,O,O,O] rfl rfl (any_of HT_.out (by kernel_rfl)) (fun _ _ _ h=>h) (Or.inl ⟨by rfl,?_⟩) ?_ ?_
   rotate_left
   ·intro w'
    go_simp
    with_reducible rfl
   rotate_left
   ·simp only [Act.put,sT,sZ,sS,iW,iV]
    rfl
   refine pure_ (i:=4) (N:=some 8) (v:=undef) (a':=?_) #[J,J,J,J,J,O,O,O,O,O,O,O,O,O,O,O] rfl rfl (any_of HT_.out (by kernel_rfl)) (fun _ _ _ h=>h) (Or.inr ⟨by rfl,rfl⟩) ?_ ?_
   rotate_left
   ·simp only [Act.put,sT,sZ,sS,iW,iV]
    rfl
   refine pure_ (i:=5) (N:=some 9) (v:=undef) (a':=?_) #[J,J,J,J,J,J,O,O,O,O,O,O,O,O,O,O] rfl rfl (any_of HT_.out (by kernel_rfl)) (fun _ _ _ h=>h) (Or.inr ⟨by rfl,rfl⟩) ?_ ?_
   rotate_left
   ·simp only [Act.put,sT,sZ,sS,iW,iV]
    rfl
   refine pure_ (i:=6) (N:=some 10) (v:=undef) (a':=?_) #[J,J,J,J,J,J,J,O,O,O,O,O,O,O,O,O] rfl rfl (any_of HT_.out (by kernel_rfl)) (fun _ _ _ h=>h) (Or.inr ⟨by rfl,rfl⟩) ?_ ?_
   rotate_left
   ·simp only [Act.put,sT,sZ,sS,iW,iV]
    rfl
   refine pure_ (i:=7) (N:=some 11) (v:=?_) (a':=?_) #[J,J,J,J,J,J,J,J,O,O,O,O,O,O,O,O] rfl rfl (any_of HT_.out (by kernel_rfl)) (fun _ _ _ h=>h) (Or.inl ⟨by rfl,?_⟩) ?_ ?_
   rotate_left
   ·intro w'
    go_simp
    with_reducible rfl
   rotate_left
   ·simp only [Act.put,sT,sZ,sS,iW,iV]
    rfl
   refine pure_ (i:=8) (N:=some 12) (v:=?_) (a':=?_) #[J,J,J,J,J,J,J,J,J,O,O,O,O,O,O,O] rfl rfl (any_of HT_.out (by kernel_rfl)) (fun _ _ _ h=>h) (Or.inl ⟨by rfl,?_⟩) ?_ ?_
   rotate_left
   ·intro w'
    go_simp
    with_reducible rfl
   rotate_left
   ·simp only [Act.put,sT,sZ,sS,iW,iV]
    rfl
   refine pure_ (i:=9) (N:=some 13) (v:=undef) (a':=?_) #[J,J,J,J,J,J,J,J,J,J,O,O,O,O,O,O] rfl rfl (any_of HT_.out (by kernel_rfl)) (fun _ _ _ h=>h) (Or.inr ⟨by rfl,rfl⟩) ?_ ?_
   rotate_left
   ·simp only [Act.put,sT,sZ,sS,iW,iV]
    rfl
   refine pure_ (i:=10) (N:=some 14) (v:=undef) (a':=?_) #[J,J,J,J,J,J,J,J,J,J,J,O,O,O,O,O] rfl rfl (any_of HT_.out (by kernel_rfl)) (fun _ _ _ h=>h) (Or.inr ⟨by rfl,rfl⟩) ?_ ?_
   rotate_left
   ·simp only [Act.put,sT,sZ,sS,iW,iV]
    rfl
   refine pure_ (i:=11) (N:=some 15) (v:=undef) (a':=?_) #[J,J,J,J,J,J,J,J,J,J,J,J,O,O,O,O] rfl rfl (any_of HT_.out (by kernel_rfl)) (fun _ _ _ h=>h) (Or.inr ⟨by rfl,rfl⟩) ?_ ?_
   rotate_left
   ·simp only [Act.put,sT,sZ,sS,iW,iV]
    rfl
   refine pure_ (i:=12) (N:=some 16) (v:=undef) (a':=?_) #[J,J,J,J,J,J,J,J,J,J,J,J,J,O,O,O] rfl rfl (any_of HT_.out (by kernel_rfl)) (fun _ _ _ h=>h) (Or.inr ⟨by rfl,rfl⟩) ?_ ?_
   rotate_left
   ·simp only [Act.put,sT,sZ,sS,iW,iV]
    rfl
   refine pure_ (i:=13) (N:=some 17) (v:=undef) (a':=?_) #[J,J,J,J,J,J,J,J,J,J,J,J,J,J,O,O] rfl rfl (any_of HT_.out (by kernel_rfl)) (fun _ _ _ h=>h) (Or.inr ⟨by rfl,rfl⟩) ?_ ?_
   rotate_left
   ·simp only [Act.put,sT,sZ,sS,iW,iV]
    rfl
   refine pure_ (i:=14) (N:=some 18) (v:=?_) (a':=?_) #[J,J,J,J,J,J,J,J,J,J,J,J,J,J,J,O] rfl rfl (any_of HT_.out (by kernel_rfl)) (fun _ _ _ h=>h) (Or.inl ⟨by rfl,?_⟩) ?_ ?_
   rotate_left
   ·intro w'
    go_simp
    with_reducible rfl
   rotate_left
   ·simp only [Act.put,sT,sZ,sS,iW,iV]
    rfl
   refine pure_ (i:=15) (N:=some 3) (v:=?_) (a':=?_) #[J,J,J,J,J,J,J,J,J,J,J,J,J,J,J,J] rfl rfl (any_of HT_.out (by kernel_rfl)) (fun _ _ _ h=>h) (Or.inl ⟨by rfl,?_⟩) ?_ ?_
   rotate_left
   ·intro w'
    go_simp
    with_reducible rfl
   rotate_left
   ·simp only [Act.put,sT,sZ,sS,iW,iV]
    rfl
   refine done_ (done_of HT_.out (by kernel_rfl)) ?_
   obtain ⟨X135_0,X135_1,X135_2,X135_3,X135_4,X135_5,Y135_0,Y135_1,Y135_2,Y135_3,Y135_4,Y135_5⟩:=kc6 (w:=w134) (g:=gb102) BK102.out
   try go_wp2_with (first|(go_at_call 26;(with_reducible refine (script_Name.calls a0_1 true _ ?side1 A107.out).mono ?_);(case side1=>exact Glob.below HG.out (by repeat (first|(with_reducible first|exact HB.out|apply bL|apply pN|apply bE|refine bS ?_ GE102.out)|exact HB.out)));rintro e w136 ⟨rfl,hb⟩;have n0_:=Am (blk_below (g:=gb102) (by (with_reducible repeat (first|refine bN ?_ _|refine bD ?_|refine bA ?_ _));exact BK102.out) hb);have n1_:=Am (below_step (by repeat (first|(with_reducible first|exact HB.out|apply bL|apply pN|apply bE|refine bS ?_ GE102.out)|exact HB.out)) hb);clear BK102;clear HB;have BK102:=n0_;have HB:=n1_;clear n0_ n1_;obtain ⟨X137_0,X137_1,X137_2,X137_3,X137_4,X137_5,Y137_0,Y137_1,Y137_2,Y137_3,Y137_4,Y137_5⟩:=kc6 (w:=w136) (g:=gb102) BK102.out))
   go_ret
   exact ⟨by first|rfl|(simp [errW_none,errW_some] <;> rfl)|(simp [*,errW_none,errW_some] <;> rfl),by repeat (first|(with_reducible first|exact HB.out|apply bL|apply pN|apply bE|refine bS ?_ GE102.out)|exact HB.out)⟩
  rw [if_pos c109] at H
  have c109b0 : decide (1≤a0_2) = true:=decide_eq_true c109
  clear c109
  by_cases c110 : a0_2≤1024
  rotate_left
  ·rw [if_neg c110] at H
   have c110b0 : decide (a0_2≤1024) = false:=decide_eq_false c110
   clear c110
   obtain rfl:=Option.some.inj H
   go_enter Tryd.func19,Tryd.ntmps19
   try go_wp2_with (first|((with_reducible refine gD (N:=1) rfl ?_);refine box_event ?hg (N:=1) ?hd (cs:=#[.int .u32 a0_0,.string a0_1,.int .i64 a0_2,.int .i64 a0_3,.int .i64 a0_4,.int .i64 a0_5]) (t:=24) ?hr ?_;(case hd=>rfl);(case hg=>rfl);(case hr=>first|(go_simp;done)|(go_simp;rfl));intro gb102 hg w128 hbox hb;have n0_:=Am (below_step (by repeat (first|(with_reducible first|exact HB.out|apply bL|apply pN|apply bE)|exact HB.out)) hb);have n1_:=Am (hbox);have n2_:=Am ((by rw [hg];exact (bZ (by repeat (first|(with_reducible first|exact HB.out|apply bL|apply pN|apply bE)|exact HB.out))) : w.heap.size≤gb102));have n3_:=n2_;clear HB;have HB:=n0_;have BK102:=n1_;have GW102:=n2_;have GE102:=n3_;clear n0_ n1_ n2_ n3_;clear hb hbox hg))
   have n0_:=Am (bD BK102.out)
   have n1_:=Am (bE HB.out)
   clear BK102
   clear HB
   have BK102:=n0_
   have HB:=n1_
   clear n0_ n1_
   refine start_ (n:=16) (S:=fun w'=>w'.cell? ⟨gb102,0,none⟩ = some (.int .u32 a0_0)∧w'.cell? ⟨gb102,1,none⟩ = some (.string a0_1)∧w'.cell? ⟨gb102,2,none⟩ = some (.int .i64 a0_2)∧w'.cell? ⟨gb102,3,none⟩ = some (.int .i64 a0_3)∧w'.cell? ⟨gb102,4,none⟩ = some (.int .i64 a0_4)∧w'.cell? ⟨gb102,5,none⟩ = some (.int .i64 a0_5)) (ds:=[]) #[O,O,O,O,O,O,O,O,O,O,O,O,O,O,O,O] (by kernel_rfl) rfl rfl ⟨(bC BK102.out 0).trans rfl,(bC BK102.out 1).trans rfl,(bC BK102.out 2).trans rfl,(bC BK102.out 3).trans rfl,(bC BK102.out 4).trans rfl,(bC BK102.out 5).trans rfl⟩ (fun hHeld=>?_);refine with_tabW book_right.tab1 book_right.bits1 (fun HT_ HW_=>?_)
   generalize w128.drew = w129 at BK102 HB hHeld ⊢
   refine pure_ (i:=0) (N:=some 4) (v:=?_) (a':=?_) #[J,O,O,O,O,O,O,O,O,O,O,O,O,O,O,O] rfl rfl (any_of HT_.out (by kernel_rfl)) (fun _ _ _ h=>h) (Or.inl ⟨by rfl,?_⟩) ?_ ?_
   rotate_left
   ·intro w'
    go_simp
    with_reducible rfl
   rotate_left
   ·simp only [Act.put,sT,sZ,sS,iW,iV]
    rfl
   refine take_ (i:=1) (N:=some 5) (v:=?_) (a':=?_) #[J,J,O,O,O,O,O,O,O,O,O,O,O,O,O,O] rfl rfl (take_ofW HT_.out HW_.out (by kernel_rfl)) (fun _ _ _ h=>h) (Or.inl ⟨by rfl,?_⟩) hHeld ?_ ?_
   rotate_left
   ·rintro w' ⟨s0,s1,s2,s3,s4,s5⟩
    go_simp
    with_reducible rfl
   rotate_left
   ·simp only [Act.put,sT,sZ,sS,iW,iV]
    rfl
   refine pure_ (i:=2) (N:=some 6) (v:=?_) (a':=?_) #[J,J,J,O,O,O,O,O,O,O,O,O,O,O,O,O] rfl rfl (any_of HT_.out (by kernel_rfl)) (fun _ _ _ h=>h) (Or.inl ⟨by rfl,?_⟩) ?_ ?_
   rotate_left
   ·intro w'
    go_simp
    with_reducible rfl
   rotate_left
   ·simp only [Act.put,sT,sZ,sS,iW,iV]
    rfl
   refine pure_ (i:=3) (N:=some 7) (v:=?_) (a':=?_) #[J,J,J,J,O,O,O,O,O,O,O,O,O,O,O,O] rfl rfl (any_of HT_.out (by kernel_rfl)) (fun _ _ _ h=>h) (Or.inl ⟨by rfl,?_⟩) ?_ ?_
   rotate_left
   ·intro w'
    go_simp
    with_reducible rfl
   rotate_left
   ·simp only [Act.put,sT,sZ,sS,iW,iV]
    rfl
   refine pure_ (i:=4) (N:=some 8) (v:=undef) (a':=?_) #[J,J,J,J,J,O,O,O,O,O,O,O,O,O,O,O] rfl rfl (any_of HT_.out (by kernel_rfl)) (fun _ _ _ h=>h) (Or.inr ⟨by rfl,rfl⟩) ?_ ?_
   rotate_left
   ·simp only [Act.put,sT,sZ,sS,iW,iV]
    rfl
   refine pure_ (i:=5) (N:=some 9) (v:=undef) (a':=?_) #[J,J,J,J,J,J,O,O,O,O,O,O,O,O,O,O] rfl rfl (any_of HT_.out (by kernel_rfl)) (fun _ _ _ h=>h) (Or.inr ⟨by rfl,rfl⟩) ?_ ?_
   rotate_left
   ·simp only [Act.put,sT,sZ,sS,iW,iV]
    rfl
   refine pure_ (i:=6) (N:=some 10) (v:=undef) (a':=?_) #[J,J,J,J,J,J,J,O,O,O,O,O,O,O,O,O] rfl rfl (any_of HT_.out (by kernel_rfl)) (fun _ _ _ h=>h) (Or.inr ⟨by rfl,rfl⟩) ?_ ?_
   rotate_left
   ·simp only [Act.put,sT,sZ,sS,iW,iV]
    rfl
   refine pure_ (i:=7) (N:=some 11) (v:=?_) (a':=?_) #[J,J,J,J,J,J,J,J,O,O,O,O,O,O,O,O] rfl rfl (any_of HT_.out (by kernel_rfl)) (fun _ _ _ h=>h) (Or.inl ⟨by rfl,?_⟩) ?_ ?_
   rotate_left
   ·intro w'
    go_simp
    with_reducible rfl
   rotate_left
   ·simp only [Act.put,sT,sZ,sS,iW,iV]
    rfl
   refine pure_ (i:=8) (N:=some 12) (v:=?_) (a':=?_) #[J,J,J,J,J,J,J,J,J,O,O,O,O,O,O,O] rfl rfl (any_of HT_.out (by kernel_rfl)) (fun _ _ _ h=>h) (Or.inl ⟨by rfl,?_⟩) ?_ ?_
   rotate_left
   ·intro w'
    go_simp
    with_reducible rfl
   rotate_left
   ·simp only [Act.put,sT,sZ,sS,iW,iV]
    rfl
   refine pure_ (i:=9) (N:=some 13) (v:=undef) (a':=?_) #[J,J,J,J,J,J,J,J,J,J,O,O,O,O,O,O] rfl rfl (any_of HT_.out (by kernel_rfl)) (fun _ _ _ h=>h) (Or.inr ⟨by rfl,rfl⟩) ?_ ?_
   rotate_left
   ·simp only [Act.put,sT,sZ,sS,iW,iV]
    rfl
   refine pure_ (i:=10) (N:=some 14) (v:=undef) (a':=?_) #[J,J,J,J,J,J,J,J,J,J,J,O,O,O,O,O] rfl rfl (any_of HT_.out (by kernel_rfl)) (fun _ _ _ h=>h) (Or.inr ⟨by rfl,rfl⟩) ?_ ?_
   rotate_left
   ·simp only [Act.put,sT,sZ,sS,iW,iV]
    rfl
   refine pure_ (i:=11) (N:=some 15) (v:=undef) (a':=?_) #[J,J,J,J,J,J,J,J,J,J,J,J,O,O,O,O] rfl rfl (any_of HT_.out (by kernel_rfl)) (fun _ _ _ h=>h) (Or.inr ⟨by rfl,rfl⟩) ?_ ?_
   rotate_left
   ·simp only [Act.put,sT,sZ,sS,iW,iV]
    rfl
   refine pure_ (i:=12) (N:=some 16) (v:=undef) (a':=?_) #[J,J,J,J,J,J,J,J,J,J,J,J,J,O,O,O] rfl rfl (any_of HT_.out (by kernel_rfl)) (fun _ _ _ h=>h) (Or.inr ⟨by rfl,rfl⟩) ?_ ?_
   rotate_left
   ·simp only [Act.put,sT,sZ,sS,iW,iV]
    rfl
   refine pure_ (i:=13) (N:=some 17) (v:=undef) (a':=?_) #[J,J,J,J,J,J,J,J,J,J,J,J,J,J,O,O] rfl rfl (any_of HT_.out (by kernel_rfl)) (fun _ _ _ h=>h) (Or.inr ⟨by rfl,rfl⟩) ?_ ?_
   rotate_left
   ·simp only [Act.put,sT,sZ,sS,iW,iV]
    rfl
   refine pure_ (i:=14) (N:=some 18) (v:=?_) (a':=?_) #[J,J,J,J,J,J,J,J,J,J,J,J,J,J,J,O] rfl rfl (any_of HT_.out (by kernel_rfl)) (fun _ _ _ h=>h) (Or.inl ⟨by rfl,?_⟩) ?_ ?_
   rotate_left
   ·intro w'
    go_simp
    with_reducible rfl
   rotate_left
   ·simp only [Act.put,sT,sZ,sS,iW,iV]
    rfl
   refine pure_ (i:=15) (N:=some 3) (v:=?_) (a':=?_) #[J,J,J,J,J,J,J,J,J,J,J,J,J,J,J,J] rfl rfl (any_of HT_.out (by kernel_rfl)) (fun _ _ _ h=>h) (Or.inl ⟨by rfl,?_⟩) ?_ ?_
   rotate_left
   ·intro w'
    go_simp
    with_reducible rfl
   rotate_left
   ·simp only [Act.put,sT,sZ,sS,iW,iV]
    rfl
   refine done_ (done_of HT_.out (by kernel_rfl)) ?_
   obtain ⟨X130_0,X130_1,X130_2,X130_3,X130_4,X130_5,Y130_0,Y130_1,Y130_2,Y130_3,Y130_4,Y130_5⟩:=kc6 (w:=w129) (g:=gb102) BK102.out
   try go_wp2_with (first|(go_at_call 26;(with_reducible refine (script_Name.calls a0_1 true _ ?side1 A107.out).mono ?_);(case side1=>exact Glob.below HG.out (by repeat (first|(with_reducible first|exact HB.out|apply bL|apply pN|apply bE|refine bS ?_ GE102.out)|exact HB.out)));rintro e w131 ⟨rfl,hb⟩;have n0_:=Am (blk_below (g:=gb102) (by (with_reducible repeat (first|refine bN ?_ _|refine bD ?_|refine bA ?_ _));exact BK102.out) hb);have n1_:=Am (below_step (by repeat (first|(with_reducible first|exact HB.out|apply bL|apply pN|apply bE|refine bS ?_ GE102.out)|exact HB.out)) hb);clear BK102;clear HB;have BK102:=n0_;have HB:=n1_;clear n0_ n1_;obtain ⟨X132_0,X132_1,X132_2,X132_3,X132_4,X132_5,Y132_0,Y132_1,Y132_2,Y132_3,Y132_4,Y132_5⟩:=kc6 (w:=w131) (g:=gb102) BK102.out))
   go_ret
   exact ⟨by first|rfl|(simp [errW_none,errW_some] <;> rfl)|(simp [*,errW_none,errW_some] <;> rfl),by repeat (first|(with_reducible first|exact HB.out|apply bL|apply pN|apply bE|refine bS ?_ GE102.out)|exact HB.out)⟩
  rw [if_pos c110] at H
  have c110b0 : decide (a0_2≤1024) = true:=decide_eq_true c110
  clear c110
  by_cases c111 : a0_3 ≥ 0
  rotate_left
  ·rw [if_neg c111] at H
   have c111b0 : decide (0≤a0_3) = false:=decide_eq_false c111
   clear c111
   obtain rfl:=Option.some.inj H
   go_enter Tryd.func19,Tryd.ntmps19
   try go_wp2_with (first|((with_reducible refine gD (N:=1) rfl ?_);refine box_event ?hg (N:=1) ?hd (cs:=#[.int .u32 a0_0,.string a0_1,.int .i64 a0_2,.int .i64 a0_3,.int .i64 a0_4,.int .i64 a0_5]) (t:=24) ?hr ?_;(case hd=>rfl);(case hg=>rfl);(case hr=>first|(go_simp;done)|(go_simp;rfl));intro gb102 hg w123 hbox hb;have n0_:=Am (below_step (by repeat (first|(with_reducible first|exact HB.out|apply bL|apply pN|apply bE)|exact HB.out)) hb);have n1_:=Am (hbox);have n2_:=Am ((by rw [hg];exact (bZ (by repeat (first|(with_reducible first|exact HB.out|apply bL|apply pN|apply bE)|exact HB.out))) : w.heap.size≤gb102));have n3_:=n2_;clear HB;have HB:=n0_;have BK102:=n1_;have GW102:=n2_;have GE102:=n3_;clear n0_ n1_ n2_ n3_;clear hb hbox hg))
   have n0_:=Am (bD BK102.out)
   have n1_:=Am (bE HB.out)
   clear BK102
   clear HB
   have BK102:=n0_
   have HB:=n1_
   clear n0_ n1_
   refine start_ (n:=16) (S:=fun w'=>w'.cell? ⟨gb102,0,none⟩ = some (.int .u32 a0_0)∧w'.cell? ⟨gb102,1,none⟩ = some (.string a0_1)∧w'.cell? ⟨gb102,2,none⟩ = some (.int .i64 a0_2)∧w'.cell? ⟨gb102,3,none⟩ = some (.int .i64 a0_3)∧w'.cell? ⟨gb102,4,none⟩ = some (.int .i64 a0_4)∧w'.cell? ⟨gb102,5,none⟩ = some (.int .i64 a0_5)) (ds:=[]) #[O,O,O,O,O,O,O,O,O,O,O,O,O,O,O,O] (by kernel_rfl) rfl rfl ⟨(bC BK102.out 0).trans rfl,(bC BK102.out 1).trans rfl,(bC BK102.out 2).trans rfl,(bC BK102.out 3).trans rfl,(bC BK102.out 4).trans rfl,(bC BK102.out 5).trans rfl⟩ (fun hHeld=>?_);refine with_tabW book_right.tab1 book_right.bits1 (fun HT_ HW_=>?_)
   generalize w123.drew = w124 at BK102 HB hHeld ⊢
   refine pure_ (i:=0) (N:=some 4) (v:=?_) (a':=?_) #[J,O,O,O,O,O,O,O,O,O,O,O,O,O,O,O] rfl rfl (any_of HT_.out (by kernel_rfl)) (fun _ _ _ h=>h) (Or.inl ⟨by rfl,?_⟩) ?_ ?_
   rotate_left
   ·intro w'
    go_simp
    with_reducible rfl
   rotate_left
   ·simp only [Act.put,sT,sZ,sS,iW,iV]
    rfl
   refine take_ (i:=1) (N:=some 5) (v:=?_) (a':=?_) #[J,J,O,O,O,O,O,O,O,O,O,O,O,O,O,O] rfl rfl (take_ofW HT_.out HW_.out (by kernel_rfl)) (fun _ _ _ h=>h) (Or.inl ⟨by rfl,?_⟩) hHeld ?_ ?_
   rotate_left
   ·rintro w' ⟨s0,s1,s2,s3,s4,s5⟩
    go_simp
    with_reducible rfl
   rotate_left
   ·simp only [Act.put,sT,sZ,sS,iW,iV]
    rfl
   refine pure_ (i:=2) (N:=some 6) (v:=?_) (a':=?_) #[J,J,J,O,O,O,O,O,O,O,O,O,O,O,O,O] rfl rfl (any_of HT_.out (by kernel_rfl)) (fun _ _ _ h=>h) (Or.inl ⟨by rfl,?_⟩) ?_ ?_
   rotate_left
   ·intro w'
    go_simp
    with_reducible rfl
   rotate_left
   ·simp only [Act.put,sT,sZ,sS,iW,iV]
    rfl
   refine pure_ (i:=3) (N:=some 7) (v:=?_) (a':=?_) #[J,J,J,J,O,O,O,O,O,O,O,O,O,O,O,O] rfl rfl (any_of HT_.out (by kernel_rfl)) (fun _ _ _ h=>h) (Or.inl ⟨by rfl,?_⟩) ?_ ?_
   rotate_left
   ·intro w'
    go_simp
    with_reducible rfl
   rotate_left
   ·simp only [Act.put,sT,sZ,sS,iW,iV]
    rfl
   refine pure_ (i:=4) (N:=some 8) (v:=undef) (a':=?_) #[J,J,J,J,J,O,O,O,O,O,O,O,O,O,O,O] rfl rfl (any_of HT_.out (by kernel_rfl)) (fun _ _ _ h=>h) (Or.inr ⟨by rfl,rfl⟩) ?_ ?_
   rotate_left
   ·simp only [Act.put,sT,sZ,sS,iW,iV]
    rfl
   refine pure_ (i:=5) (N:=some 9) (v:=undef) (a':=?_) #[J,J,J,J,J,J,O,O,O,O,O,O,O,O,O,O] rfl rfl (any_of HT_.out (by kernel_rfl)) (fun _ _ _ h=>h) (Or.inr ⟨by rfl,rfl⟩) ?_ ?_
   rotate_left
   ·simp only [Act.put,sT,sZ,sS,iW,iV]
    rfl
   refine pure_ (i:=6) (N:=some 10) (v:=undef) (a':=?_) #[J,J,J,J,J,J,J,O,O,O,O,O,O,O,O,O] rfl rfl (any_of HT_.out (by kernel_rfl)) (fun _ _ _ h=>h) (Or.inr ⟨by rfl,rfl⟩) ?_ ?_
   rotate_left
   ·simp only [Act.put,sT,sZ,sS,iW,iV]
    rfl
   refine pure_ (i:=7) (N:=some 11) (v:=?_) (a':=?_) #[J,J,J,J,J,J,J,J,O,O,O,O,O,O,O,O] rfl rfl (any_of HT_.out (by kernel_rfl)) (fun _ _ _ h=>h) (Or.inl ⟨by rfl,?_⟩) ?_ ?_
   rotate_left
   ·intro w'
    go_simp
    with_reducible rfl
   rotate_left
   ·simp only [Act.put,sT,sZ,sS,iW,iV]
    rfl
   refine pure_ (i:=8) (N:=some 12) (v:=?_) (a':=?_) #[J,J,J,J,J,J,J,J,J,O,O,O,O,O,O,O] rfl rfl (any_of HT_.out (by kernel_rfl)) (fun _ _ _ h=>h) (Or.inl ⟨by rfl,?_⟩) ?_ ?_
   rotate_left
   ·intro w'
    go_simp
    with_reducible rfl
   rotate_left
   ·simp only [Act.put,sT,sZ,sS,iW,iV]
    rfl
   refine pure_ (i:=9) (N:=some 13) (v:=undef) (a':=?_) #[J,J,J,J,J,J,J,J,J,J,O,O,O,O,O,O] rfl rfl (any_of HT_.out (by kernel_rfl)) (fun _ _ _ h=>h) (Or.inr ⟨by rfl,rfl⟩) ?_ ?_
   rotate_left
   ·simp only [Act.put,sT,sZ,sS,iW,iV]
    rfl
   refine pure_ (i:=10) (N:=some 14) (v:=undef) (a':=?_) #[J,J,J,J,J,J,J,J,J,J,J,O,O,O,O,O] rfl rfl (any_of HT_.out (by kernel_rfl)) (fun _ _ _ h=>h) (Or.inr ⟨by rfl,rfl⟩) ?_ ?_
   rotate_left
   ·simp only [Act.put,sT,sZ,sS,iW,iV]
    rfl
   refine pure_ (i:=11) (N:=some 15) (v:=undef) (a':=?_) #[J,J,J,J,J,J,J,J,J,J,J,J,O,O,O,O] rfl rfl (any_of HT_.out (by kernel_rfl)) (fun _ _ _ h=>h) (Or.inr ⟨by rfl,rfl⟩) ?_ ?_
   rotate_left
   ·simp only [Act.put,sT,sZ,sS,iW,iV]
    rfl
   refine pure_ (i:=12) (N:=some 16) (v:=undef) (a':=?_) #[J,J,J,J,J,J,J,J,J,J,J,J,J,O,O,O] rfl rfl (any_of HT_.out (by kernel_rfl)) (fun _ _ _ h=>h) (Or.inr ⟨by rfl,rfl⟩) ?_ ?_
   rotate_left
   ·simp only [Act.put,sT,sZ,sS,iW,iV]
    rfl
   refine pure_ (i:=13) (N:=some 17) (v:=undef) (a':=?_) #[J,J,J,J,J,J,J,J,J,J,J,J,J,J,O,O] rfl rfl (any_of HT_.out (by kernel_rfl)) (fun _ _ _ h=>h) (Or.inr ⟨by rfl,rfl⟩) ?_ ?_
   rotate_left
   ·simp only [Act.put,sT,sZ,sS,iW,iV]
    rfl
   refine pure_ (i:=14) (N:=some 18) (v:=?_) (a':=?_) #[J,J,J,J,J,J,J,J,J,J,J,J,J,J,J,O] rfl rfl (any_of HT_.out (by kernel_rfl)) (fun _ _ _ h=>h) (Or.inl ⟨by rfl,?_⟩) ?_ ?_
   rotate_left
   ·intro w'
    go_simp
    with_reducible rfl
   rotate_left
   ·simp only [Act.put,sT,sZ,sS,iW,iV]
    rfl
   refine pure_ (i:=15) (N:=some 3) (v:=?_) (a':=?_) #[J,J,J,J,J,J,J,J,J,J,J,J,J,J,J,J] rfl rfl (any_of HT_.out (by kernel_rfl)) (fun _ _ _ h=>h) (Or.inl ⟨by rfl,?_⟩) ?_ ?_
   rotate_left
   ·intro w'
    go_simp
    with_reducible rfl
   rotate_left
   ·simp only [Act.put,sT,sZ,sS,iW,iV]
    rfl
   refine done_ (done_of HT_.out (by kernel_rfl)) ?_
   obtain ⟨X125_0,X125_1,X125_2,X125_3,X125_4,X125_5,Y125_0,Y125_1,Y125_2,Y125_3,Y125_4,Y125_5⟩:=kc6 (w:=w124) (g:=gb102) BK102.out
   try go_wp2_with (first|(go_at_call 26;(with_reducible refine (script_Name.calls a0_1 true _ ?side1 A107.out).mono ?_);(case side1=>exact Glob.below HG.out (by repeat (first|(with_reducible first|exact HB.out|apply bL|apply pN|apply bE|refine bS ?_ GE102.out)|exact HB.out)));rintro e w126 ⟨rfl,hb⟩;have n0_:=Am (blk_below (g:=gb102) (by (with_reducible repeat (first|refine bN ?_ _|refine bD ?_|refine bA ?_ _));exact BK102.out) hb);have n1_:=Am (below_step (by repeat (first|(with_reducible first|exact HB.out|apply bL|apply pN|apply bE|refine bS ?_ GE102.out)|exact HB.out)) hb);clear BK102;clear HB;have BK102:=n0_;have HB:=n1_;clear n0_ n1_;obtain ⟨X127_0,X127_1,X127_2,X127_3,X127_4,X127_5,Y127_0,Y127_1,Y127_2,Y127_3,Y127_4,Y127_5⟩:=kc6 (w:=w126) (g:=gb102) BK102.out))
   go_ret
   exact ⟨by first|rfl|(simp [errW_none,errW_some] <;> rfl)|(simp [*,errW_none,errW_some] <;> rfl),by repeat (first|(with_reducible first|exact HB.out|apply bL|apply pN|apply bE|refine bS ?_ GE102.out)|exact HB.out)⟩
  rw [if_pos c111] at H
  have c111b0 : decide (0≤a0_3) = true:=decide_eq_true c111
  clear c111
  by_cases c112 : a0_3≤1073741824
  ·rw [if_pos c112] at H
   have c112b0 : decide (a0_3≤1073741824) = true:=decide_eq_true c112
   clear c112
   obtain rfl:=Option.some.inj H
   go_enter Tryd.func19,Tryd.ntmps19
   try go_wp2_with (first|((with_reducible refine gD (N:=1) rfl ?_);refine box_event ?hg (N:=1) ?hd (cs:=#[.int .u32 a0_0,.string a0_1,.int .i64 a0_2,.int .i64 a0_3,.int .i64 a0_4,.int .i64 a0_5]) (t:=24) ?hr ?_;(case hd=>rfl);(case hg=>rfl);(case hr=>first|(go_simp;done)|(go_simp;rfl));intro gb102 hg w113 hbox hb;have n0_:=Am (below_step (by repeat (first|(with_reducible first|exact HB.out|apply bL|apply pN|apply bE)|exact HB.out)) hb);have n1_:=Am (hbox);have n2_:=Am ((by rw [hg];exact (bZ (by repeat (first|(with_reducible first|exact HB.out|apply bL|apply pN|apply bE)|exact HB.out))) : w.heap.size≤gb102));have n3_:=n2_;clear HB;have HB:=n0_;have BK102:=n1_;have GW102:=n2_;have GE102:=n3_;clear n0_ n1_ n2_ n3_;clear hb hbox hg))
   have n0_:=Am (bD BK102.out)
   have n1_:=Am (bE HB.out)
   clear BK102
   clear HB
   have BK102:=n0_
   have HB:=n1_
   clear n0_ n1_
   refine start_ (n:=16) (S:=fun w'=>w'.cell? ⟨gb102,0,none⟩ = some (.int .u32 a0_0)∧w'.cell? ⟨gb102,1,none⟩ = some (.string a0_1)∧w'.cell? ⟨gb102,2,none⟩ = some (.int .i64 a0_2)∧w'.cell? ⟨gb102,3,none⟩ = some (.int .i64 a0_3)∧w'.cell? ⟨gb102,4,none⟩ = some (.int .i64 a0_4)∧w'.cell? ⟨gb102,5,none⟩ = some (.int .i64 a0_5)) (ds:=[]) #[O,O,O,O,O,O,O,O,O,O,O,O,O,O,O,O] (by kernel_rfl) rfl rfl ⟨(bC BK102.out 0).trans rfl,(bC BK102.out 1).trans rfl,(bC BK102.out 2).trans rfl,(bC BK102.out 3).trans rfl,(bC BK102.out 4).trans rfl,(bC BK102.out 5).trans rfl⟩ (fun hHeld=>?_);refine with_tabW book_right.tab1 book_right.bits1 (fun HT_ HW_=>?_)
   generalize w113.drew = w114 at BK102 HB hHeld ⊢
   refine pure_ (i:=0) (N:=some 4) (v:=?_) (a':=?_) #[J,O,O,O,O,O,O,O,O,O,O,O,O,O,O,O] rfl rfl (any_of HT_.out (by kernel_rfl)) (fun _ _ _ h=>h) (Or.inl ⟨by rfl,?_⟩) ?_ ?_
   rotate_left
   ·intro w'
    go_simp
    with_reducible rfl
   rotate_left
   ·simp only [Act.put,sT,sZ,sS,iW,iV]
    rfl
   refine take_ (i:=1) (N:=some 5) (v:=?_) (a':=?_) #[J,J,O,O,O,O,O,O,O,O,O,O,O,O,O,O] rfl rfl (take_ofW HT_.out HW_.out (by kernel_rfl)) (fun _ _ _ h=>h) (Or.inl ⟨by rfl,?_⟩) hHeld ?_ ?_
   rotate_left
   ·rintro w' ⟨s0,s1,s2,s3,s4,s5⟩
    go_simp
    with_reducible rfl
   rotate_left
   ·simp only [Act.put,sT,sZ,sS,iW,iV]
    rfl
   refine pure_ (i:=2) (N:=some 6) (v:=?_) (a':=?_) #[J,J,J,O,O,O,O,O,O,O,O,O,O,O,O,O] rfl rfl (any_of HT_.out (by kernel_rfl)) (fun _ _ _ h=>h) (Or.inl ⟨by rfl,?_⟩) ?_ ?_
   rotate_left
   ·intro w'
    go_simp
    with_reducible rfl
   rotate_left
   ·simp only [Act.put,sT,sZ,sS,iW,iV]
    rfl
   refine pure_ (i:=3) (N:=some 7) (v:=?_) (a':=?_) #[J,J,J,J,O,O,O,O,O,O,O,O,O,O,O,O] rfl rfl (any_of HT_.out (by kernel_rfl)) (fun _ _ _ h=>h) (Or.inl ⟨by rfl,?_⟩) ?_ ?_
   rotate_left
   ·intro w'
    go_simp
    with_reducible rfl
   rotate_left
   ·simp only [Act.put,sT,sZ,sS,iW,iV]
    rfl
   refine pure_ (i:=4) (N:=some 8) (v:=undef) (a':=?_) #[J,J,J,J,J,O,O,O,O,O,O,O,O,O,O,O] rfl rfl (any_of HT_.out (by kernel_rfl)) (fun _ _ _ h=>h) (Or.inr ⟨by rfl,rfl⟩) ?_ ?_
   rotate_left
   ·simp only [Act.put,sT,sZ,sS,iW,iV]
    rfl
   refine pure_ (i:=5) (N:=some 9) (v:=undef) (a':=?_) #[J,J,J,J,J,J,O,O,O,O,O,O,O,O,O,O] rfl rfl (any_of HT_.out (by kernel_rfl)) (fun _ _ _ h=>h) (Or.inr ⟨by rfl,rfl⟩) ?_ ?_
   rotate_left
   ·simp only [Act.put,sT,sZ,sS,iW,iV]
    rfl
   refine pure_ (i:=6) (N:=some 10) (v:=undef) (a':=?_) #[J,J,J,J,J,J,J,O,O,O,O,O,O,O,O,O] rfl rfl (any_of HT_.out (by kernel_rfl)) (fun _ _ _ h=>h) (Or.inr ⟨by rfl,rfl⟩) ?_ ?_
   rotate_left
   ·simp only [Act.put,sT,sZ,sS,iW,iV]
    rfl
   refine pure_ (i:=7) (N:=some 11) (v:=?_) (a':=?_) #[J,J,J,J,J,J,J,J,O,O,O,O,O,O,O,O] rfl rfl (any_of HT_.out (by kernel_rfl)) (fun _ _ _ h=>h) (Or.inl ⟨by rfl,?_⟩) ?_ ?_
   rotate_left
   ·intro w'
    go_simp
    with_reducible rfl
   rotate_left
   ·simp only [Act.put,sT,sZ,sS,iW,iV]
    rfl
   refine pure_ (i:=8) (N:=some 12) (v:=?_) (a':=?_) #[J,J,J,J,J,J,J,J,J,O,O,O,O,O,O,O] rfl rfl (any_of HT_.out (by kernel_rfl)) (fun _ _ _ h=>h) (Or.inl ⟨by rfl,?_⟩) ?_ ?_
   rotate_left
   ·intro w'
    go_simp
    with_reducible rfl
   rotate_left
   ·simp only [Act.put,sT,sZ,sS,iW,iV]
    rfl
   refine pure_ (i:=9) (N:=some 13) (v:=undef) (a':=?_) #[J,J,J,J,J,J,J,J,J,J,O,O,O,O,O,O] rfl rfl (any_of HT_.out (by kernel_rfl)) (fun _ _ _ h=>h) (Or.inr ⟨by rfl,rfl⟩) ?_ ?_
   rotate_left
   ·simp only [Act.put,sT,sZ,sS,iW,iV]
    rfl
   refine pure_ (i:=10) (N:=some 14) (v:=undef) (a':=?_) #[J,J,J,J,J,J,J,J,J,J,J,O,O,O,O,O] rfl rfl (any_of HT_.out (by kernel_rfl)) (fun _ _ _ h=>h) (Or.inr ⟨by rfl,rfl⟩) ?_ ?_
   rotate_left
   ·simp only [Act.put,sT,sZ,sS,iW,iV]
    rfl
   refine pure_ (i:=11) (N:=some 15) (v:=undef) (a':=?_) #[J,J,J,J,J,J,J,J,J,J,J,J,O,O,O,O] rfl rfl (any_of HT_.out (by kernel_rfl)) (fun _ _ _ h=>h) (Or.inr ⟨by rfl,rfl⟩) ?_ ?_
   rotate_left
   ·simp only [Act.put,sT,sZ,sS,iW,iV]
    rfl
   refine pure_ (i:=12) (N:=some 16) (v:=undef) (a':=?_) #[J,J,J,J,J,J,J,J,J,J,J,J,J,O,O,O] rfl rfl (any_of HT_.out (by kernel_rfl)) (fun _ _ _ h=>h) (Or.inr ⟨by rfl,rfl⟩) ?_ ?_
   rotate_left
   ·simp only [Act.put,sT,sZ,sS,iW,iV]
    rfl
   refine pure_ (i:=13) (N:=some 17) (v:=undef) (a':=?_) #[J,J,J,J,J,J,J,J,J,J,J,J,J,J,O,O] rfl rfl (any_of HT_.out (by kernel_rfl)) (fun _ _ _ h=>h) (Or.inr ⟨by rfl,rfl⟩) ?_ ?_
   rotate_left
   ·simp only [Act.put,sT,sZ,sS,iW,iV]
    rfl
   refine pure_ (i:=14) (N:=some 18) (v:=?_) (a':=?_) #[J,J,J,J,J,J,J,J,J,J,J,J,J,J,J,O] rfl rfl (any_of HT_.out (by kernel_rfl)) (fun _ _ _ h=>h) (Or.inl ⟨by rfl,?_⟩) ?_ ?_
   rotate_left
   ·intro w'
    go_simp
    with_reducible rfl
   rotate_left
   ·simp only [Act.put,sT,sZ,sS,iW,iV]
    rfl
   refine pure_ (i:=15) (N:=some 3) (v:=?_) (a':=?_) #[J,J,J,J,J,J,J,J,J,J,J,J,J,J,J,J] rfl rfl (any_of HT_.out (by kernel_rfl)) (fun _ _ _ h=>h) (Or.inl ⟨by rfl,?_⟩) ?_ ?_
   rotate_left
   ·intro w'
    go_simp
    with_reducible rfl
   rotate_left
   ·simp only [Act.put,sT,sZ,sS,iW,iV]
    rfl
   refine done_ (done_of HT_.out (by kernel_rfl)) ?_
   obtain ⟨X115_0,X115_1,X115_2,X115_3,X115_4,X115_5,Y115_0,Y115_1,Y115_2,Y115_3,Y115_4,Y115_5⟩:=kc6 (w:=w114) (g:=gb102) BK102.out
   try go_wp2_with (first|(go_at_call 26;(with_reducible refine (script_Name.calls a0_1 true _ ?side1 A107.out).mono ?_);(case side1=>exact Glob.below HG.out (by repeat (first|(with_reducible first|exact HB.out|apply bL|apply pN|apply bE|refine bS ?_ GE102.out)|exact HB.out)));rintro e w116 ⟨rfl,hb⟩;have n0_:=Am (blk_below (g:=gb102) (by (with_reducible repeat (first|refine bN ?_ _|refine bD ?_|refine bA ?_ _));exact BK102.out) hb);have n1_:=Am (below_step (by repeat (first|(with_reducible first|exact HB.out|apply bL|apply pN|apply bE|refine bS ?_ GE102.out)|exact HB.out)) hb);clear BK102;clear HB;have BK102:=n0_;have HB:=n1_;clear n0_ n1_;obtain ⟨X117_0,X117_1,X117_2,X117_3,X117_4,X117_5,Y117_0,Y117_1,Y117_2,Y117_3,Y117_4,Y117_5⟩:=kc6 (w:=w116) (g:=gb102) BK102.out))
   go_ret
   exact ⟨by first|rfl|(simp [errW_none,errW_some] <;> rfl)|(simp [*,errW_none,errW_some] <;> rfl),by repeat (first|(with_reducible first|exact HB.out|apply bL|apply pN|apply bE|refine bS ?_ GE102.out)|exact HB.out)⟩
  rw [if_neg c112] at H
  have c112b0 : decide (a0_3≤1073741824) = false:=decide_eq_false c112
  clear c112
  obtain rfl:=Option.some.inj H
  go_enter Tryd.func19,Tryd.ntmps19
  try go_wp2_with (first|((with_reducible refine gD (N:=1) rfl ?_);refine box_event ?hg (N:=1) ?hd (cs:=#[.int .u32 a0_0,.string a0_1,.int .i64 a0_2,.int .i64 a0_3,.int .i64 a0_4,.int .i64 a0_5]) (t:=24) ?hr ?_;(case hd=>rfl);(case hg=>rfl);(case hr=>first|(go_simp;done)|(go_simp;rfl));intro gb102 hg w118 hbox hb;have n0_:=Am (below_step (by repeat (first|(with_reducible first|exact HB.out|apply bL|apply pN|apply bE)|exact HB.out)) hb);have n1_:=Am (hbox);have n2_:=Am ((by rw [hg];exact (bZ (by repeat (first|(with_reducible first|exact HB.out|apply bL|apply pN|apply bE)|exact HB.out))) : w.heap.size≤gb102));have n3_:=n2_;clear HB;have HB:=n0_;have BK102:=n1_;have GW102:=n2_;have GE102:=n3_;clear n0_ n1_ n2_ n3_;clear hb hbox hg))
  have n0_:=Am (bD BK102.out)
  have n1_:=Am (bE HB.out)
  clear BK102
  clear HB
  have BK102:=n0_
  have HB:=n1_
  clear n0_ n1_
  refine start_ (n:=16) (S:=fun w'=>w'.cell? ⟨gb102,0,none⟩ = some (.int .u32 a0_0)∧w'.cell? ⟨gb102,1,none⟩ = some (.string a0_1)∧w'.cell? ⟨gb102,2,none⟩ = some (.int .i64 a0_2)∧w'.cell? ⟨gb102,3,none⟩ = some (.int .i64 a0_3)∧w'.cell? ⟨gb102,4,none⟩ = some (.int .i64 a0_4)∧w'.cell? ⟨gb102,5,none⟩ = some (.int .i64 a0_5)) (ds:=[]) #[O,O,O,O,O,O,O,O,O,O,O,O,O,O,O,O] (by kernel_rfl) rfl rfl ⟨(bC BK102.out 0).trans rfl,(bC BK102.out 1).trans rfl,(bC BK102.out 2).trans rfl,(bC BK102.out 3).trans rfl,(bC BK102.out 4).trans rfl,(bC BK102.out 5).trans rfl⟩ (fun hHeld=>?_);refine with_tabW book_right.tab1 book_right.bits1 (fun HT_ HW_=>?_)
  generalize w118.drew = w119 at BK102 HB hHeld ⊢
  refine pure_ (i:=0) (N:=some 4) (v:=?_) (a':=?_) #[J,O,O,O,O,O,O,O,O,O,O,O,O,O,O,O] rfl rfl (any_of HT_.out (by kernel_rfl)) (fun _ _ _ h=>h) (Or.inl ⟨by rfl,?_⟩) ?_ ?_
  rotate_left
  ·intro w'
   go_simp
   with_reducible rfl
  rotate_left
  ·simp only [Act.put,sT,sZ,sS,iW,iV]
   rfl
  refine take_ (i:=1) (N:=some 5) (v:=?_) (a':=?_) #[J,J,O,O,O,O,O,O,O,O,O,O,O,O,O,O] rfl rfl (take_ofW HT_.out HW_.out (by kernel_rfl)) (fun _ _ _ h=>h) (Or.inl ⟨by rfl,?_⟩) hHeld ?_ ?_
  rotate_left
  ·rintro w' ⟨s0,s1,s2,s3,s4,s5⟩
   go_simp
   with_reducible rfl
  rotate_left
  ·simp only [Act.put,sT,sZ,sS,iW,iV]
   rfl
  refine pure_ (i:=2) (N:=some 6) (v:=?_) (a':=?_) #[J,J,J,O,O,O,O,O,O,O,O,O,O,O,O,O] rfl rfl (any_of HT_.out (by kernel_rfl)) (fun _ _ _ h=>h) (Or.inl ⟨by rfl,?_⟩) ?_ ?_
  rotate_left
  ·intro w'
   go_simp
   with_reducible rfl
  rotate_left
  ·simp only [Act.put,sT,sZ,sS,iW,iV]
   rfl
  refine pure_ (i:=3) (N:=some 7) (v:=?_) (a':=?_) #[J,J,J,J,O,O,O,O,O,O,O,O,O,O,O,O] rfl rfl (any_of HT_.out (by kernel_rfl)) (fun _ _ _ h=>h) (Or.inl ⟨by rfl,?_⟩) ?_ ?_
  rotate_left
  ·intro w'
   go_simp
   with_reducible rfl
  rotate_left
  ·simp only [Act.put,sT,sZ,sS,iW,iV]
   rfl
  refine pure_ (i:=4) (N:=some 8) (v:=undef) (a':=?_) #[J,J,J,J,J,O,O,O,O,O,O,O,O,O,O,O] rfl rfl (any_of HT_.out (by kernel_rfl)) (fun _ _ _ h=>h) (Or.inr ⟨by rfl,rfl⟩) ?_ ?_
  rotate_left
  ·simp only [Act.put,sT,sZ,sS,iW,iV]
   rfl
  refine pure_ (i:=5) (N:=some 9) (v:=undef) (a':=?_) #[J,J,J,J,J,J,O,O,O,O,O,O,O,O,O,O] rfl rfl (any_of HT_.out (by kernel_rfl)) (fun _ _ _ h=>h) (Or.inr ⟨by rfl,rfl⟩) ?_ ?_
  rotate_left
  ·simp only [Act.put,sT,sZ,sS,iW,iV]
   rfl
  refine pure_ (i:=6) (N:=some 10) (v:=undef) (a':=?_) #[J,J,J,J,J,J,J,O,O,O,O,O,O,O,O,O] rfl rfl (any_of HT_.out (by kernel_rfl)) (fun _ _ _ h=>h) (Or.inr ⟨by rfl,rfl⟩) ?_ ?_
  rotate_left
  ·simp only [Act.put,sT,sZ,sS,iW,iV]
   rfl
  refine pure_ (i:=7) (N:=some 11) (v:=?_) (a':=?_) #[J,J,J,J,J,J,J,J,O,O,O,O,O,O,O,O] rfl rfl (any_of HT_.out (by kernel_rfl)) (fun _ _ _ h=>h) (Or.inl ⟨by rfl,?_⟩) ?_ ?_
  rotate_left
  ·intro w'
   go_simp
   with_reducible rfl
  rotate_left
  ·simp only [Act.put,sT,sZ,sS,iW,iV]
   rfl
  refine pure_ (i:=8) (N:=some 12) (v:=?_) (a':=?_) #[J,J,J,J,J,J,J,J,J,O,O,O,O,O,O,O] rfl rfl (any_of HT_.out (by kernel_rfl)) (fun _ _ _ h=>h) (Or.inl ⟨by rfl,?_⟩) ?_ ?_
  rotate_left
  ·intro w'
   go_simp
   with_reducible rfl
  rotate_left
  ·simp only [Act.put,sT,sZ,sS,iW,iV]
   rfl
  refine pure_ (i:=9) (N:=some 13) (v:=undef) (a':=?_) #[J,J,J,J,J,J,J,J,J,J,O,O,O,O,O,O] rfl rfl (any_of HT_.out (by kernel_rfl)) (fun _ _ _ h=>h) (Or.inr ⟨by rfl,rfl⟩) ?_ ?_
  rotate_left
  ·simp only [Act.put,sT,sZ,sS,iW,iV]
   rfl
  refine pure_ (i:=10) (N:=some 14) (v:=undef) (a':=?_) #[J,J,J,J,J,J,J,J,J,J,J,O,O,O,O,O] rfl rfl (any_of HT_.out (by kernel_rfl)) (fun _ _ _ h=>h) (Or.inr ⟨by rfl,rfl⟩) ?_ ?_
  rotate_left
  ·simp only [Act.put,sT,sZ,sS,iW,iV]
   rfl
  refine pure_ (i:=11) (N:=some 15) (v:=undef) (a':=?_) #[J,J,J,J,J,J,J,J,J,J,J,J,O,O,O,O] rfl rfl (any_of HT_.out (by kernel_rfl)) (fun _ _ _ h=>h) (Or.inr ⟨by rfl,rfl⟩) ?_ ?_
  rotate_left
  ·simp only [Act.put,sT,sZ,sS,iW,iV]
   rfl
  refine pure_ (i:=12) (N:=some 16) (v:=undef) (a':=?_) #[J,J,J,J,J,J,J,J,J,J,J,J,J,O,O,O] rfl rfl (any_of HT_.out (by kernel_rfl)) (fun _ _ _ h=>h) (Or.inr ⟨by rfl,rfl⟩) ?_ ?_
  rotate_left
  ·simp only [Act.put,sT,sZ,sS,iW,iV]
   rfl
  refine pure_ (i:=13) (N:=some 17) (v:=undef) (a':=?_) #[J,J,J,J,J,J,J,J,J,J,J,J,J,J,O,O] rfl rfl (any_of HT_.out (by kernel_rfl)) (fun _ _ _ h=>h) (Or.inr ⟨by rfl,rfl⟩) ?_ ?_
  rotate_left
  ·simp only [Act.put,sT,sZ,sS,iW,iV]
   rfl
  refine pure_ (i:=14) (N:=some 18) (v:=?_) (a':=?_) #[J,J,J,J,J,J,J,J,J,J,J,J,J,J,J,O] rfl rfl (any_of HT_.out (by kernel_rfl)) (fun _ _ _ h=>h) (Or.inl ⟨by rfl,?_⟩) ?_ ?_
  rotate_left
  ·intro w'
   go_simp
   with_reducible rfl
  rotate_left
  ·simp only [Act.put,sT,sZ,sS,iW,iV]
   rfl
  refine pure_ (i:=15) (N:=some 3) (v:=?_) (a':=?_) #[J,J,J,J,J,J,J,J,J,J,J,J,J,J,J,J] rfl rfl (any_of HT_.out (by kernel_rfl)) (fun _ _ _ h=>h) (Or.inl ⟨by rfl,?_⟩) ?_ ?_
  rotate_left
  ·intro w'
   go_simp
   with_reducible rfl
  rotate_left
  ·simp only [Act.put,sT,sZ,sS,iW,iV]
   rfl
  refine done_ (done_of HT_.out (by kernel_rfl)) ?_
  obtain ⟨X120_0,X120_1,X120_2,X120_3,X120_4,X120_5,Y120_0,Y120_1,Y120_2,Y120_3,Y120_4,Y120_5⟩:=kc6 (w:=w119) (g:=gb102) BK102.out
  try go_wp2_with (first|(go_at_call 26;(with_reducible refine (script_Name.calls a0_1 true _ ?side1 A107.out).mono ?_);(case side1=>exact Glob.below HG.out (by repeat (first|(with_reducible first|exact HB.out|apply bL|apply pN|apply bE|refine bS ?_ GE102.out)|exact HB.out)));rintro e w121 ⟨rfl,hb⟩;have n0_:=Am (blk_below (g:=gb102) (by (with_reducible repeat (first|refine bN ?_ _|refine bD ?_|refine bA ?_ _));exact BK102.out) hb);have n1_:=Am (below_step (by repeat (first|(with_reducible first|exact HB.out|apply bL|apply pN|apply bE|refine bS ?_ GE102.out)|exact HB.out)) hb);clear BK102;clear HB;have BK102:=n0_;have HB:=n1_;clear n0_ n1_;obtain ⟨X122_0,X122_1,X122_2,X122_3,X122_4,X122_5,Y122_0,Y122_1,Y122_2,Y122_3,Y122_4,Y122_5⟩:=kc6 (w:=w121) (g:=gb102) BK102.out))
  go_ret
  exact ⟨by first|rfl|(simp [errW_none,errW_some] <;> rfl)|(simp [*,errW_none,errW_some] <;> rfl),by repeat (first|(with_reducible first|exact HB.out|apply bL|apply pN|apply bE|refine bS ?_ GE102.out)|exact HB.out)⟩
 rw [if_pos c2] at H
 have c2b0 : decide (0≤a0_4) = true:=decide_eq_true c2
 clear c2
 by_cases c3 : a0_4 < 9
 rotate_left
 ·rw [if_neg c3] at H
  have c3b0 : decide (a0_4 < 9) = false:=decide_eq_false c3
  clear c3
  by_cases c67 : a0_0 > 0
  rotate_left
  ·rw [if_neg c67] at H
   have c67b0 : decide (0 < a0_0) = false:=decide_eq_false c67
   clear c67
   obtain rfl:=Option.some.inj H
   go_enter Tryd.func19,Tryd.ntmps19
   try go_wp2_with (first|((with_reducible refine gD (N:=1) rfl ?_);refine box_event ?hg (N:=1) ?hd (cs:=#[.int .u32 a0_0,.string a0_1,.int .i64 a0_2,.int .i64 a0_3,.int .i64 a0_4,.int .i64 a0_5]) (t:=24) ?hr ?_;(case hd=>rfl);(case hg=>rfl);(case hr=>first|(go_simp;done)|(go_simp;rfl));intro gb102 hg w103 hbox hb;have n0_:=Am (below_step (by repeat (first|(with_reducible first|exact HB.out|apply bL|apply pN|apply bE)|exact HB.out)) hb);have n1_:=Am (hbox);have n2_:=Am ((by rw [hg];exact (bZ (by repeat (first|(with_reducible first|exact HB.out|apply bL|apply pN|apply bE)|exact HB.out))) : w.heap.size≤gb102));have n3_:=n2_;clear HB;have HB:=n0_;have BK102:=n1_;have GW102:=n2_;have GE102:=n3_;clear n0_ n1_ n2_ n3_;clear hb hbox hg))
   have n0_:=Am (bD BK102.out)
   have n1_:=Am (bE HB.out)
   clear BK102
   clear HB
   have BK102:=n0_
   have HB:=n1_
   clear n0_ n1_
   refine start_ (n:=16) (S:=fun w'=>w'.cell? ⟨gb102,0,none⟩ = some (.int .u32 a0_0)∧w'.cell? ⟨gb102,1,none⟩ = some (.string a0_1)∧w'.cell? ⟨gb102,2,none⟩ = some (.int .i64 a0_2)∧w'.cell? ⟨gb102,3,none⟩ = some (.int .i64 a0_3)∧w'.cell? ⟨gb102,4,none⟩ = some (.int .i64 a0_4)∧w'.cell? ⟨gb102,5,none⟩ = some (.int .i64 a0_5)) (ds:=[]) #[O,O,O,O,O,O,O,O,O,O,O,O,O,O,O,O] (by kernel_rfl) rfl rfl ⟨(bC BK102.out 0).trans rfl,(bC BK102.out 1).trans rfl,(bC BK102.out 2).trans rfl,(bC BK102.out 3).trans rfl,(bC BK102.out 4).trans rfl,(bC BK102.out 5).trans rfl⟩ (fun hHeld=>?_);refine with_tabW book_right.tab1 book_right.bits1 (fun HT_ HW_=>?_)
   generalize w103.drew = w104 at BK102 HB hHeld ⊢
   refine pure_ (i:=0) (N:=some 4) (v:=?_) (a':=?_) #[J,O,O,O,O,O,O,O,O,O,O,O,O,O,O,O] rfl rfl (any_of HT_.out (by kernel_rfl)) (fun _ _ _ h=>h) (Or.inl ⟨by rfl,?_⟩) ?_ ?_
   rotate_left
   ·intro w'
    go_simp
    with_reducible rfl
   rotate_left
   ·simp only [Act.put,sT,sZ,sS,iW,iV]
    rfl
   refine take_ (i:=1) (N:=some 5) (v:=?_) (a':=?_) #[J,J,O,O,O,O,O,O,O,O,O,O,O,O,O,O] rfl rfl (take_ofW HT_.out HW_.out (by kernel_rfl)) (fun _ _ _ h=>h) (Or.inl ⟨by rfl,?_⟩) hHeld ?_ ?_
   rotate_left
   ·rintro w' ⟨s0,s1,s2,s3,s4,s5⟩
    go_simp
    with_reducible rfl
   rotate_left
   ·simp only [Act.put,sT,sZ,sS,iW,iV]
    rfl
   refine pure_ (i:=2) (N:=some 6) (v:=?_) (a':=?_) #[J,J,J,O,O,O,O,O,O,O,O,O,O,O,O,O] rfl rfl (any_of HT_.out (by kernel_rfl)) (fun _ _ _ h=>h) (Or.inl ⟨by rfl,?_⟩) ?_ ?_
   rotate_left
   ·intro w'
    go_simp
    with_reducible rfl
   rotate_left
   ·simp only [Act.put,sT,sZ,sS,iW,iV]
    rfl
   refine pure_ (i:=3) (N:=some 7) (v:=?_) (a':=?_) #[J,J,J,J,O,O,O,O,O,O,O,O,O,O,O,O] rfl rfl (any_of HT_.out (by kernel_rfl)) (fun _ _ _ h=>h) (Or.inl ⟨by rfl,?_⟩) ?_ ?_
   rotate_left
   ·intro w'
    go_simp
    with_reducible rfl
   rotate_left
   ·simp only [Act.put,sT,sZ,sS,iW,iV]
    rfl
   refine pure_ (i:=4) (N:=some 8) (v:=?_) (a':=?_) #[J,J,J,J,J,O,O,O,O,O,O,O,O,O,O,O] rfl rfl (any_of HT_.out (by kernel_rfl)) (fun _ _ _ h=>h) (Or.inl ⟨by rfl,?_⟩) ?_ ?_
   rotate_left
   ·intro w'
    go_simp
    with_reducible rfl
   rotate_left
   ·simp only [Act.put,sT,sZ,sS,iW,iV]
    rfl
   refine take_ (i:=5) (N:=some 9) (v:=?_) (a':=?_) #[J,J,J,J,J,J,O,O,O,O,O,O,O,O,O,O] rfl rfl (take_ofW HT_.out HW_.out (by kernel_rfl)) (fun _ _ _ h=>h) (Or.inl ⟨by rfl,?_⟩) hHeld ?_ ?_
   rotate_left
   ·rintro w' ⟨s0,s1,s2,s3,s4,s5⟩
    go_simp
    with_reducible rfl
   rotate_left
   ·simp only [Act.put,sT,sZ,sS,iW,iV]
    rfl
   refine pure_ (i:=6) (N:=some 10) (v:=?_) (a':=?_) #[J,J,J,J,J,J,J,O,O,O,O,O,O,O,O,O] rfl rfl (any_of HT_.out (by kernel_rfl)) (fun _ _ _ h=>h) (Or.inl ⟨by rfl,?_⟩) ?_ ?_
   rotate_left
   ·intro w'
    go_simp
    with_reducible rfl
   rotate_left
   ·simp only [Act.put,sT,sZ,sS,iW,iV]
    rfl
   refine pure_ (i:=7) (N:=some 11) (v:=?_) (a':=?_) #[J,J,J,J,J,J,J,J,O,O,O,O,O,O,O,O] rfl rfl (any_of HT_.out (by kernel_rfl)) (fun _ _ _ h=>h) (Or.inl ⟨by rfl,?_⟩) ?_ ?_
   rotate_left
   ·intro w'
    go_simp
    with_reducible rfl
   rotate_left
   ·simp only [Act.put,sT,sZ,sS,iW,iV]
    rfl
   refine pure_ (i:=8) (N:=some 12) (v:=?_) (a':=?_) #[J,J,J,J,J,J,J,J,J,O,O,O,O,O,O,O] rfl rfl (any_of HT_.out (by kernel_rfl)) (fun _ _ _ h=>h) (Or.inl ⟨by rfl,?_⟩) ?_ ?_
   rotate_left
   ·intro w'
    go_simp
    with_reducible rfl
   rotate_left
   ·simp only [Act.put,sT,sZ,sS,iW,iV]
    rfl
   refine pure_ (i:=9) (N:=some 13) (v:=undef) (a':=?_) #[J,J,J,J,J,J,J,J,J,J,O,O,O,O,O,O] rfl rfl (any_of HT_.out (by kernel_rfl)) (fun _ _ _ h=>h) (Or.inr ⟨by rfl,rfl⟩) ?_ ?_
   rotate_left
   ·simp only [Act.put,sT,sZ,sS,iW,iV]
    rfl
   refine pure_ (i:=10) (N:=some 14) (v:=undef) (a':=?_) #[J,J,J,J,J,J,J,J,J,J,J,O,O,O,O,O] rfl rfl (any_of HT_.out (by kernel_rfl)) (fun _ _ _ h=>h) (Or.inr ⟨by rfl,rfl⟩) ?_ ?_
   rotate_left
   ·simp only [Act.put,sT,sZ,sS,iW,iV]
    rfl
   refine pure_ (i:=11) (N:=some 15) (v:=undef) (a':=?_) #[J,J,J,J,J,J,J,J,J,J,J,J,O,O,O,O] rfl rfl (any_of HT_.out (by kernel_rfl)) (fun _ _ _ h=>h) (Or.inr ⟨by rfl,rfl⟩) ?_ ?_
   rotate_left
   ·simp only [Act.put,sT,sZ,sS,iW,iV]
    rfl
   refine pure_ (i:=12) (N:=some 16) (v:=undef) (a':=?_) #[J,J,J,J,J,J,J,J,J,J,J,J,J,O,O,O] rfl rfl (any_of HT_.out (by kernel_rfl)) (fun _ _ _ h=>h) (Or.inr ⟨by rfl,rfl⟩) ?_ ?_
   rotate_left
   ·simp only [Act.put,sT,sZ,sS,iW,iV]
    rfl
   refine pure_ (i:=13) (N:=some 17) (v:=undef) (a':=?_) #[J,J,J,J,J,J,J,J,J,J,J,J,J,J,O,O] rfl rfl (any_of HT_.out (by kernel_rfl)) (fun _ _ _ h=>h) (Or.inr ⟨by rfl,rfl⟩) ?_ ?_
   rotate_left
   ·simp only [Act.put,sT,sZ,sS,iW,iV]
    rfl
   refine pure_ (i:=14) (N:=some 18) (v:=?_) (a':=?_) #[J,J,J,J,J,J,J,J,J,J,J,J,J,J,J,O] rfl rfl (any_of HT_.out (by kernel_rfl)) (fun _ _ _ h=>h) (Or.inl ⟨by rfl,?_⟩) ?_ ?_
   rotate_left
   ·intro w'
    go_simp
    with_reducible rfl
   rotate_left
   ·simp only [Act.put,sT,sZ,sS,iW,iV]
    rfl
   refine pure_ (i:=15) (N:=some 3) (v:=?_) (a':=?_) #[J,J,J,J,J,J,J,J,J,J,J,J,J,J,J,J] rfl rfl (any_of HT_.out (by kernel_rfl)) (fun _ _ _ h=>h) (Or.inl ⟨by rfl,?_⟩) ?_ ?_
   rotate_left
   ·intro w'
    go_simp
    with_reducible rfl
   rotate_left
   ·simp only [Act.put,sT,sZ,sS,iW,iV]
    rfl
   refine done_ (done_of HT_.out (by kernel_rfl)) ?_
   obtain ⟨X105_0,X105_1,X105_2,X105_3,X105_4,X105_5,Y105_0,Y105_1,Y105_2,Y105_3,Y105_4,Y105_5⟩:=kc6 (w:=w104) (g:=gb102) BK102.out
   try go_wp2
   go_ret
   exact ⟨by first|rfl|(simp [errW_none,errW_some] <;> rfl)|(simp [*,errW_none,errW_some] <;> rfl),by repeat (first|(with_reducible first|exact HB.out|apply bL|apply pN|apply bE|refine bS ?_ GE102.out)|exact HB.out)⟩
  rw [if_pos c67] at H
  have c67b0 : decide (0 < a0_0) = true:=decide_eq_true c67
  clear c67
  replace H:=oB H
  obtain ⟨t113,A680,H⟩:=H
  try dsimp only at H
  have A68:=Am A680
  clear A680
  by_cases c69 : t113 = true
  rotate_left
  ·replace c69:=Bool.eq_false_iff.mpr c69
   subst c69
   have H1 : (some false) = some r:=by rw [if_neg (show ¬ (false = true) by decide)] at H;exact H
   clear H
   have H:=H1
   clear H1
   obtain rfl:=Option.some.inj H
   go_enter Tryd.func19,Tryd.ntmps19
   try go_wp2_with (first|((with_reducible refine gD (N:=1) rfl ?_);refine box_event ?hg (N:=1) ?hd (cs:=#[.int .u32 a0_0,.string a0_1,.int .i64 a0_2,.int .i64 a0_3,.int .i64 a0_4,.int .i64 a0_5]) (t:=24) ?hr ?_;(case hd=>rfl);(case hg=>rfl);(case hr=>first|(go_simp;done)|(go_simp;rfl));intro gb102 hg w99 hbox hb;have n0_:=Am (below_step (by repeat (first|(with_reducible first|exact HB.out|apply bL|apply pN|apply bE)|exact HB.out)) hb);have n1_:=Am (hbox);have n2_:=Am ((by rw [hg];exact (bZ (by repeat (first|(with_reducible first|exact HB.out|apply bL|apply pN|apply bE)|exact HB.out))) : w.heap.size≤gb102));have n3_:=n2_;clear HB;have HB:=n0_;have BK102:=n1_;have GW102:=n2_;have GE102:=n3_;clear n0_ n1_ n2_ n3_;clear hb hbox hg))
   have n0_:=Am (bD BK102.out)
   have n1_:=Am (bE HB.out)
   clear BK102
   clear HB
   have BK102:=n0_
   have HB:=n1_
   clear n0_ n1_
   refine start_ (n:=16) (S:=fun w'=>w'.cell? ⟨gb102,0,none⟩ = some (.int .u32 a0_0)∧w'.cell? ⟨gb102,1,none⟩ = some (.string a0_1)∧w'.cell? ⟨gb102,2,none⟩ = some (.int .i64 a0_2)∧w'.cell? ⟨gb102,3,none⟩ = some (.int .i64 a0_3)∧w'.cell? ⟨gb102,4,none⟩ = some (.int .i64 a0_4)∧w'.cell? ⟨gb102,5,none⟩ = some (.int .i64 a0_5)) (ds:=[]) #[O,O,O,O,O,O,O,O,O,O,O,O,O,O,O,O] (by kernel_rfl) rfl rfl ⟨(bC BK102.out 0).trans rfl,(bC BK102.out 1).trans rfl,(bC BK102.out 2).trans rfl,(bC BK102.out 3).trans rfl,(bC BK102.out 4).trans rfl,(bC BK102.out 5).trans rfl⟩ (fun hHeld=>?_);refine with_tabW book_right.tab1 book_right.bits1 (fun HT_ HW_=>?_)
   generalize w99.drew = w100 at BK102 HB hHeld ⊢
   refine pure_ (i:=0) (N:=some 4) (v:=?_) (a':=?_) #[J,O,O,O,O,O,O,O,O,O,O,O,O,O,O,O] rfl rfl (any_of HT_.out (by kernel_rfl)) (fun _ _ _ h=>h) (Or.inl ⟨by rfl,?_⟩) ?_ ?_
   rotate_left
   ·intro w'
    go_simp
    with_reducible rfl
   rotate_left
   ·simp only [Act.put,sT,sZ,sS,iW,iV]
    rfl
   refine take_ (i:=1) (N:=some 5) (v:=?_) (a':=?_) #[J,J,O,O,O,O,O,O,O,O,O,O,O,O,O,O] rfl rfl (take_ofW HT_.out HW_.out (by kernel_rfl)) (fun _ _ _ h=>h) (Or.inl ⟨by rfl,?_⟩) hHeld ?_ ?_
   rotate_left
   ·rintro w' ⟨s0,s1,s2,s3,s4,s5⟩
    go_simp
    with_reducible rfl
   rotate_left
   ·simp only [Act.put,sT,sZ,sS,iW,iV]
    rfl
   refine pure_ (i:=2) (N:=some 6) (v:=?_) (a':=?_) #[J,J,J,O,O,O,O,O,O,O,O,O,O,O,O,O] rfl rfl (any_of HT_.out (by kernel_rfl)) (fun _ _ _ h=>h) (Or.inl ⟨by rfl,?_⟩) ?_ ?_
   rotate_left
   ·intro w'
    go_simp
    with_reducible rfl
   rotate_left
   ·simp only [Act.put,sT,sZ,sS,iW,iV]
    rfl
   refine pure_ (i:=3) (N:=some 7) (v:=?_) (a':=?_) #[J,J,J,J,O,O,O,O,O,O,O,O,O,O,O,O] rfl rfl (any_of HT_.out (by kernel_rfl)) (fun _ _ _ h=>h) (Or.inl ⟨by rfl,?_⟩) ?_ ?_
   rotate_left
   ·intro w'
    go_simp
    with_reducible rfl
   rotate_left
   ·simp only [Act.put,sT,sZ,sS,iW,iV]
    rfl
   refine pure_ (i:=4) (N:=some 8) (v:=?_) (a':=?_) #[J,J,J,J,J,O,O,O,O,O,O,O,O,O,O,O] rfl rfl (any_of HT_.out (by kernel_rfl)) (fun _ _ _ h=>h) (Or.inl ⟨by rfl,?_⟩) ?_ ?_
   rotate_left
   ·intro w'
    go_simp
    with_reducible rfl
   rotate_left
   ·simp only [Act.put,sT,sZ,sS,iW,iV]
    rfl
   refine take_ (i:=5) (N:=some 9) (v:=?_) (a':=?_) #[J,J,J,J,J,J,O,O,O,O,O,O,O,O,O,O] rfl rfl (take_ofW HT_.out HW_.out (by kernel_rfl)) (fun _ _ _ h=>h) (Or.inl ⟨by rfl,?_⟩) hHeld ?_ ?_
   rotate_left
   ·rintro w' ⟨s0,s1,s2,s3,s4,s5⟩
    go_simp
    with_reducible rfl
   rotate_left
   ·simp only [Act.put,sT,sZ,sS,iW,iV]
    rfl
   refine pure_ (i:=6) (N:=some 10) (v:=?_) (a':=?_) #[J,J,J,J,J,J,J,O,O,O,O,O,O,O,O,O] rfl rfl (any_of HT_.out (by kernel_rfl)) (fun _ _ _ h=>h) (Or.inl ⟨by rfl,?_⟩) ?_ ?_
   rotate_left
   ·intro w'
    go_simp
    with_reducible rfl
   rotate_left
   ·simp only [Act.put,sT,sZ,sS,iW,iV]
    rfl
   refine pure_ (i:=7) (N:=some 11) (v:=?_) (a':=?_) #[J,J,J,J,J,J,J,J,O,O,O,O,O,O,O,O] rfl rfl (any_of HT_.out (by kernel_rfl)) (fun _ _ _ h=>h) (Or.inl ⟨by rfl,?_⟩) ?_ ?_
   rotate_left
   ·intro w'
    go_simp
    with_reducible rfl
   rotate_left
   ·simp only [Act.put,sT,sZ,sS,iW,iV]
    rfl
   refine pure_ (i:=8) (N:=some 12) (v:=?_) (a':=?_) #[J,J,J,J,J,J,J,J,J,O,O,O,O,O,O,O] rfl rfl (any_of HT_.out (by kernel_rfl)) (fun _ _ _ h=>h) (Or.inl ⟨by rfl,?_⟩) ?_ ?_
   rotate_left
   ·intro w'
    go_simp
    with_reducible rfl
   rotate_left
   ·simp only [Act.put,sT,sZ,sS,iW,iV]
    rfl
   refine pure_ (i:=9) (N:=some 13) (v:=undef) (a':=?_) #[J,J,J,J,J,J,J,J,J,J,O,O,O,O,O,O] rfl rfl (any_of HT_.out (by kernel_rfl)) (fun _ _ _ h=>h) (Or.inr ⟨by rfl,rfl⟩) ?_ ?_
   rotate_left
   ·simp only [Act.put,sT,sZ,sS,iW,iV]
    rfl
   refine pure_ (i:=10) (N:=some 14) (v:=undef) (a':=?_) #[J,J,J,J,J,J,J,J,J,J,J,O,O,O,O,O] rfl rfl (any_of HT_.out (by kernel_rfl)) (fun _ _ _ h=>h) (Or.inr ⟨by rfl,rfl⟩) ?_ ?_
   rotate_left
   ·simp only [Act.put,sT,sZ,sS,iW,iV]
    rfl
   refine pure_ (i:=11) (N:=some 15) (v:=undef) (a':=?_) #[J,J,J,J,J,J,J,J,J,J,J,J,O,O,O,O] rfl rfl (any_of HT_.out (by kernel_rfl)) (fun _ _ _ h=>h) (Or.inr ⟨by rfl,rfl⟩) ?_ ?_
   rotate_left
   ·simp only [Act.put,sT,sZ,sS,iW,iV]
    rfl
   refine pure_ (i:=12) (N:=some 16) (v:=undef) (a':=?_) #[J,J,J,J,J,J,J,J,J,J,J,J,J,O,O,O] rfl rfl (any_of HT_.out (by kernel_rfl)) (fun _ _ _ h=>h) (Or.inr ⟨by rfl,rfl⟩) ?_ ?_
   rotate_left
   ·simp only [Act.put,sT,sZ,sS,iW,iV]
    rfl
   refine pure_ (i:=13) (N:=some 17) (v:=undef) (a':=?_) #[J,J,J,J,J,J,J,J,J,J,J,J,J,J,O,O] rfl rfl (any_of HT_.out (by kernel_rfl)) (fun _ _ _ h=>h) (Or.inr ⟨by rfl,rfl⟩) ?_ ?_
   rotate_left
   ·simp only [Act.put,sT,sZ,sS,iW,iV]
    rfl
   refine pure_ (i:=14) (N:=some 18) (v:=?_) (a':=?_) #[J,J,J,J,J,J,J,J,J,J,J,J,J,J,J,O] rfl rfl (any_of HT_.out (by kernel_rfl)) (fun _ _ _ h=>h) (Or.inl ⟨by rfl,?_⟩) ?_ ?_
   rotate_left
   ·intro w'
    go_simp
    with_reducible rfl
   rotate_left
   ·simp only [Act.put,sT,sZ,sS,iW,iV]
    rfl
   refine pure_ (i:=15) (N:=some 3) (v:=?_) (a':=?_) #[J,J,J,J,J,J,J,J,J,J,J,J,J,J,J,J] rfl rfl (any_of HT_.out (by kernel_rfl)) (fun _ _ _ h=>h) (Or.inl ⟨by rfl,?_⟩) ?_ ?_
   rotate_left
   ·intro w'
    go_simp
    with_reducible rfl
   rotate_left
   ·simp only [Act.put,sT,sZ,sS,iW,iV]
    rfl
   refine done_ (done_of HT_.out (by kernel_rfl)) ?_
   obtain ⟨X101_0,X101_1,X101_2,X101_3,X101_4,X101_5,Y101_0,Y101_1,Y101_2,Y101_3,Y101_4,Y101_5⟩:=kc6 (w:=w100) (g:=gb102) BK102.out
   try go_wp2_with (first|(go_at_call 26;(with_reducible refine (script_Name.calls a0_1 false _ ?side1 A68.out).mono ?_);(case side1=>exact Glob.below HG.out (by repeat (first|(with_reducible first|exact HB.out|apply bL|apply pN|apply bE|refine bS ?_ GE102.out)|exact HB.out)));rintro e w102 ⟨rfl,hb⟩;have n0_:=Am (blk_below (g:=gb102) (by (with_reducible repeat (first|refine bN ?_ _|refine bD ?_|refine bA ?_ _));exact BK102.out) hb);have n1_:=Am (below_step (by repeat (first|(with_reducible first|exact HB.out|apply bL|apply pN|apply bE|refine bS ?_ GE102.out)|exact HB.out)) hb);clear BK102;clear HB;have BK102:=n0_;have HB:=n1_;clear n0_ n1_))
   go_ret
   exact ⟨by first|rfl|(simp [errW_none,errW_some] <;> rfl)|(simp [*,errW_none,errW_some] <;> rfl),by repeat (first|(with_reducible first|exact HB.out|apply bL|apply pN|apply bE|refine bS ?_ GE102.out)|exact HB.out)⟩
  subst c69
  have H1 : (if a0_2 ≥ 1 then (if a0_2≤1024 then (if a0_3 ≥ 0 then (if a0_3≤1073741824 then (some false) else (some false)) else (some false)) else (some false)) else (some false)) = some r:=by rw [if_pos rfl] at H;exact H
  clear H
  have H:=H1
  clear H1
  by_cases c70 : a0_2 ≥ 1
  rotate_left
  ·rw [if_neg c70] at H
   have c70b0 : decide (1≤a0_2) = false:=decide_eq_false c70
   clear c70
   obtain rfl:=Option.some.inj H
   go_enter Tryd.func19,Tryd.ntmps19
   try go_wp2_with (first|((with_reducible refine gD (N:=1) rfl ?_);refine box_event ?hg (N:=1) ?hd (cs:=#[.int .u32 a0_0,.string a0_1,.int .i64 a0_2,.int .i64 a0_3,.int .i64 a0_4,.int .i64 a0_5]) (t:=24) ?hr ?_;(case hd=>rfl);(case hg=>rfl);(case hr=>first|(go_simp;done)|(go_simp;rfl));intro gb102 hg w94 hbox hb;have n0_:=Am (below_step (by repeat (first|(with_reducible first|exact HB.out|apply bL|apply pN|apply bE)|exact HB.out)) hb);have n1_:=Am (hbox);have n2_:=Am ((by rw [hg];exact (bZ (by repeat (first|(with_reducible first|exact HB.out|apply bL|apply pN|apply bE)|exact HB.out))) : w.heap.size≤gb102));have n3_:=n2_;clear HB;have HB:=n0_;have BK102:=n1_;have GW102:=n2_;have GE102:=n3_;clear n0_ n1_ n2_ n3_;clear hb hbox hg))
   have n0_:=Am (bD BK102.out)
   have n1_:=Am (bE HB.out)
   clear BK102
   clear HB
   have BK102:=n0_
   have HB:=n1_
   clear n0_ n1_
   refine start_ (n:=16) (S:=fun w'=>w'.cell? ⟨gb102,0,none⟩ = some (.int .u32 a0_0)∧w'.cell? ⟨gb102,1,none⟩ = some (.string a0_1)∧w'.cell? ⟨gb102,2,none⟩ = some (.int .i64 a0_2)∧w'.cell? ⟨gb102,3,none⟩ = some (.int .i64 a0_3)∧w'.cell? ⟨gb102,4,none⟩ = some (.int .i64 a0_4)∧w'.cell? ⟨gb102,5,none⟩ = some (.int .i64 a0_5)) (ds:=[]) #[O,O,O,O,O,O,O,O,O,O,O,O,O,O,O,O] (by kernel_rfl) rfl rfl ⟨(bC BK102.out 0).trans rfl,(bC BK102.out 1).trans rfl,(bC BK102.out 2).trans rfl,(bC BK102.out 3).trans rfl,(bC BK102.out 4).trans rfl,(bC BK102.out 5).trans rfl⟩ (fun hHeld=>?_);refine with_tabW book_right.tab1 book_right.bits1 (fun HT_ HW_=>?_)
   generalize w94.drew = w95 at BK102 HB hHeld ⊢
   refine pure_ (i:=0) (N:=some 4) (v:=?_) (a':=?_) #[J,O,O,O,O,O,O,O,O,O,O,O,O,O,O,O] rfl rfl (any_of HT_.out (by kernel_rfl)) (fun _ _ _ h=>h) (Or.inl ⟨by rfl,?_⟩) ?_ ?_
   rotate_left
   ·intro w'
    go_simp
    with_reducible rfl
   rotate_left
   ·simp only [Act.put,sT,sZ,sS,iW,iV]
    rfl
   refine take_ (i:=1) (N:=some 5) (v:=?_) (a':=?_) #[J,J,O,O,O,O,O,O,O,O,O,O,O,O,O,O] rfl rfl (take_ofW HT_.out HW_.out (by kernel_rfl)) (fun _ _ _ h=>h) (Or.inl ⟨by rfl,?_⟩) hHeld ?_ ?_
   rotate_left
   ·rintro w' ⟨s0,s1,s2,s3,s4,s5⟩
    go_simp
    with_reducible rfl
   rotate_left
   ·simp only [Act.put,sT,sZ,sS,iW,iV]
    rfl
   refine pure_ (i:=2) (N:=some 6) (v:=?_) (a':=?_) #[J,J,J,O,O,O,O,O,O,O,O,O,O,O,O,O] rfl rfl (any_of HT_.out (by kernel_rfl)) (fun _ _ _ h=>h) (Or.inl ⟨by rfl,?_⟩) ?_ ?_
   rotate_left
   ·intro w'
    go_simp
    with_reducible rfl
   rotate_left
   ·simp only [Act.put,sT,sZ,sS,iW,iV]
    rfl
   refine pure_ (i:=3) (N:=some 7) (v:=?_) (a':=?_) #[J,J,J,J,O,O,O,O,O,O,O,O,O,O,O,O] rfl rfl (any_of HT_.out (by kernel_rfl)) (fun _ _ _ h=>h) (Or.inl ⟨by rfl,?_⟩) ?_ ?_
   rotate_left
   ·intro w'
    go_simp
    with_reducible rfl
   rotate_left
   ·simp only [Act.put,sT,sZ,sS,iW,iV]
    rfl
   refine pure_ (i:=4) (N:=some 8) (v:=?_) (a':=?_) #[J,J,J,J,J,O,O,O,O,O,O,O,O,O,O,O] rfl rfl (any_of HT_.out (by kernel_rfl)) (fun _ _ _ h=>h) (Or.inl ⟨by rfl,?_⟩) ?_ ?_
   rotate_left
   ·intro w'
    go_simp
    with_reducible rfl
   rotate_left
   ·simp only [Act.put,sT,sZ,sS,iW,iV]
    rfl
   refine take_ (i:=5) (N:=some 9) (v:=?_) (a':=?_) #[J,J,J,J,J,J,O,O,O,O,O,O,O,O,O,O] rfl rfl (take_ofW HT_.out HW_.out (by kernel_rfl)) (fun _ _ _ h=>h) (Or.inl ⟨by rfl,?_⟩) hHeld ?_ ?_
   rotate_left
   ·rintro w' ⟨s0,s1,s2,s3,s4,s5⟩
    go_simp
    with_reducible rfl
   rotate_left
   ·simp only [Act.put,sT,sZ,sS,iW,iV]
    rfl
   refine pure_ (i:=6) (N:=some 10) (v:=?_) (a':=?_) #[J,J,J,J,J,J,J,O,O,O,O,O,O,O,O,O] rfl rfl (any_of HT_.out (by kernel_rfl)) (fun _ _ _ h=>h) (Or.inl ⟨by rfl,?_⟩) ?_ ?_
   rotate_left
   ·intro w'
    go_simp
    with_reducible rfl
   rotate_left
   ·simp only [Act.put,sT,sZ,sS,iW,iV]
    rfl
   refine pure_ (i:=7) (N:=some 11) (v:=?_) (a':=?_) #[J,J,J,J,J,J,J,J,O,O,O,O,O,O,O,O] rfl rfl (any_of HT_.out (by kernel_rfl)) (fun _ _ _ h=>h) (Or.inl ⟨by rfl,?_⟩) ?_ ?_
   rotate_left
   ·intro w'
    go_simp
    with_reducible rfl
   rotate_left
   ·simp only [Act.put,sT,sZ,sS,iW,iV]
    rfl
   refine pure_ (i:=8) (N:=some 12) (v:=?_) (a':=?_) #[J,J,J,J,J,J,J,J,J,O,O,O,O,O,O,O] rfl rfl (any_of HT_.out (by kernel_rfl)) (fun _ _ _ h=>h) (Or.inl ⟨by rfl,?_⟩) ?_ ?_
   rotate_left
   ·intro w'
    go_simp
    with_reducible rfl
   rotate_left
   ·simp only [Act.put,sT,sZ,sS,iW,iV]
    rfl
   refine pure_ (i:=9) (N:=some 13) (v:=undef) (a':=?_) #[J,J,J,J,J,J,J,J,J,J,O,O,O,O,O,O] rfl rfl (any_of HT_.out (by kernel_rfl)) (fun _ _ _ h=>h) (Or.inr ⟨by rfl,rfl⟩) ?_ ?_
   rotate_left
   ·simp only [Act.put,sT,sZ,sS,iW,iV]
    rfl
   refine pure_ (i:=10) (N:=some 14) (v:=undef) (a':=?_) #[J,J,J,J,J,J,J,J,J,J,J,O,O,O,O,O] rfl rfl (any_of HT_.out (by kernel_rfl)) (fun _ _ _ h=>h) (Or.inr ⟨by rfl,rfl⟩) ?_ ?_
   rotate_left
   ·simp only [Act.put,sT,sZ,sS,iW,iV]
    rfl
   refine pure_ (i:=11) (N:=some 15) (v:=undef) (a':=?_) #[J,J,J,J,J,J,J,J,J,J,J,J,O,O,O,O] rfl rfl (any_of HT_.out (by kernel_rfl)) (fun _ _ _ h=>h) (Or.inr ⟨by rfl,rfl⟩) ?_ ?_
   rotate_left
   ·simp only [Act.put,sT,sZ,sS,iW,iV]
    rfl
   refine pure_ (i:=12) (N:=some 16) (v:=undef) (a':=?_) #[J,J,J,J,J,J,J,J,J,J,J,J,J,O,O,O] rfl rfl (any_of HT_.out (by kernel_rfl)) (fun _ _ _ h=>h) (Or.inr ⟨by rfl,rfl⟩) ?_ ?_
   rotate_left
   ·simp only [Act.put,sT,sZ,sS,iW,iV]
    rfl
   refine pure_ (i:=13) (N:=some 17) (v:=undef) (a':=?_) #[J,J,J,J,J,J,J,J,J,J,J,J,J,J,O,O] rfl rfl (any_of HT_.out (by kernel_rfl)) (fun _ _ _ h=>h) (Or.inr ⟨by rfl,rfl⟩) ?_ ?_
   rotate_left
   ·simp only [Act.put,sT,sZ,sS,iW,iV]
    rfl
   refine pure_ (i:=14) (N:=some 18) (v:=?_) (a':=?_) #[J,J,J,J,J,J,J,J,J,J,J,J,J,J,J,O] rfl rfl (any_of HT_.out (by kernel_rfl)) (fun _ _ _ h=>h) (Or.inl ⟨by rfl,?_⟩) ?_ ?_
   rotate_left
   ·intro w'
    go_simp
    with_reducible rfl
   rotate_left
   ·simp only [Act.put,sT,sZ,sS,iW,iV]
    rfl
   refine pure_ (i:=15) (N:=some 3) (v:=?_) (a':=?_) #[J,J,J,J,J,J,J,J,J,J,J,J,J,J,J,J] rfl rfl (any_of HT_.out (by kernel_rfl)) (fun _ _ _ h=>h) (Or.inl ⟨by rfl,?_⟩) ?_ ?_
   rotate_left
   ·intro w'
    go_simp
    with_reducible rfl
   rotate_left
   ·simp only [Act.put,sT,sZ,sS,iW,iV]
    rfl
   refine done_ (done_of HT_.out (by kernel_rfl)) ?_
   obtain ⟨X96_0,X96_1,X96_2,X96_3,X96_4,X96_5,Y96_0,Y96_1,Y96_2,Y96_3,Y96_4,Y96_5⟩:=kc6 (w:=w95) (g:=gb102) BK102.out
   try go_wp2_with (first|(go_at_call 26;(with_reducible refine (script_Name.calls a0_1 true _ ?side1 A68.out).mono ?_);(case side1=>exact Glob.below HG.out (by repeat (first|(with_reducible first|exact HB.out|apply bL|apply pN|apply bE|refine bS ?_ GE102.out)|exact HB.out)));rintro e w97 ⟨rfl,hb⟩;have n0_:=Am (blk_below (g:=gb102) (by (with_reducible repeat (first|refine bN ?_ _|refine bD ?_|refine bA ?_ _));exact BK102.out) hb);have n1_:=Am (below_step (by repeat (first|(with_reducible first|exact HB.out|apply bL|apply pN|apply bE|refine bS ?_ GE102.out)|exact HB.out)) hb);clear BK102;clear HB;have BK102:=n0_;have HB:=n1_;clear n0_ n1_;obtain ⟨X98_0,X98_1,X98_2,X98_3,X98_4,X98_5,Y98_0,Y98_1,Y98_2,Y98_3,Y98_4,Y98_5⟩:=kc6 (w:=w97) (g:=gb102) BK102.out))
   go_ret
   exact ⟨by first|rfl|(simp [errW_none,errW_some] <;> rfl)|(simp [*,errW_none,errW_some] <;> rfl),by repeat (first|(with_reducible first|exact HB.out|apply bL|apply pN|apply bE|refine bS ?_ GE102.out)|exact HB.out)⟩
  rw [if_pos c70] at H
  have c70b0 : decide (1≤a0_2) = true:=decide_eq_true c70
  clear c70
  by_cases c71 : a0_2≤1024
  rotate_left
  ·rw [if_neg c71] at H
   have c71b0 : decide (a0_2≤1024) = false:=decide_eq_false c71
   clear c71
   obtain rfl:=Option.some.inj H
   go_enter Tryd.func19,Tryd.ntmps19
   try go_wp2_with (first|((with_reducible refine gD (N:=1) rfl ?_);refine box_event ?hg (N:=1) ?hd (cs:=#[.int .u32 a0_0,.string a0_1,.int .i64 a0_2,.int .i64 a0_3,.int .i64 a0_4,.int .i64 a0_5]) (t:=24) ?hr ?_;(case hd=>rfl);(case hg=>rfl);(case hr=>first|(go_simp;done)|(go_simp;rfl));intro gb102 hg w89 hbox hb;have n0_:=Am (below_step (by repeat (first|(with_reducible first|exact HB.out|apply bL|apply pN|apply bE)|exact HB.out)) hb);have n1_:=Am (hbox);have n2_:=Am ((by rw [hg];exact (bZ (by repeat (first|(with_reducible first|exact HB.out|apply bL|apply pN|apply bE)|exact HB.out))) : w.heap.size≤gb102));have n3_:=n2_;clear HB;have HB:=n0_;have BK102:=n1_;have GW102:=n2_;have GE102:=n3_;clear n0_ n1_ n2_ n3_;clear hb hbox hg))
   have n0_:=Am (bD BK102.out)
   have n1_:=Am (bE HB.out)
   clear BK102
   clear HB
   have BK102:=n0_
   have HB:=n1_
   clear n0_ n1_
   refine start_ (n:=16) (S:=fun w'=>w'.cell? ⟨gb102,0,none⟩ = some (.int .u32 a0_0)∧w'.cell? ⟨gb102,1,none⟩ = some (.string a0_1)∧w'.cell? ⟨gb102,2,none⟩ = some (.int .i64 a0_2)∧w'.cell? ⟨gb102,3,none⟩ = some (.int .i64 a0_3)∧w'.cell? ⟨gb102,4,none⟩ = some (.int .i64 a0_4)∧w'.cell? ⟨gb102,5,none⟩ = some (.int .i64 a0_5)) (ds:=[]) #[O,O,O,O,O,O,O,O,O,O,O,O,O,O,O,O] (by kernel_rfl) rfl rfl ⟨(bC BK102.out 0).trans rfl,(bC BK102.out 1).trans rfl,(bC BK102.out 2).trans rfl,(bC BK102.out 3).trans rfl,(bC BK102.out 4).trans rfl,(bC BK102.out 5).trans rfl⟩ (fun hHeld=>?_);refine with_tabW book_right.tab1 book_right.bits1 (fun HT_ HW_=>?_)
   generalize w89.drew = w90 at BK102 HB hHeld ⊢
   refine pure_ (i:=0) (N:=some 4) (v:=?_) (a':=?_) #[J,O,O,O,O,O,O,O,O,O,O,O,O,O,O,O] rfl rfl (any_of HT_.out (by kernel_rfl)) (fun _ _ _ h=>h) (Or.inl ⟨by rfl,?_⟩) ?_ ?_
   rotate_left
   ·intro w'
    go_simp
    with_reducible rfl
   rotate_left
   ·simp only [Act.put,sT,sZ,sS,iW,iV]
    rfl
   refine take_ (i:=1) (N:=some 5) (v:=?_) (a':=?_) #[J,J,O,O,O,O,O,O,O,O,O,O,O,O,O,O] rfl rfl (take_ofW HT_.out HW_.out (by kernel_rfl)) (fun _ _ _ h=>h) (Or.inl ⟨by rfl,?_⟩) hHeld ?_ ?_
   rotate_left
   ·rintro w' ⟨s0,s1,s2,s3,s4,s5⟩
    go_simp
    with_reducible rfl
   rotate_left
   ·simp only [Act.put,sT,sZ,sS,iW,iV]
    rfl
   refine pure_ (i:=2) (N:=some 6) (v:=?_) (a':=?_) #[J,J,J,O,O,O,O,O,O,O,O,O,O,O,O,O] rfl rfl (any_of HT_.out (by kernel_rfl)) (fun _ _ _ h=>h) (Or.inl ⟨by rfl,?_⟩) ?_ ?_
   rotate_left
   ·intro w'
    go_simp
    with_reducible rfl
   rotate_left
   ·simp only [Act.put,sT,sZ,sS,iW,iV]
    rfl
   refine pure_ (i:=3) (N:=some 7) (v:=?_) (a':=?_) #[J,J,J,J,O,O,O,O,O,O,O,O,O,O,O,O] rfl rfl (any_of HT_.out (by kernel_rfl)) (fun _ _ _ h=>h) (Or.inl ⟨by rfl,?_⟩) ?_ ?_
   rotate_left
   ·intro w'
    go_simp
    with_reducible rfl
   rotate_left
   ·simp only [Act.put,sT,sZ,sS,iW,iV]
    rfl
   refine pure_ (i:=4) (N:=some 8) (v:=?_) (a':=?_) #[J,J,J,J,J,O,O,O,O,O,O,O,O,O,O,O] rfl rfl (any_of HT_.out (by kernel_rfl)) (fun _ _ _ h=>h) (Or.inl ⟨by rfl,?_⟩) ?_ ?_
   rotate_left
   ·intro w'
    go_simp
    with_reducible rfl
   rotate_left
   ·simp only [Act.put,sT,sZ,sS,iW,iV]
    rfl
   refine take_ (i:=5) (N:=some 9) (v:=?_) (a':=?_) #[J,J,J,J,J,J,O,O,O,O,O,O,O,O,O,O] rfl rfl (take_ofW HT_.out HW_.out (by kernel_rfl)) (fun _ _ _ h=>h) (Or.inl ⟨by rfl,?_⟩) hHeld ?_ ?_
   rotate_left
   ·rintro w' ⟨s0,s1,s2,s3,s4,s5⟩
    go_simp
    with_reducible rfl
   rotate_left
   ·simp only [Act.put,sT,sZ,sS,iW,iV]
    rfl
   refine pure_ (i:=6) (N:=some 10) (v:=?_) (a':=?_) #[J,J,J,J,J,J,J,O,O,O,O,O,O,O,O,O] rfl rfl (any_of HT_.out (by kernel_rfl)) (fun _ _ _ h=>h) (Or.inl ⟨by rfl,?_⟩) ?_ ?_
   rotate_left
   ·intro w'
    go_simp
    with_reducible rfl
   rotate_left
   ·simp only [Act.put,sT,sZ,sS,iW,iV]
    rfl
   refine pure_ (i:=7) (N:=some 11) (v:=?_) (a':=?_) #[J,J,J,J,J,J,J,J,O,O,O,O,O,O,O,O] rfl rfl (any_of HT_.out (by kernel_rfl)) (fun _ _ _ h=>h) (Or.inl ⟨by rfl,?_⟩) ?_ ?_
   rotate_left
   ·intro w'
    go_simp
    with_reducible rfl
   rotate_left
   ·simp only [Act.put,sT,sZ,sS,iW,iV]
    rfl
   refine pure_ (i:=8) (N:=some 12) (v:=?_) (a':=?_) #[J,J,J,J,J,J,J,J,J,O,O,O,O,O,O,O] rfl rfl (any_of HT_.out (by kernel_rfl)) (fun _ _ _ h=>h) (Or.inl ⟨by rfl,?_⟩) ?_ ?_
   rotate_left
   ·intro w'
    go_simp
    with_reducible rfl
   rotate_left
   ·simp only [Act.put,sT,sZ,sS,iW,iV]
    rfl
   refine pure_ (i:=9) (N:=some 13) (v:=undef) (a':=?_) #[J,J,J,J,J,J,J,J,J,J,O,O,O,O,O,O] rfl rfl (any_of HT_.out (by kernel_rfl)) (fun _ _ _ h=>h) (Or.inr ⟨by rfl,rfl⟩) ?_ ?_
   rotate_left
   ·simp only [Act.put,sT,sZ,sS,iW,iV]
    rfl
   refine pure_ (i:=10) (N:=some 14) (v:=undef) (a':=?_) #[J,J,J,J,J,J,J,J,J,J,J,O,O,O,O,O] rfl rfl (any_of HT_.out (by kernel_rfl)) (fun _ _ _ h=>h) (Or.inr ⟨by rfl,rfl⟩) ?_ ?_
   rotate_left
   ·simp only [Act.put,sT,sZ,sS,iW,iV]
    rfl
   refine pure_ (i:=11) (N:=some 15) (v:=undef) (a':=?_) #[J,J,J,J,J,J,J,J,J,J,J,J,O,O,O,O] rfl rfl (any_of HT_.out (by kernel_rfl)) (fun _ _ _ h=>h) (Or.inr ⟨by rfl,rfl⟩) ?_ ?_
   rotate_left
   ·simp only [Act.put,sT,sZ,sS,iW,iV]
    rfl
   refine pure_ (i:=12) (N:=some 16) (v:=undef) (a':=?_) #[J,J,J,J,J,J,J,J,J,J,J,J,J,O,O,O] rfl rfl (any_of HT_.out (by kernel_rfl)) (fun _ _ _ h=>h) (Or.inr ⟨by rfl,rfl⟩) ?_ ?_
   rotate_left
   ·simp only [Act.put,sT,sZ,sS,iW,iV]
    rfl
   refine pure_ (i:=13) (N:=some 17) (v:=undef) (a':=?_) #[J,J,J,J,J,J,J,J,J,J,J,J,J,J,O,O] rfl rfl (any_of HT_.out (by kernel_rfl)) (fun _ _ _ h=>h) (Or.inr ⟨by rfl,rfl⟩) ?_ ?_
   rotate_left
   ·simp only [Act.put,sT,sZ,sS,iW,iV]
    rfl
   refine pure_ (i:=14) (N:=some 18) (v:=?_) (a':=?_) #[J,J,J,J,J,J,J,J,J,J,J,J,J,J,J,O] rfl rfl (any_of HT_.out (by kernel_rfl)) (fun _ _ _ h=>h) (Or.inl ⟨by rfl,?_⟩) ?_ ?_
   rotate_left
   ·intro w'
    go_simp
    with_reducible rfl
   rotate_left
   ·simp only [Act.put,sT,sZ,sS,iW,iV]
    rfl
   refine pure_ (i:=15) (N:=some 3) (v:=?_) (a':=?_) #[J,J,J,J,J,J,J,J,J,J,J,J,J,J,J,J] rfl rfl (any_of HT_.out (by kernel_rfl)) (fun _ _ _ h=>h) (Or.inl ⟨by rfl,?_⟩) ?_ ?_
   rotate_left
   ·intro w'
    go_simp
    with_reducible rfl
   rotate_left
   ·simp only [Act.put,sT,sZ,sS,iW,iV]
    rfl
   refine done_ (done_of HT_.out (by kernel_rfl)) ?_
   obtain ⟨X91_0,X91_1,X91_2,X91_3,X91_4,X91_5,Y91_0,Y91_1,Y91_2,Y91_3,Y91_4,Y91_5⟩:=kc6 (w:=w90) (g:=gb102) BK102.out
   try go_wp2_with (first|(go_at_call 26;(with_reducible refine (script_Name.calls a0_1 true _ ?side1 A68.out).mono ?_);(case side1=>exact Glob.below HG.out (by repeat (first|(with_reducible first|exact HB.out|apply bL|apply pN|apply bE|refine bS ?_ GE102.out)|exact HB.out)));rintro e w92 ⟨rfl,hb⟩;have n0_:=Am (blk_below (g:=gb102) (by (with_reducible repeat (first|refine bN ?_ _|refine bD ?_|refine bA ?_ _));exact BK102.out) hb);have n1_:=Am (below_step (by repeat (first|(with_reducible first|exact HB.out|apply bL|apply pN|apply bE|refine bS ?_ GE102.out)|exact HB.out)) hb);clear BK102;clear HB;have BK102:=n0_;have HB:=n1_;clear n0_ n1_;obtain ⟨X93_0,X93_1,X93_2,X93_3,X93_4,X93_5,Y93_0,Y93_1,Y93_2,Y93_3,Y93_4,Y93_5⟩:=kc6 (w:=w92) (g:=gb102) BK102.out))
   go_ret
   exact ⟨by first|rfl|(simp [errW_none,errW_some] <;> rfl)|(simp [*,errW_none,errW_some] <;> rfl),by repeat (first|(with_reducible first|exact HB.out|apply bL|apply pN|apply bE|refine bS ?_ GE102.out)|exact HB.out)⟩
  rw [if_pos c71] at H
  have c71b0 : decide (a0_2≤1024) = true:=decide_eq_true c71
  clear c71
  by_cases c72 : a0_3 ≥ 0
  rotate_left
  ·rw [if_neg c72] at H
   have c72b0 : decide (0≤a0_3) = false:=decide_eq_false c72
   clear c72
   obtain rfl:=Option.some.inj H
   go_enter Tryd.func19,Tryd.ntmps19
   try go_wp2_with (first|((with_reducible refine gD (N:=1) rfl ?_);refine box_event ?hg (N:=1) ?hd (cs:=#[.int .u32 a0_0,.string a0_1,.int .i64 a0_2,.int .i64 a0_3,.int .i64 a0_4,.int .i64 a0_5]) (t:=24) ?hr ?_;(case hd=>rfl);(case hg=>rfl);(case hr=>first|(go_simp;done)|(go_simp;rfl));intro gb102 hg w84 hbox hb;have n0_:=Am (below_step (by repeat (first|(with_reducible first|exact HB.out|apply bL|apply pN|apply bE)|exact HB.out)) hb);have n1_:=Am (hbox);have n2_:=Am ((by rw [hg];exact (bZ (by repeat (first|(with_reducible first|exact HB.out|apply bL|apply pN|apply bE)|exact HB.out))) : w.heap.size≤gb102));have n3_:=n2_;clear HB;have HB:=n0_;have BK102:=n1_;have GW102:=n2_;have GE102:=n3_;clear n0_ n1_ n2_ n3_;clear hb hbox hg))
   have n0_:=Am (bD BK102.out)
   have n1_:=Am (bE HB.out)
   clear BK102
   clear HB
   have BK102:=n0_
   have HB:=n1_
   clear n0_ n1_
   refine start_ (n:=16) (S:=fun w'=>w'.cell? ⟨gb102,0,none⟩ = some (.int .u32 a0_0)∧w'.cell? ⟨gb102,1,none⟩ = some (.string a0_1)∧w'.cell? ⟨gb102,2,none⟩ = some (.int .i64 a0_2)∧w'.cell? ⟨gb102,3,none⟩ = some (.int .i64 a0_3)∧w'.cell? ⟨gb102,4,none⟩ = some (.int .i64 a0_4)∧w'.cell? ⟨gb102,5,none⟩ = some (.int .i64 a0_5)) (ds:=[]) #[O,O,O,O,O,O,O,O,O,O,O,O,O,O,O,O] (by kernel_rfl) rfl rfl ⟨(bC BK102.out 0).trans rfl,(bC BK102.out 1).trans rfl,(bC BK102.out 2).trans rfl,(bC BK102.out 3).trans rfl,(bC BK102.out 4).trans rfl,(bC BK102.out 5).trans rfl⟩ (fun hHeld=>?_);refine with_tabW book_right.tab1 book_right.bits1 (fun HT_ HW_=>?_)
   generalize w84.drew = w85 at BK102 HB hHeld ⊢
   refine pure_ (i:=0) (N:=some 4) (v:=?_) (a':=?_) #[J,O,O,O,O,O,O,O,O,O,O,O,O,O,O,O] rfl rfl (any_of HT_.out (by kernel_rfl)) (fun _ _ _ h=>h) (Or.inl ⟨by rfl,?_⟩) ?_ ?_
   rotate_left
   ·intro w'
    go_simp
    with_reducible rfl
   rotate_left
   ·simp only [Act.put,sT,sZ,sS,iW,iV]
    rfl
   refine take_ (i:=1) (N:=some 5) (v:=?_) (a':=?_) #[J,J,O,O,O,O,O,O,O,O,O,O,O,O,O,O] rfl rfl (take_ofW HT_.out HW_.out (by kernel_rfl)) (fun _ _ _ h=>h) (Or.inl ⟨by rfl,?_⟩) hHeld ?_ ?_
   rotate_left
   ·rintro w' ⟨s0,s1,s2,s3,s4,s5⟩
    go_simp
    with_reducible rfl
   rotate_left
   ·simp only [Act.put,sT,sZ,sS,iW,iV]
    rfl
   refine pure_ (i:=2) (N:=some 6) (v:=?_) (a':=?_) #[J,J,J,O,O,O,O,O,O,O,O,O,O,O,O,O] rfl rfl (any_of HT_.out (by kernel_rfl)) (fun _ _ _ h=>h) (Or.inl ⟨by rfl,?_⟩) ?_ ?_
   rotate_left
   ·intro w'
    go_simp
    with_reducible rfl
   rotate_left
   ·simp only [Act.put,sT,sZ,sS,iW,iV]
    rfl
   refine pure_ (i:=3) (N:=some 7) (v:=?_) (a':=?_) #[J,J,J,J,O,O,O,O,O,O,O,O,O,O,O,O] rfl rfl (any_of HT_.out (by kernel_rfl)) (fun _ _ _ h=>h) (Or.inl ⟨by rfl,?_⟩) ?_ ?_
   rotate_left
   ·intro w'
    go_simp
    with_reducible rfl
   rotate_left
   ·simp only [Act.put,sT,sZ,sS,iW,iV]
    rfl
   refine pure_ (i:=4) (N:=some 8) (v:=?_) (a':=?_) #[J,J,J,J,J,O,O,O,O,O,O,O,O,O,O,O] rfl rfl (any_of HT_.out (by kernel_rfl)) (fun _ _ _ h=>h) (Or.inl ⟨by rfl,?_⟩) ?_ ?_
   rotate_left
   ·intro w'
    go_simp
    with_reducible rfl
   rotate_left
   ·simp only [Act.put,sT,sZ,sS,iW,iV]
    rfl
   refine take_ (i:=5) (N:=some 9) (v:=?_) (a':=?_) #[J,J,J,J,J,J,O,O,O,O,O,O,O,O,O,O] rfl rfl (take_ofW HT_.out HW_.out (by kernel_rfl)) (fun _ _ _ h=>h) (Or.inl ⟨by rfl,?_⟩) hHeld ?_ ?_
   rotate_left
   ·rintro w' ⟨s0,s1,s2,s3,s4,s5⟩
    go_simp
    with_reducible rfl
   rotate_left
   ·simp only [Act.put,sT,sZ,sS,iW,iV]
    rfl
   refine pure_ (i:=6) (N:=some 10) (v:=?_) (a':=?_) #[J,J,J,J,J,J,J,O,O,O,O,O,O,O,O,O] rfl rfl (any_of HT_.out (by kernel_rfl)) (fun _ _ _ h=>h) (Or.inl ⟨by rfl,?_⟩) ?_ ?_
   rotate_left
   ·intro w'
    go_simp
    with_reducible rfl
   rotate_left
   ·simp only [Act.put,sT,sZ,sS,iW,iV]
    rfl
   refine pure_ (i:=7) (N:=some 11) (v:=?_) (a':=?_) #[J,J,J,J,J,J,J,J,O,O,O,O,O,O,O,O] rfl rfl (any_of HT_.out (by kernel_rfl)) (fun _ _ _ h=>h) (Or.inl ⟨by rfl,?_⟩) ?_ ?_
   rotate_left
   ·intro w'
    go_simp
    with_reducible rfl
   rotate_left
   ·simp only [Act.put,sT,sZ,sS,iW,iV]
    rfl
   refine pure_ (i:=8) (N:=some 12) (v:=?_) (a':=?_) #[J,J,J,J,J,J,J,J,J,O,O,O,O,O,O,O] rfl rfl (any_of HT_.out (by kernel_rfl)) (fun _ _ _ h=>h) (Or.inl ⟨by rfl,?_⟩) ?_ ?_
   rotate_left
   ·intro w'
    go_simp
    with_reducible rfl
   rotate_left
   ·simp only [Act.put,sT,sZ,sS,iW,iV]
    rfl
   refine pure_ (i:=9) (N:=some 13) (v:=undef) (a':=?_) #[J,J,J,J,J,J,J,J,J,J,O,O,O,O,O,O] rfl rfl (any_of HT_.out (by kernel_rfl)) (fun _ _ _ h=>h) (Or.inr ⟨by rfl,rfl⟩) ?_ ?_
   rotate_left
   ·simp only [Act.put,sT,sZ,sS,iW,iV]
    rfl
   refine pure_ (i:=10) (N:=some 14) (v:=undef) (a':=?_) #[J,J,J,J,J,J,J,J,J,J,J,O,O,O,O,O] rfl rfl (any_of HT_.out (by kernel_rfl)) (fun _ _ _ h=>h) (Or.inr ⟨by rfl,rfl⟩) ?_ ?_
   rotate_left
   ·simp only [Act.put,sT,sZ,sS,iW,iV]
    rfl
   refine pure_ (i:=11) (N:=some 15) (v:=undef) (a':=?_) #[J,J,J,J,J,J,J,J,J,J,J,J,O,O,O,O] rfl rfl (any_of HT_.out (by kernel_rfl)) (fun _ _ _ h=>h) (Or.inr ⟨by rfl,rfl⟩) ?_ ?_
   rotate_left
   ·simp only [Act.put,sT,sZ,sS,iW,iV]
    rfl
   refine pure_ (i:=12) (N:=some 16) (v:=undef) (a':=?_) #[J,J,J,J,J,J,J,J,J,J,J,J,J,O,O,O] rfl rfl (any_of HT_.out (by kernel_rfl)) (fun _ _ _ h=>h) (Or.inr ⟨by rfl,rfl⟩) ?_ ?_
   rotate_left
   ·simp only [Act.put,sT,sZ,sS,iW,iV]
    rfl
   refine pure_ (i:=13) (N:=some 17) (v:=undef) (a':=?_) #[J,J,J,J,J,J,J,J,J,J,J,J,J,J,O,O] rfl rfl (any_of HT_.out (by kernel_rfl)) (fun _ _ _ h=>h) (Or.inr ⟨by rfl,rfl⟩) ?_ ?_
   rotate_left
   ·simp only [Act.put,sT,sZ,sS,iW,iV]
    rfl
   refine pure_ (i:=14) (N:=some 18) (v:=?_) (a':=?_) #[J,J,J,J,J,J,J,J,J,J,J,J,J,J,J,O] rfl rfl (any_of HT_.out (by kernel_rfl)) (fun _ _ _ h=>h) (Or.inl ⟨by rfl,?_⟩) ?_ ?_
   rotate_left
   ·intro w'
    go_simp
    with_reducible rfl
   rotate_left
   ·simp only [Act.put,sT,sZ,sS,iW,iV]
    rfl
   refine pure_ (i:=15) (N:=some 3) (v:=?_) (a':=?_) #[J,J,J,J,J,J,J,J,J,J,J,J,J,J,J,J] rfl rfl (any_of HT_.out (by kernel_rfl)) (fun _ _ _ h=>h) (Or.inl ⟨by rfl,?_⟩) ?_ ?_
   rotate_left
   ·intro w'
    go_simp
    with_reducible rfl
   rotate_left
   ·simp only [Act.put,sT,sZ,sS,iW,iV]
    rfl
   refine done_ (done_of HT_.out (by kernel_rfl)) ?_
   obtain ⟨X86_0,X86_1,X86_2,X86_3,X86_4,X86_5,Y86_0,Y86_1,Y86_2,Y86_3,Y86_4,Y86_5⟩:=kc6 (w:=w85) (g:=gb102) BK102.out
   try go_wp2_with (first|(go_at_call 26;(with_reducible refine (script_Name.calls a0_1 true _ ?side1 A68.out).mono ?_);(case side1=>exact Glob.below HG.out (by repeat (first|(with_reducible first|exact HB.out|apply bL|apply pN|apply bE|refine bS ?_ GE102.out)|exact HB.out)));rintro e w87 ⟨rfl,hb⟩;have n0_:=Am (blk_below (g:=gb102) (by (with_reducible repeat (first|refine bN ?_ _|refine bD ?_|refine bA ?_ _));exact BK102.out) hb);have n1_:=Am (below_step (by repeat (first|(with_reducible first|exact HB.out|apply bL|apply pN|apply bE|refine bS ?_ GE102.out)|exact HB.out)) hb);clear BK102;clear HB;have BK102:=n0_;have HB:=n1_;clear n0_ n1_;obtain ⟨X88_0,X88_1,X88_2,X88_3,X88_4,X88_5,Y88_0,Y88_1,Y88_2,Y88_3,Y88_4,Y88_5⟩:=kc6 (w:=w87) (g:=gb102) BK102.out))
   go_ret
   exact ⟨by first|rfl|(simp [errW_none,errW_some] <;> rfl)|(simp [*,errW_none,errW_some] <;> rfl),by repeat (first|(with_reducible first|exact HB.out|apply bL|apply pN|apply bE|refine bS ?_ GE102.out)|exact HB.out)⟩
  rw [if_pos c72] at H
  have c72b0 : decide (0≤a0_3) = true:=decide_eq_true c72
  clear c72
  by_cases c73 : a0_3≤1073741824
  ·rw [if_pos c73] at H
   have c73b0 : decide (a0_3≤1073741824) = true:=decide_eq_true c73
   clear c73
   obtain rfl:=Option.some.inj H
   go_enter Tryd.func19,Tryd.ntmps19
   try go_wp2_with (first|((with_reducible refine gD (N:=1) rfl ?_);refine box_event ?hg (N:=1) ?hd (cs:=#[.int .u32 a0_0,.string a0_1,.int .i64 a0_2,.int .i64 a0_3,.int .i64 a0_4,.int .i64 a0_5]) (t:=24) ?hr ?_;(case hd=>rfl);(case hg=>rfl);(case hr=>first|(go_simp;done)|(go_simp;rfl));intro gb102 hg w74 hbox hb;have n0_:=Am (below_step (by repeat (first|(with_reducible first|exact HB.out|apply bL|apply pN|apply bE)|exact HB.out)) hb);have n1_:=Am (hbox);have n2_:=Am ((by rw [hg];exact (bZ (by repeat (first|(with_reducible first|exact HB.out|apply bL|apply pN|apply bE)|exact HB.out))) : w.heap.size≤gb102));have n3_:=n2_;clear HB;have HB:=n0_;have BK102:=n1_;have GW102:=n2_;have GE102:=n3_;clear n0_ n1_ n2_ n3_;clear hb hbox hg))
   have n0_:=Am (bD BK102.out)
   have n1_:=Am (bE HB.out)
   clear BK102
   clear HB
   have BK102:=n0_
   have HB:=n1_
   clear n0_ n1_
   refine start_ (n:=16) (S:=fun w'=>w'.cell? ⟨gb102,0,none⟩ = some (.int .u32 a0_0)∧w'.cell? ⟨gb102,1,none⟩ = some (.string a0_1)∧w'.cell? ⟨gb102,2,none⟩ = some (.int .i64 a0_2)∧w'.cell? ⟨gb102,3,none⟩ = some (.int .i64 a0_3)∧w'.cell? ⟨gb102,4,none⟩ = some (.int .i64 a0_4)∧w'.cell? ⟨gb102,5,none⟩ = some (.int .i64 a0_5)) (ds:=[]) #[O,O,O,O,O,O,O,O,O,O,O,O,O,O,O,O] (by kernel_rfl) rfl rfl ⟨(bC BK102.out 0).trans rfl,(bC BK102.out 1).trans rfl,(bC BK102.out 2).trans rfl,(bC BK102.out 3).trans rfl,(bC BK102.out 4).trans rfl,(bC BK102.out 5).trans rfl⟩ (fun hHeld=>?_);refine with_tabW book_right.tab1 book_right.bits1 (fun HT_ HW_=>?_)
   generalize w74.drew = w75 at BK102 HB hHeld ⊢
   refine pure_ (i:=0) (N:=some 4) (v:=?_) (a':=?_) #[J,O,O,O,O,O,O,O,O,O,O,O,O,O,O,O] rfl rfl (any_of HT_.out (by kernel_rfl)) (fun _ _ _ h=>h) (Or.inl ⟨by rfl,?_⟩) ?_ ?_
   rotate_left
   ·intro w'
    go_simp
    with_reducible rfl
   rotate_left
   ·simp only [Act.put,sT,sZ,sS,iW,iV]
    rfl
   refine take_ (i:=1) (N:=some 5) (v:=?_) (a':=?_) #[J,J,O,O,O,O,O,O,O,O,O,O,O,O,O,O] rfl rfl (take_ofW HT_.out HW_.out (by kernel_rfl)) (fun _ _ _ h=>h) (Or.inl ⟨by rfl,?_⟩) hHeld ?_ ?_
   rotate_left
   ·rintro w' ⟨s0,s1,s2,s3,s4,s5⟩
    go_simp
    with_reducible rfl
   rotate_left
   ·simp only [Act.put,sT,sZ,sS,iW,iV]
    rfl
   refine pure_ (i:=2) (N:=some 6) (v:=?_) (a':=?_) #[J,J,J,O,O,O,O,O,O,O,O,O,O,O,O,O] rfl rfl (any_of HT_.out (by kernel_rfl)) (fun _ _ _ h=>h) (Or.inl ⟨by rfl,?_⟩) ?_ ?_
   rotate_left
   ·intro w'
    go_simp
    with_reducible rfl
   rotate_left
   ·simp only [Act.put,sT,sZ,sS,iW,iV]
    rfl
   refine pure_ (i:=3) (N:=some 7) (v:=?_) (a':=?_) #[J,J,J,J,O,O,O,O,O,O,O,O,O,O,O,O] rfl rfl (any_of HT_.out (by kernel_rfl)) (fun _ _ _ h=>h) (Or.inl ⟨by rfl,?_⟩) ?_ ?_
   rotate_left
   ·intro w'
    go_simp
    with_reducible rfl
   rotate_left
   ·simp only [Act.put,sT,sZ,sS,iW,iV]
    rfl
   refine pure_ (i:=4) (N:=some 8) (v:=?_) (a':=?_) #[J,J,J,J,J,O,O,O,O,O,O,O,O,O,O,O] rfl rfl (any_of HT_.out (by kernel_rfl)) (fun _ _ _ h=>h) (Or.inl ⟨by rfl,?_⟩) ?_ ?_
   rotate_left
   ·intro w'
    go_simp
    with_reducible rfl
   rotate_left
   ·simp only [Act.put,sT,sZ,sS,iW,iV]
    rfl
   refine take_ (i:=5) (N:=some 9) (v:=?_) (a':=?_) #[J,J,J,J,J,J,O,O,O,O,O,O,O,O,O,O] rfl rfl (take_ofW HT_.out HW_.out (by kernel_rfl)) (fun _ _ _ h=>h) (Or.inl ⟨by rfl,?_⟩) hHeld ?_ ?_
   rotate_left
   ·rintro w' ⟨s0,s1,s2,s3,s4,s5⟩
    go_simp
    with_reducible rfl
   rotate_left
   ·simp only [Act.put,sT,sZ,sS,iW,iV]
    rfl
   refine pure_ (i:=6) (N:=some 10) (v:=?_) (a':=?_) #[J,J,J,J,J,J,J,O,O,O,O,O,O,O,O,O] rfl rfl (any_of HT_.out (by kernel_rfl)) (fun _ _ _ h=>h) (Or.inl ⟨by rfl,?_⟩) ?_ ?_
   rotate_left
   ·intro w'
    go_simp
    with_reducible rfl
   rotate_left
   ·simp only [Act.put,sT,sZ,sS,iW,iV]
    rfl
   refine pure_ (i:=7) (N:=some 11) (v:=?_) (a':=?_) #[J,J,J,J,J,J,J,J,O,O,O,O,O,O,O,O] rfl rfl (any_of HT_.out (by kernel_rfl)) (fun _ _ _ h=>h) (Or.inl ⟨by rfl,?_⟩) ?_ ?_
   rotate_left
   ·intro w'
    go_simp
    with_reducible rfl
   rotate_left
   ·simp only [Act.put,sT,sZ,sS,iW,iV]
    rfl
   refine pure_ (i:=8) (N:=some 12) (v:=?_) (a':=?_) #[J,J,J,J,J,J,J,J,J,O,O,O,O,O,O,O] rfl rfl (any_of HT_.out (by kernel_rfl)) (fun _ _ _ h=>h) (Or.inl ⟨by rfl,?_⟩) ?_ ?_
   rotate_left
   ·intro w'
    go_simp
    with_reducible rfl
   rotate_left
   ·simp only [Act.put,sT,sZ,sS,iW,iV]
    rfl
   refine pure_ (i:=9) (N:=some 13) (v:=undef) (a':=?_) #[J,J,J,J,J,J,J,J,J,J,O,O,O,O,O,O] rfl rfl (any_of HT_.out (by kernel_rfl)) (fun _ _ _ h=>h) (Or.inr ⟨by rfl,rfl⟩) ?_ ?_
   rotate_left
   ·simp only [Act.put,sT,sZ,sS,iW,iV]
    rfl
   refine pure_ (i:=10) (N:=some 14) (v:=undef) (a':=?_) #[J,J,J,J,J,J,J,J,J,J,J,O,O,O,O,O] rfl rfl (any_of HT_.out (by kernel_rfl)) (fun _ _ _ h=>h) (Or.inr ⟨by rfl,rfl⟩) ?_ ?_
   rotate_left
   ·simp only [Act.put,sT,sZ,sS,iW,iV]
    rfl
   refine pure_ (i:=11) (N:=some 15) (v:=undef) (a':=?_) #[J,J,J,J,J,J,J,J,J,J,J,J,O,O,O,O] rfl rfl (any_of HT_.out (by kernel_rfl)) (fun _ _ _ h=>h) (Or.inr ⟨by rfl,rfl⟩) ?_ ?_
   rotate_left
   ·simp only [Act.put,sT,sZ,sS,iW,iV]
    rfl
   refine pure_ (i:=12) (N:=some 16) (v:=undef) (a':=?_) #[J,J,J,J,J,J,J,J,J,J,J,J,J,O,O,O] rfl rfl (any_of HT_.out (by kernel_rfl)) (fun _ _ _ h=>h) (Or.inr ⟨by rfl,rfl⟩) ?_ ?_
   rotate_left
   ·simp only [Act.put,sT,sZ,sS,iW,iV]
    rfl
   refine pure_ (i:=13) (N:=some 17) (v:=undef) (a':=?_) #[J,J,J,J,J,J,J,J,J,J,J,J,J,J,O,O] rfl rfl (any_of HT_.out (by kernel_rfl)) (fun _ _ _ h=>h) (Or.inr ⟨by rfl,rfl⟩) ?_ ?_
   rotate_left
   ·simp only [Act.put,sT,sZ,sS,iW,iV]
    rfl
   refine pure_ (i:=14) (N:=some 18) (v:=?_) (a':=?_) #[J,J,J,J,J,J,J,J,J,J,J,J,J,J,J,O] rfl rfl (any_of HT_.out (by kernel_rfl)) (fun _ _ _ h=>h) (Or.inl ⟨by rfl,?_⟩) ?_ ?_
   rotate_left
   ·intro w'
    go_simp
    with_reducible rfl
   rotate_left
   ·simp only [Act.put,sT,sZ,sS,iW,iV]
    rfl
   refine pure_ (i:=15) (N:=some 3) (v:=?_) (a':=?_) #[J,J,J,J,J,J,J,J,J,J,J,J,J,J,J,J] rfl rfl (any_of HT_.out (by kernel_rfl)) (fun _ _ _ h=>h) (Or.inl ⟨by rfl,?_⟩) ?_ ?_
   rotate_left
   ·intro w'
    go_simp
    with_reducible rfl
   rotate_left
   ·simp only [Act.put,sT,sZ,sS,iW,iV]
    rfl
   refine done_ (done_of HT_.out (by kernel_rfl)) ?_
   obtain ⟨X76_0,X76_1,X76_2,X76_3,X76_4,X76_5,Y76_0,Y76_1,Y76_2,Y76_3,Y76_4,Y76_5⟩:=kc6 (w:=w75) (g:=gb102) BK102.out
   try go_wp2_with (first|(go_at_call 26;(with_reducible refine (script_Name.calls a0_1 true _ ?side1 A68.out).mono ?_);(case side1=>exact Glob.below HG.out (by repeat (first|(with_reducible first|exact HB.out|apply bL|apply pN|apply bE|refine bS ?_ GE102.out)|exact HB.out)));rintro e w77 ⟨rfl,hb⟩;have n0_:=Am (blk_below (g:=gb102) (by (with_reducible repeat (first|refine bN ?_ _|refine bD ?_|refine bA ?_ _));exact BK102.out) hb);have n1_:=Am (below_step (by repeat (first|(with_reducible first|exact HB.out|apply bL|apply pN|apply bE|refine bS ?_ GE102.out)|exact HB.out)) hb);clear BK102;clear HB;have BK102:=n0_;have HB:=n1_;clear n0_ n1_;obtain ⟨X78_0,X78_1,X78_2,X78_3,X78_4,X78_5,Y78_0,Y78_1,Y78_2,Y78_3,Y78_4,Y78_5⟩:=kc6 (w:=w77) (g:=gb102) BK102.out))
   go_ret
   exact ⟨by first|rfl|(simp [errW_none,errW_some] <;> rfl)|(simp [*,errW_none,errW_some] <;> rfl),by repeat (first|(with_reducible first|exact HB.out|apply bL|apply pN|apply bE|refine bS ?_ GE102.out)|exact HB.out)⟩
  rw [if_neg c73] at H
  have c73b0 : decide (a0_3≤1073741824) = false:=decide_eq_false c73
  clear c73
  obtain rfl:=Option.some.inj H
  go_enter Tryd.func19,Tryd.ntmps19
  try go_wp2_with (first|((with_reducible refine gD (N:=1) rfl ?_);refine box_event ?hg (N:=1) ?hd (cs:=#[.int .u32 a0_0,.string a0_1,.int .i64 a0_2,.int .i64 a0_3,.int .i64 a0_4,.int .i64 a0_5]) (t:=24) ?hr ?_;(case hd=>rfl);(case hg=>rfl);(case hr=>first|(go_simp;done)|(go_simp;rfl));intro gb102 hg w79 hbox hb;have n0_:=Am (below_step (by repeat (first|(with_reducible first|exact HB.out|apply bL|apply pN|apply bE)|exact HB.out)) hb);have n1_:=Am (hbox);have n2_:=Am ((by rw [hg];exact (bZ (by repeat (first|(with_reducible first|exact HB.out|apply bL|apply pN|apply bE)|exact HB.out))) : w.heap.size≤gb102));have n3_:=n2_;clear HB;have HB:=n0_;have BK102:=n1_;have GW102:=n2_;have GE102:=n3_;clear n0_ n1_ n2_ n3_;clear hb hbox hg))
  have n0_:=Am (bD BK102.out)
  have n1_:=Am (bE HB.out)
  clear BK102
  clear HB
  have BK102:=n0_
  have HB:=n1_
  clear n0_ n1_
  refine start_ (n:=16) (S:=fun w'=>w'.cell? ⟨gb102,0,none⟩ = some (.int .u32 a0_0)∧w'.cell? ⟨gb102,1,none⟩ = some (.string a0_1)∧w'.cell? ⟨gb102,2,none⟩ = some (.int .i64 a0_2)∧w'.cell? ⟨gb102,3,none⟩ = some (.int .i64 a0_3)∧w'.cell? ⟨gb102,4,none⟩ = some (.int .i64 a0_4)∧w'.cell? ⟨gb102,5,none⟩ = some (.int .i64 a0_5)) (ds:=[]) #[O,O,O,O,O,O,O,O,O,O,O,O,O,O,O,O] (by kernel_rfl) rfl rfl ⟨(bC BK102.out 0).trans rfl,(bC BK102.out 1).trans rfl,(bC BK102.out 2).trans rfl,(bC BK102.out 3).trans rfl,(bC BK102.out 4).trans rfl,(bC BK102.out 5).trans rfl⟩ (fun hHeld=>?_);refine with_tabW book_right.tab1 book_right.bits1 (fun HT_ HW_=>?_)
  generalize w79.drew = w80 at BK102 HB hHeld ⊢
  refine pure_ (i:=0) (N:=some 4) (v:=?_) (a':=?_) #[J,O,O,O,O,O,O,O,O,O,O,O,O,O,O,O] rfl rfl (any_of HT_.out (by kernel_rfl)) (fun _ _ _ h=>h) (Or.inl ⟨by rfl,?_⟩) ?_ ?_
  rotate_left
  ·intro w'
   go_simp
   with_reducible rfl
  rotate_left
  ·simp only [Act.put,sT,sZ,sS,iW,iV]
   rfl
  refine take_ (i:=1) (N:=some 5) (v:=?_) (a':=?_) #[J,J,O,O,O,O,O,O,O,O,O,O,O,O,O,O] rfl rfl (take_ofW HT_.out HW_.out (by kernel_rfl)) (fun _ _ _ h=>h) (Or.inl ⟨by rfl,?_⟩) hHeld ?_ ?_
  rotate_left
  ·rintro w' ⟨s0,s1,s2,s3,s4,s5⟩
   go_simp
   with_reducible rfl
  rotate_left
  ·simp only [Act.put,sT,sZ,sS,iW,iV]
   rfl
  refine pure_ (i:=2) (N:=some 6) (v:=?_) (a':=?_) #[J,J,J,O,O,O,O,O,O,O,O,O,O,O,O,O] rfl rfl (any_of HT_.out (by kernel_rfl)) (fun _ _ _ h=>h) (Or.inl ⟨by rfl,?_⟩) ?_ ?_
  rotate_left
  ·intro w'
   go_simp
   with_reducible rfl
  rotate_left
  ·simp only [Act.put,sT,sZ,sS,iW,iV]
   rfl
  refine pure_ (i:=3) (N:=some 7) (v:=?_) (a':=?_) #[J,J,J,J,O,O,O,O,O,O,O,O,O,O,O,O] rfl rfl (any_of HT_.out (by kernel_rfl)) (fun _ _ _ h=>h) (Or.inl ⟨by rfl,?_⟩) ?_ ?_
  rotate_left
  ·intro w'
   go_simp
   with_reducible rfl
  rotate_left
  ·simp only [Act.put,sT,sZ,sS,iW,iV]
   rfl
  refine pure_ (i:=4) (N:=some 8) (v:=?_) (a':=?_) #[J,J,J,J,J,O,O,O,O,O,O,O,O,O,O,O] rfl rfl (any_of HT_.out (by kernel_rfl)) (fun _ _ _ h=>h) (Or.inl ⟨by rfl,?_⟩) ?_ ?_
  rotate_left
  ·intro w'
   go_simp
   with_reducible rfl
  rotate_left
  ·simp only [Act.put,sT,sZ,sS,iW,iV]
   rfl
  refine take_ (i:=5) (N:=some 9) (v:=?_) (a':=?_) #[J,J,J,J,J,J,O,O,O,O,O,O,O,O,O,O] rfl rfl (take_ofW HT_.out HW_.out (by kernel_rfl)) (fun _ _ _ h=>h) (Or.inl ⟨by rfl,?_⟩) hHeld ?_ ?_
  rotate_left
  ·rintro w' ⟨s0,s1,s2,s3,s4,s5⟩
   go_simp
   with_reducible rfl
  rotate_left
  ·simp only [Act.put,sT,sZ,sS,iW,iV]
   rfl
  refine pure_ (i:=6) (N:=some 10) (v:=?_) (a':=?_) #[J,J,J,J,J,J,J,O,O,O,O,O,O,O,O,O] rfl rfl (any_of HT_.out (by kernel_rfl)) (fun _ _ _ h=>h) (Or.inl ⟨by rfl,?_⟩) ?_ ?_
  rotate_left
  ·intro w'
   go_simp
   with_reducible rfl
  rotate_left
  ·simp only [Act.put,sT,sZ,sS,iW,iV]
   rfl
  refine pure_ (i:=7) (N:=some 11) (v:=?_) (a':=?_) #[J,J,J,J,J,J,J,J,O,O,O,O,O,O,O,O] rfl rfl (any_of HT_.out (by kernel_rfl)) (fun _ _ _ h=>h) (Or.inl ⟨by rfl,?_⟩) ?_ ?_
  rotate_left
  ·intro w'
   go_simp
   with_reducible rfl
  rotate_left
  ·simp only [Act.put,sT,sZ,sS,iW,iV]
   rfl
  refine pure_ (i:=8) (N:=some 12) (v:=?_) (a':=?_) #[J,J,J,J,J,J,J,J,J,O,O,O,O,O,O,O] rfl rfl (any_of HT_.out (by kernel_rfl)) (fun _ _ _ h=>h) (Or.inl ⟨by rfl,?_⟩) ?_ ?_
  rotate_left
  ·intro w'
   go_simp
   with_reducible rfl
  rotate_left
  ·simp only [Act.put,sT,sZ,sS,iW,iV]
   rfl
  refine pure_ (i:=9) (N:=some 13) (v:=undef) (a':=?_) #[J,J,J,J,J,J,J,J,J,J,O,O,O,O,O,O] rfl rfl (any_of HT_.out (by kernel_rfl)) (fun _ _ _ h=>h) (Or.inr ⟨by rfl,rfl⟩) ?_ ?_
  rotate_left
  ·simp only [Act.put,sT,sZ,sS,iW,iV]
   rfl
  refine pure_ (i:=10) (N:=some 14) (v:=undef) (a':=?_) #[J,J,J,J,J,J,J,J,J,J,J,O,O,O,O,O] rfl rfl (any_of HT_.out (by kernel_rfl)) (fun _ _ _ h=>h) (Or.inr ⟨by rfl,rfl⟩) ?_ ?_
  rotate_left
  ·simp only [Act.put,sT,sZ,sS,iW,iV]
   rfl
  refine pure_ (i:=11) (N:=some 15) (v:=undef) (a':=?_) #[J,J,J,J,J,J,J,J,J,J,J,J,O,O,O,O] rfl rfl (any_of HT_.out (by kernel_rfl)) (fun _ _ _ h=>h) (Or.inr ⟨by rfl,rfl⟩) ?_ ?_
  rotate_left
  ·simp only [Act.put,sT,sZ,sS,iW,iV]
   rfl
  refine pure_ (i:=12) (N:=some 16) (v:=undef) (a':=?_) #[J,J,J,J,J,J,J,J,J,J,J,J,J,O,O,O] rfl rfl (any_of HT_.out (by kernel_rfl)) (fun _ _ _ h=>h) (Or.inr ⟨by rfl,rfl⟩) ?_ ?_
  rotate_left
  ·simp only [Act.put,sT,sZ,sS,iW,iV]
   rfl
  refine pure_ (i:=13) (N:=some 17) (v:=undef) (a':=?_) #[J,J,J,J,J,J,J,J,J,J,J,J,J,J,O,O] rfl rfl (any_of HT_.out (by kernel_rfl)) (fun _ _ _ h=>h) (Or.inr ⟨by rfl,rfl⟩) ?_ ?_
  rotate_left
  ·simp only [Act.put,sT,sZ,sS,iW,iV]
   rfl
  refine pure_ (i:=14) (N:=some 18) (v:=?_) (a':=?_) #[J,J,J,J,J,J,J,J,J,J,J,J,J,J,J,O] rfl rfl (any_of HT_.out (by kernel_rfl)) (fun _ _ _ h=>h) (Or.inl ⟨by rfl,?_⟩) ?_ ?_
  rotate_left
  ·intro w'
   go_simp
   with_reducible rfl
  rotate_left
  ·simp only [Act.put,sT,sZ,sS,iW,iV]
   rfl
  refine pure_ (i:=15) (N:=some 3) (v:=?_) (a':=?_) #[J,J,J,J,J,J,J,J,J,J,J,J,J,J,J,J] rfl rfl (any_of HT_.out (by kernel_rfl)) (fun _ _ _ h=>h) (Or.inl ⟨by rfl,?_⟩) ?_ ?_
  rotate_left
  ·intro w'
   go_simp
   with_reducible rfl
  rotate_left
  ·simp only [Act.put,sT,sZ,sS,iW,iV]
   rfl
  refine done_ (done_of HT_.out (by kernel_rfl)) ?_
  obtain ⟨X81_0,X81_1,X81_2,X81_3,X81_4,X81_5,Y81_0,Y81_1,Y81_2,Y81_3,Y81_4,Y81_5⟩:=kc6 (w:=w80) (g:=gb102) BK102.out
  try go_wp2_with (first|(go_at_call 26;(with_reducible refine (script_Name.calls a0_1 true _ ?side1 A68.out).mono ?_);(case side1=>exact Glob.below HG.out (by repeat (first|(with_reducible first|exact HB.out|apply bL|apply pN|apply bE|refine bS ?_ GE102.out)|exact HB.out)));rintro e w82 ⟨rfl,hb⟩;have n0_:=Am (blk_below (g:=gb102) (by (with_reducible repeat (first|refine bN ?_ _|refine bD ?_|refine bA ?_ _));exact BK102.out) hb);have n1_:=Am (below_step (by repeat (first|(with_reducible first|exact HB.out|apply bL|apply pN|apply bE|refine bS ?_ GE102.out)|exact HB.out)) hb);clear BK102;clear HB;have BK102:=n0_;have HB:=n1_;clear n0_ n1_;obtain ⟨X83_0,X83_1,X83_2,X83_3,X83_4,X83_5,Y83_0,Y83_1,Y83_2,Y83_3,Y83_4,Y83_5⟩:=kc6 (w:=w82) (g:=gb102) BK102.out))
  go_ret
  exact ⟨by first|rfl|(simp [errW_none,errW_some] <;> rfl)|(simp [*,errW_none,errW_some] <;> rfl),by repeat (first|(with_reducible first|exact HB.out|apply bL|apply pN|apply bE|refine bS ?_ GE102.out)|exact HB.out)⟩
 rw [if_pos c3] at H
 have c3b0 : decide (a0_4 < 9) = true:=decide_eq_true c3
 clear c3
 replace H:=oB H
 obtain ⟨⟨t103,t104,t105,t106,t107,t108,t109,t110,t111⟩,A40,H⟩:=H
 replace H : (if 0≤a0_4 then (if a0_0 > 0 then ((script_Name.f a0_1).bind fun t112=>(if t112 = true then (if a0_2 ≥ 1 then (if a0_2≤1024 then (if a0_3 ≥ 0 then (if a0_3≤1073741824 then (if (rdOf ByteArray.empty ([t103,t104,t105,t106,t107,t108,t109,t110,t111] : List ByteArray) a0_4).toList = ([] : List UInt8) then (some false) else (if a0_5 ≥ 0 then (some (decide (a0_5≤1099511627776))) else (some false))) else (some false)) else (some false)) else (some false)) else (some false)) else (some false))) else (some false)) else (none)) = some r:=H
 have A4:=Am A40
 clear A40
 by_cases c5 : 0≤a0_4
 rotate_left
 ·rw [if_neg c5] at H
  exact absurd H (by simp)
 rw [if_pos c5] at H
 have c5b0 : decide (0≤a0_4) = true:=decide_eq_true c5
 clear c5
 by_cases c7 : a0_0 > 0
 rotate_left
 ·rw [if_neg c7] at H
  have c7b0 : decide (0 < a0_0) = false:=decide_eq_false c7
  clear c7
  obtain rfl:=Option.some.inj H
  go_enter Tryd.func19,Tryd.ntmps19
  try go_wp2_with (first|((with_reducible refine gD (N:=1) rfl ?_);refine box_event ?hg (N:=1) ?hd (cs:=#[.int .u32 a0_0,.string a0_1,.int .i64 a0_2,.int .i64 a0_3,.int .i64 a0_4,.int .i64 a0_5]) (t:=24) ?hr ?_;(case hd=>rfl);(case hg=>rfl);(case hr=>first|(go_simp;done)|(go_simp;rfl));intro gb102 hg w63 hbox hb;have n0_:=Am (below_step (by repeat (first|(with_reducible first|exact HB.out|apply bL|apply pN|apply bE)|exact HB.out)) hb);have n1_:=Am (hbox);have n2_:=Am ((by rw [hg];exact (bZ (by repeat (first|(with_reducible first|exact HB.out|apply bL|apply pN|apply bE)|exact HB.out))) : w.heap.size≤gb102));have n3_:=n2_;clear HB;have HB:=n0_;have BK102:=n1_;have GW102:=n2_;have GE102:=n3_;clear n0_ n1_ n2_ n3_;clear hb hbox hg))
  have n0_:=Am (bD BK102.out)
  have n1_:=Am (bE HB.out)
  clear BK102
  clear HB
  have BK102:=n0_
  have HB:=n1_
  clear n0_ n1_
  refine start_ (n:=16) (S:=fun w'=>w'.cell? ⟨gb102,0,none⟩ = some (.int .u32 a0_0)∧w'.cell? ⟨gb102,1,none⟩ = some (.string a0_1)∧w'.cell? ⟨gb102,2,none⟩ = some (.int .i64 a0_2)∧w'.cell? ⟨gb102,3,none⟩ = some (.int .i64 a0_3)∧w'.cell? ⟨gb102,4,none⟩ = some (.int .i64 a0_4)∧w'.cell? ⟨gb102,5,none⟩ = some (.int .i64 a0_5)) (ds:=[]) #[O,O,O,O,O,O,O,O,O,O,O,O,O,O,O,O] (by kernel_rfl) rfl rfl ⟨(bC BK102.out 0).trans rfl,(bC BK102.out 1).trans rfl,(bC BK102.out 2).trans rfl,(bC BK102.out 3).trans rfl,(bC BK102.out 4).trans rfl,(bC BK102.out 5).trans rfl⟩ (fun hHeld=>?_);refine with_tabW book_right.tab1 book_right.bits1 (fun HT_ HW_=>?_)
  generalize w63.drew = w64 at BK102 HB hHeld ⊢
  refine pure_ (i:=0) (N:=some 4) (v:=?_) (a':=?_) #[J,O,O,O,O,O,O,O,O,O,O,O,O,O,O,O] rfl rfl (any_of HT_.out (by kernel_rfl)) (fun _ _ _ h=>h) (Or.inl ⟨by rfl,?_⟩) ?_ ?_
  rotate_left
  ·intro w'
   go_simp
   with_reducible rfl
  rotate_left
  ·simp only [Act.put,sT,sZ,sS,iW,iV]
   rfl
  refine take_ (i:=1) (N:=some 5) (v:=?_) (a':=?_) #[J,J,O,O,O,O,O,O,O,O,O,O,O,O,O,O] rfl rfl (take_ofW HT_.out HW_.out (by kernel_rfl)) (fun _ _ _ h=>h) (Or.inl ⟨by rfl,?_⟩) hHeld ?_ ?_
  rotate_left
  ·rintro w' ⟨s0,s1,s2,s3,s4,s5⟩
   go_simp
   with_reducible rfl
  rotate_left
  ·simp only [Act.put,sT,sZ,sS,iW,iV]
   rfl
  refine pure_ (i:=2) (N:=some 6) (v:=?_) (a':=?_) #[J,J,J,O,O,O,O,O,O,O,O,O,O,O,O,O] rfl rfl (any_of HT_.out (by kernel_rfl)) (fun _ _ _ h=>h) (Or.inl ⟨by rfl,?_⟩) ?_ ?_
  rotate_left
  ·intro w'
   go_simp
   with_reducible rfl
  rotate_left
  ·simp only [Act.put,sT,sZ,sS,iW,iV]
   rfl
  refine pure_ (i:=3) (N:=some 7) (v:=?_) (a':=?_) #[J,J,J,J,O,O,O,O,O,O,O,O,O,O,O,O] rfl rfl (any_of HT_.out (by kernel_rfl)) (fun _ _ _ h=>h) (Or.inl ⟨by rfl,?_⟩) ?_ ?_
  rotate_left
  ·intro w'
   go_simp
   with_reducible rfl
  rotate_left
  ·simp only [Act.put,sT,sZ,sS,iW,iV]
   rfl
  refine pure_ (i:=4) (N:=some 8) (v:=?_) (a':=?_) #[J,J,J,J,J,O,O,O,O,O,O,O,O,O,O,O] rfl rfl (any_of HT_.out (by kernel_rfl)) (fun _ _ _ h=>h) (Or.inl ⟨by rfl,?_⟩) ?_ ?_
  rotate_left
  ·intro w'
   go_simp
   with_reducible rfl
  rotate_left
  ·simp only [Act.put,sT,sZ,sS,iW,iV]
   rfl
  refine take_ (i:=5) (N:=some 9) (v:=?_) (a':=?_) #[J,J,J,J,J,J,O,O,O,O,O,O,O,O,O,O] rfl rfl (take_ofW HT_.out HW_.out (by kernel_rfl)) (fun _ _ _ h=>h) (Or.inl ⟨by rfl,?_⟩) hHeld ?_ ?_
  rotate_left
  ·rintro w' ⟨s0,s1,s2,s3,s4,s5⟩
   go_simp
   with_reducible rfl
  rotate_left
  ·simp only [Act.put,sT,sZ,sS,iW,iV]
   rfl
  refine pure_ (i:=6) (N:=some 10) (v:=?_) (a':=?_) #[J,J,J,J,J,J,J,O,O,O,O,O,O,O,O,O] rfl rfl (any_of HT_.out (by kernel_rfl)) (fun _ _ _ h=>h) (Or.inl ⟨by rfl,?_⟩) ?_ ?_
  rotate_left
  ·intro w'
   go_simp
   with_reducible rfl
  rotate_left
  ·simp only [Act.put,sT,sZ,sS,iW,iV]
   rfl
  refine pure_ (i:=7) (N:=some 11) (v:=?_) (a':=?_) #[J,J,J,J,J,J,J,J,O,O,O,O,O,O,O,O] rfl rfl (any_of HT_.out (by kernel_rfl)) (fun _ _ _ h=>h) (Or.inl ⟨by rfl,?_⟩) ?_ ?_
  rotate_left
  ·intro w'
   go_simp
   with_reducible rfl
  rotate_left
  ·simp only [Act.put,sT,sZ,sS,iW,iV]
   rfl
  refine pure_ (i:=8) (N:=some 12) (v:=?_) (a':=?_) #[J,J,J,J,J,J,J,J,J,O,O,O,O,O,O,O] rfl rfl (any_of HT_.out (by kernel_rfl)) (fun _ _ _ h=>h) (Or.inl ⟨by rfl,?_⟩) ?_ ?_
  rotate_left
  ·intro w'
   go_simp
   with_reducible rfl
  rotate_left
  ·simp only [Act.put,sT,sZ,sS,iW,iV]
   rfl
  refine pure_ (i:=10) (N:=some 14) (v:=?_) (a':=?_) #[J,J,J,J,J,J,J,J,J,O,J,O,O,O,O,O] rfl rfl (any_of HT_.out (by kernel_rfl)) (fun _ _ _ h=>h) (Or.inl ⟨by rfl,?_⟩) ?_ ?_
  rotate_left
  ·intro w'
   go_simp
   with_reducible rfl
  rotate_left
  ·simp only [Act.put,sT,sZ,sS,iW,iV]
   rfl
  refine take_ (i:=11) (N:=some 15) (v:=?_) (a':=?_) #[J,J,J,J,J,J,J,J,J,O,J,J,O,O,O,O] rfl rfl (take_ofW HT_.out HW_.out (by kernel_rfl)) (fun _ _ _ h=>h) (Or.inl ⟨by rfl,?_⟩) hHeld ?_ ?_
  rotate_left
  ·rintro w' ⟨s0,s1,s2,s3,s4,s5⟩
   go_simp
   with_reducible rfl
  rotate_left
  ·simp only [Act.put,sT,sZ,sS,iW,iV]
   rfl
  refine one_ (i:=9) (N:=some 13) #[J,J,J,J,J,J,J,J,J,J,J,J,O,O,O,O] rfl rfl (one_of HT_.out (by kernel_rfl)) (by decide) (fun K hK=>?_)
  refine goes_ Tryd.func22 (by kernel_rfl) rfl #[] (by rfl) rfl rfl (by (try simp only [mT,mC,mN]);first|done|rfl|(simp only [lD,lT];rfl)) ?_
  with_reducible refine (book_names.calls  t103 t104 t105 t106 t107 t108 t109 t110 t111 _ A4.out).mono ?_
  rintro e w65 ⟨rfl,hb⟩
  refine ⟨_,rfl,?_⟩
  have n0_:=Am (blk_below (g:=gb102) (by (with_reducible repeat (first|refine bN ?_ _|refine bD ?_|refine bA ?_ _));exact BK102.out) hb)
  have n1_:=Am (below_step (by repeat (first|(with_reducible first|exact HB.out|apply bL|apply pN|apply bE|refine bS ?_ GE102.out)|exact HB.out)) hb)
  clear BK102
  clear HB
  have BK102:=n0_
  have HB:=n1_
  clear n0_ n1_
  have p6 : 0≤(a0_4 : Int):=of_decide_eq_true (by first|(with_reducible assumption)|assumption)
  have q6 : a0_4 < (9 : Int):=of_decide_eq_true (by first|(with_reducible assumption)|assumption)
  have hx6 : ∀ w_ : World,(Instr.index 50 (.agg #[.string t103,.string t104,.string t105,.string t106,.string t107,.string t108,.string t109,.string t110,.string t111]) (.int .i64 a0_4)).run Tryd.prog w_ = .ok (.string (rdOf ByteArray.empty ([t103,t104,t105,t106,t107,t108,t109,t110,t111] : List ByteArray) a0_4)) w_:=run_ix50 ([t103,t104,t105,t106,t107,t108,t109,t110,t111] : List ByteArray) rfl a0_4 p6 q6
  refine hK.out _ _ ⟨(bC BK102.out 0).trans rfl,(bC BK102.out 1).trans rfl,(bC BK102.out 2).trans rfl,(bC BK102.out 3).trans rfl,(bC BK102.out 4).trans rfl,(bC BK102.out 5).trans rfl⟩ (fun hHeld=>?_)
  clear hK K
  refine norm_ (a':=?_) ?_ ?_
  rotate_left
  ·show Act.put _ (some 13) _ = _
   simp only [Act.put,sT,sZ,sS,iW,iV]
   rfl
  refine take_ (i:=12) (N:=some 16) (v:=?_) (a':=?_) #[J,J,J,J,J,J,J,J,J,J,J,J,J,O,O,O] rfl rfl (take_ofW HT_.out HW_.out (by kernel_rfl)) (fun _ _ _ h=>h) (Or.inl ⟨by rfl,?_⟩) hHeld ?_ ?_
  rotate_left
  ·rintro w' ⟨s0,s1,s2,s3,s4,s5⟩
   go_simp
   with_reducible rfl
  rotate_left
  ·simp only [Act.put,sT,sZ,sS,iW,iV]
   rfl
  refine pure_ (i:=13) (N:=some 17) (v:=?_) (a':=?_) #[J,J,J,J,J,J,J,J,J,J,J,J,J,J,O,O] rfl rfl (any_of HT_.out (by kernel_rfl)) (fun _ _ _ h=>h) (Or.inl ⟨by rfl,?_⟩) ?_ ?_
  rotate_left
  ·intro w'
   go_simp
   with_reducible rfl
  rotate_left
  ·simp only [Act.put,sT,sZ,sS,iW,iV]
   rfl
  refine pure_ (i:=14) (N:=some 18) (v:=?_) (a':=?_) #[J,J,J,J,J,J,J,J,J,J,J,J,J,J,J,O] rfl rfl (any_of HT_.out (by kernel_rfl)) (fun _ _ _ h=>h) (Or.inl ⟨by rfl,?_⟩) ?_ ?_
  rotate_left
  ·intro w'
   go_simp
   with_reducible rfl
  rotate_left
  ·simp only [Act.put,sT,sZ,sS,iW,iV]
   rfl
  refine pure_ (i:=15) (N:=some 3) (v:=?_) (a':=?_) #[J,J,J,J,J,J,J,J,J,J,J,J,J,J,J,J] rfl rfl (any_of HT_.out (by kernel_rfl)) (fun _ _ _ h=>h) (Or.inl ⟨by rfl,?_⟩) ?_ ?_
  rotate_left
  ·intro w'
   go_simp
   with_reducible rfl
  rotate_left
  ·simp only [Act.put,sT,sZ,sS,iW,iV]
   rfl
  refine done_ (done_of HT_.out (by kernel_rfl)) ?_
  obtain ⟨X66_0,X66_1,X66_2,X66_3,X66_4,X66_5,Y66_0,Y66_1,Y66_2,Y66_3,Y66_4,Y66_5⟩:=kc6 (w:=w65) (g:=gb102) BK102.out
  try go_wp2
  go_ret
  exact ⟨by first|rfl|(simp [errW_none,errW_some] <;> rfl)|(simp [*,errW_none,errW_some] <;> rfl),by repeat (first|(with_reducible first|exact HB.out|apply bL|apply pN|apply bE|refine bS ?_ GE102.out)|exact HB.out)⟩
 rw [if_pos c7] at H
 have c7b0 : decide (0 < a0_0) = true:=decide_eq_true c7
 clear c7
 replace H:=oB H
 obtain ⟨t112,A80,H⟩:=H
 try dsimp only at H
 have A8:=Am A80
 clear A80
 by_cases c9 : t112 = true
 rotate_left
 ·replace c9:=Bool.eq_false_iff.mpr c9
  subst c9
  have H1 : (some false) = some r:=by rw [if_neg (show ¬ (false = true) by decide)] at H;exact H
  clear H
  have H:=H1
  clear H1
  obtain rfl:=Option.some.inj H
  go_enter Tryd.func19,Tryd.ntmps19
  try go_wp2_with (first|((with_reducible refine gD (N:=1) rfl ?_);refine box_event ?hg (N:=1) ?hd (cs:=#[.int .u32 a0_0,.string a0_1,.int .i64 a0_2,.int .i64 a0_3,.int .i64 a0_4,.int .i64 a0_5]) (t:=24) ?hr ?_;(case hd=>rfl);(case hg=>rfl);(case hr=>first|(go_simp;done)|(go_simp;rfl));intro gb102 hg w58 hbox hb;have n0_:=Am (below_step (by repeat (first|(with_reducible first|exact HB.out|apply bL|apply pN|apply bE)|exact HB.out)) hb);have n1_:=Am (hbox);have n2_:=Am ((by rw [hg];exact (bZ (by repeat (first|(with_reducible first|exact HB.out|apply bL|apply pN|apply bE)|exact HB.out))) : w.heap.size≤gb102));have n3_:=n2_;clear HB;have HB:=n0_;have BK102:=n1_;have GW102:=n2_;have GE102:=n3_;clear n0_ n1_ n2_ n3_;clear hb hbox hg))
  have n0_:=Am (bD BK102.out)
  have n1_:=Am (bE HB.out)
  clear BK102
  clear HB
  have BK102:=n0_
  have HB:=n1_
  clear n0_ n1_
  refine start_ (n:=16) (S:=fun w'=>w'.cell? ⟨gb102,0,none⟩ = some (.int .u32 a0_0)∧w'.cell? ⟨gb102,1,none⟩ = some (.string a0_1)∧w'.cell? ⟨gb102,2,none⟩ = some (.int .i64 a0_2)∧w'.cell? ⟨gb102,3,none⟩ = some (.int .i64 a0_3)∧w'.cell? ⟨gb102,4,none⟩ = some (.int .i64 a0_4)∧w'.cell? ⟨gb102,5,none⟩ = some (.int .i64 a0_5)) (ds:=[]) #[O,O,O,O,O,O,O,O,O,O,O,O,O,O,O,O] (by kernel_rfl) rfl rfl ⟨(bC BK102.out 0).trans rfl,(bC BK102.out 1).trans rfl,(bC BK102.out 2).trans rfl,(bC BK102.out 3).trans rfl,(bC BK102.out 4).trans rfl,(bC BK102.out 5).trans rfl⟩ (fun hHeld=>?_);refine with_tabW book_right.tab1 book_right.bits1 (fun HT_ HW_=>?_)
  generalize w58.drew = w59 at BK102 HB hHeld ⊢
  refine pure_ (i:=0) (N:=some 4) (v:=?_) (a':=?_) #[J,O,O,O,O,O,O,O,O,O,O,O,O,O,O,O] rfl rfl (any_of HT_.out (by kernel_rfl)) (fun _ _ _ h=>h) (Or.inl ⟨by rfl,?_⟩) ?_ ?_
  rotate_left
  ·intro w'
   go_simp
   with_reducible rfl
  rotate_left
  ·simp only [Act.put,sT,sZ,sS,iW,iV]
   rfl
  refine take_ (i:=1) (N:=some 5) (v:=?_) (a':=?_) #[J,J,O,O,O,O,O,O,O,O,O,O,O,O,O,O] rfl rfl (take_ofW HT_.out HW_.out (by kernel_rfl)) (fun _ _ _ h=>h) (Or.inl ⟨by rfl,?_⟩) hHeld ?_ ?_
  rotate_left
  ·rintro w' ⟨s0,s1,s2,s3,s4,s5⟩
   go_simp
   with_reducible rfl
  rotate_left
  ·simp only [Act.put,sT,sZ,sS,iW,iV]
   rfl
  refine pure_ (i:=2) (N:=some 6) (v:=?_) (a':=?_) #[J,J,J,O,O,O,O,O,O,O,O,O,O,O,O,O] rfl rfl (any_of HT_.out (by kernel_rfl)) (fun _ _ _ h=>h) (Or.inl ⟨by rfl,?_⟩) ?_ ?_
  rotate_left
  ·intro w'
   go_simp
   with_reducible rfl
  rotate_left
  ·simp only [Act.put,sT,sZ,sS,iW,iV]
   rfl
  refine pure_ (i:=3) (N:=some 7) (v:=?_) (a':=?_) #[J,J,J,J,O,O,O,O,O,O,O,O,O,O,O,O] rfl rfl (any_of HT_.out (by kernel_rfl)) (fun _ _ _ h=>h) (Or.inl ⟨by rfl,?_⟩) ?_ ?_
  rotate_left
  ·intro w'
   go_simp
   with_reducible rfl
  rotate_left
  ·simp only [Act.put,sT,sZ,sS,iW,iV]
   rfl
  refine pure_ (i:=4) (N:=some 8) (v:=?_) (a':=?_) #[J,J,J,J,J,O,O,O,O,O,O,O,O,O,O,O] rfl rfl (any_of HT_.out (by kernel_rfl)) (fun _ _ _ h=>h) (Or.inl ⟨by rfl,?_⟩) ?_ ?_
  rotate_left
  ·intro w'
   go_simp
   with_reducible rfl
  rotate_left
  ·simp only [Act.put,sT,sZ,sS,iW,iV]
   rfl
  refine take_ (i:=5) (N:=some 9) (v:=?_) (a':=?_) #[J,J,J,J,J,J,O,O,O,O,O,O,O,O,O,O] rfl rfl (take_ofW HT_.out HW_.out (by kernel_rfl)) (fun _ _ _ h=>h) (Or.inl ⟨by rfl,?_⟩) hHeld ?_ ?_
  rotate_left
  ·rintro w' ⟨s0,s1,s2,s3,s4,s5⟩
   go_simp
   with_reducible rfl
  rotate_left
  ·simp only [Act.put,sT,sZ,sS,iW,iV]
   rfl
  refine pure_ (i:=6) (N:=some 10) (v:=?_) (a':=?_) #[J,J,J,J,J,J,J,O,O,O,O,O,O,O,O,O] rfl rfl (any_of HT_.out (by kernel_rfl)) (fun _ _ _ h=>h) (Or.inl ⟨by rfl,?_⟩) ?_ ?_
  rotate_left
  ·intro w'
   go_simp
   with_reducible rfl
  rotate_left
  ·simp only [Act.put,sT,sZ,sS,iW,iV]
   rfl
  refine pure_ (i:=7) (N:=some 11) (v:=?_) (a':=?_) #[J,J,J,J,J,J,J,J,O,O,O,O,O,O,O,O] rfl rfl (any_of HT_.out (by kernel_rfl)) (fun _ _ _ h=>h) (Or.inl ⟨by rfl,?_⟩) ?_ ?_
  rotate_left
  ·intro w'
   go_simp
   with_reducible rfl
  rotate_left
  ·simp only [Act.put,sT,sZ,sS,iW,iV]
   rfl
  refine pure_ (i:=8) (N:=some 12) (v:=?_) (a':=?_) #[J,J,J,J,J,J,J,J,J,O,O,O,O,O,O,O] rfl rfl (any_of HT_.out (by kernel_rfl)) (fun _ _ _ h=>h) (Or.inl ⟨by rfl,?_⟩) ?_ ?_
  rotate_left
  ·intro w'
   go_simp
   with_reducible rfl
  rotate_left
  ·simp only [Act.put,sT,sZ,sS,iW,iV]
   rfl
  refine pure_ (i:=10) (N:=some 14) (v:=?_) (a':=?_) #[J,J,J,J,J,J,J,J,J,O,J,O,O,O,O,O] rfl rfl (any_of HT_.out (by kernel_rfl)) (fun _ _ _ h=>h) (Or.inl ⟨by rfl,?_⟩) ?_ ?_
  rotate_left
  ·intro w'
   go_simp
   with_reducible rfl
  rotate_left
  ·simp only [Act.put,sT,sZ,sS,iW,iV]
   rfl
  refine take_ (i:=11) (N:=some 15) (v:=?_) (a':=?_) #[J,J,J,J,J,J,J,J,J,O,J,J,O,O,O,O] rfl rfl (take_ofW HT_.out HW_.out (by kernel_rfl)) (fun _ _ _ h=>h) (Or.inl ⟨by rfl,?_⟩) hHeld ?_ ?_
  rotate_left
  ·rintro w' ⟨s0,s1,s2,s3,s4,s5⟩
   go_simp
   with_reducible rfl
  rotate_left
  ·simp only [Act.put,sT,sZ,sS,iW,iV]
   rfl
  refine one_ (i:=9) (N:=some 13) #[J,J,J,J,J,J,J,J,J,J,J,J,O,O,O,O] rfl rfl (one_of HT_.out (by kernel_rfl)) (by decide) (fun K hK=>?_)
  refine goes_ Tryd.func22 (by kernel_rfl) rfl #[] (by rfl) rfl rfl (by (try simp only [mT,mC,mN]);first|done|rfl|(simp only [lD,lT];rfl)) ?_
  with_reducible refine (book_names.calls  t103 t104 t105 t106 t107 t108 t109 t110 t111 _ A4.out).mono ?_
  rintro e w60 ⟨rfl,hb⟩
  refine ⟨_,rfl,?_⟩
  have n0_:=Am (blk_below (g:=gb102) (by (with_reducible repeat (first|refine bN ?_ _|refine bD ?_|refine bA ?_ _));exact BK102.out) hb)
  have n1_:=Am (below_step (by repeat (first|(with_reducible first|exact HB.out|apply bL|apply pN|apply bE|refine bS ?_ GE102.out)|exact HB.out)) hb)
  clear BK102
  clear HB
  have BK102:=n0_
  have HB:=n1_
  clear n0_ n1_
  have p6 : 0≤(a0_4 : Int):=of_decide_eq_true (by first|(with_reducible assumption)|assumption)
  have q6 : a0_4 < (9 : Int):=of_decide_eq_true (by first|(with_reducible assumption)|assumption)
  have hx6 : ∀ w_ : World,(Instr.index 50 (.agg #[.string t103,.string t104,.string t105,.string t106,.string t107,.string t108,.string t109,.string t110,.string t111]) (.int .i64 a0_4)).run Tryd.prog w_ = .ok (.string (rdOf ByteArray.empty ([t103,t104,t105,t106,t107,t108,t109,t110,t111] : List ByteArray) a0_4)) w_:=run_ix50 ([t103,t104,t105,t106,t107,t108,t109,t110,t111] : List ByteArray) rfl a0_4 p6 q6
  refine hK.out _ _ ⟨(bC BK102.out 0).trans rfl,(bC BK102.out 1).trans rfl,(bC BK102.out 2).trans rfl,(bC BK102.out 3).trans rfl,(bC BK102.out 4).trans rfl,(bC BK102.out 5).trans rfl⟩ (fun hHeld=>?_)
  clear hK K
  refine norm_ (a':=?_) ?_ ?_
  rotate_left
  ·show Act.put _ (some 13) _ = _
   simp only [Act.put,sT,sZ,sS,iW,iV]
   rfl
  refine take_ (i:=12) (N:=some 16) (v:=?_) (a':=?_) #[J,J,J,J,J,J,J,J,J,J,J,J,J,O,O,O] rfl rfl (take_ofW HT_.out HW_.out (by kernel_rfl)) (fun _ _ _ h=>h) (Or.inl ⟨by rfl,?_⟩) hHeld ?_ ?_
  rotate_left
  ·rintro w' ⟨s0,s1,s2,s3,s4,s5⟩
   go_simp
   with_reducible rfl
  rotate_left
  ·simp only [Act.put,sT,sZ,sS,iW,iV]
   rfl
  refine pure_ (i:=13) (N:=some 17) (v:=?_) (a':=?_) #[J,J,J,J,J,J,J,J,J,J,J,J,J,J,O,O] rfl rfl (any_of HT_.out (by kernel_rfl)) (fun _ _ _ h=>h) (Or.inl ⟨by rfl,?_⟩) ?_ ?_
  rotate_left
  ·intro w'
   go_simp
   with_reducible rfl
  rotate_left
  ·simp only [Act.put,sT,sZ,sS,iW,iV]
   rfl
  refine pure_ (i:=14) (N:=some 18) (v:=?_) (a':=?_) #[J,J,J,J,J,J,J,J,J,J,J,J,J,J,J,O] rfl rfl (any_of HT_.out (by kernel_rfl)) (fun _ _ _ h=>h) (Or.inl ⟨by rfl,?_⟩) ?_ ?_
  rotate_left
  ·intro w'
   go_simp
   with_reducible rfl
  rotate_left
  ·simp only [Act.put,sT,sZ,sS,iW,iV]
   rfl
  refine pure_ (i:=15) (N:=some 3) (v:=?_) (a':=?_) #[J,J,J,J,J,J,J,J,J,J,J,J,J,J,J,J] rfl rfl (any_of HT_.out (by kernel_rfl)) (fun _ _ _ h=>h) (Or.inl ⟨by rfl,?_⟩) ?_ ?_
  rotate_left
  ·intro w'
   go_simp
   with_reducible rfl
  rotate_left
  ·simp only [Act.put,sT,sZ,sS,iW,iV]
   rfl
  refine done_ (done_of HT_.out (by kernel_rfl)) ?_
  obtain ⟨X61_0,X61_1,X61_2,X61_3,X61_4,X61_5,Y61_0,Y61_1,Y61_2,Y61_3,Y61_4,Y61_5⟩:=kc6 (w:=w60) (g:=gb102) BK102.out
  try go_wp2_with (first|(go_at_call 26;(with_reducible refine (script_Name.calls a0_1 false _ ?side1 A8.out).mono ?_);(case side1=>exact Glob.below HG.out (by repeat (first|(with_reducible first|exact HB.out|apply bL|apply pN|apply bE|refine bS ?_ GE102.out)|exact HB.out)));rintro e w62 ⟨rfl,hb⟩;have n0_:=Am (blk_below (g:=gb102) (by (with_reducible repeat (first|refine bN ?_ _|refine bD ?_|refine bA ?_ _));exact BK102.out) hb);have n1_:=Am (below_step (by repeat (first|(with_reducible first|exact HB.out|apply bL|apply pN|apply bE|refine bS ?_ GE102.out)|exact HB.out)) hb);clear BK102;clear HB;have BK102:=n0_;have HB:=n1_;clear n0_ n1_))
  go_ret
  exact ⟨by first|rfl|(simp [errW_none,errW_some] <;> rfl)|(simp [*,errW_none,errW_some] <;> rfl),by repeat (first|(with_reducible first|exact HB.out|apply bL|apply pN|apply bE|refine bS ?_ GE102.out)|exact HB.out)⟩
 subst c9
 have H1 : (if a0_2 ≥ 1 then (if a0_2≤1024 then (if a0_3 ≥ 0 then (if a0_3≤1073741824 then (if (rdOf ByteArray.empty ([t103,t104,t105,t106,t107,t108,t109,t110,t111] : List ByteArray) a0_4).toList = ([] : List UInt8) then (some false) else (if a0_5 ≥ 0 then (some (decide (a0_5≤1099511627776))) else (some false))) else (some false)) else (some false)) else (some false)) else (some false)) = some r:=by rw [if_pos rfl] at H;exact H
 clear H
 have H:=H1
 clear H1
 by_cases c10 : a0_2 ≥ 1
 rotate_left
 ·rw [if_neg c10] at H
  have c10b0 : decide (1≤a0_2) = false:=decide_eq_false c10
  clear c10
  obtain rfl:=Option.some.inj H
  go_enter Tryd.func19,Tryd.ntmps19
  try go_wp2_with (first|((with_reducible refine gD (N:=1) rfl ?_);refine box_event ?hg (N:=1) ?hd (cs:=#[.int .u32 a0_0,.string a0_1,.int .i64 a0_2,.int .i64 a0_3,.int .i64 a0_4,.int .i64 a0_5]) (t:=24) ?hr ?_;(case hd=>rfl);(case hg=>rfl);(case hr=>first|(go_simp;done)|(go_simp;rfl));intro gb102 hg w52 hbox hb;have n0_:=Am (below_step (by repeat (first|(with_reducible first|exact HB.out|apply bL|apply pN|apply bE)|exact HB.out)) hb);have n1_:=Am (hbox);have n2_:=Am ((by rw [hg];exact (bZ (by repeat (first|(with_reducible first|exact HB.out|apply bL|apply pN|apply bE)|exact HB.out))) : w.heap.size≤gb102));have n3_:=n2_;clear HB;have HB:=n0_;have BK102:=n1_;have GW102:=n2_;have GE102:=n3_;clear n0_ n1_ n2_ n3_;clear hb hbox hg))
  have n0_:=Am (bD BK102.out)
  have n1_:=Am (bE HB.out)
  clear BK102
  clear HB
  have BK102:=n0_
  have HB:=n1_
  clear n0_ n1_
  refine start_ (n:=16) (S:=fun w'=>w'.cell? ⟨gb102,0,none⟩ = some (.int .u32 a0_0)∧w'.cell? ⟨gb102,1,none⟩ = some (.string a0_1)∧w'.cell? ⟨gb102,2,none⟩ = some (.int .i64 a0_2)∧w'.cell? ⟨gb102,3,none⟩ = some (.int .i64 a0_3)∧w'.cell? ⟨gb102,4,none⟩ = some (.int .i64 a0_4)∧w'.cell? ⟨gb102,5,none⟩ = some (.int .i64 a0_5)) (ds:=[]) #[O,O,O,O,O,O,O,O,O,O,O,O,O,O,O,O] (by kernel_rfl) rfl rfl ⟨(bC BK102.out 0).trans rfl,(bC BK102.out 1).trans rfl,(bC BK102.out 2).trans rfl,(bC BK102.out 3).trans rfl,(bC BK102.out 4).trans rfl,(bC BK102.out 5).trans rfl⟩ (fun hHeld=>?_);refine with_tabW book_right.tab1 book_right.bits1 (fun HT_ HW_=>?_)
  generalize w52.drew = w53 at BK102 HB hHeld ⊢
  refine pure_ (i:=0) (N:=some 4) (v:=?_) (a':=?_) #[J,O,O,O,O,O,O,O,O,O,O,O,O,O,O,O] rfl rfl (any_of HT_.out (by kernel_rfl)) (fun _ _ _ h=>h) (Or.inl ⟨by rfl,?_⟩) ?_ ?_
  rotate_left
  ·intro w'
   go_simp
   with_reducible rfl
  rotate_left
  ·simp only [Act.put,sT,sZ,sS,iW,iV]
   rfl
  refine take_ (i:=1) (N:=some 5) (v:=?_) (a':=?_) #[J,J,O,O,O,O,O,O,O,O,O,O,O,O,O,O] rfl rfl (take_ofW HT_.out HW_.out (by kernel_rfl)) (fun _ _ _ h=>h) (Or.inl ⟨by rfl,?_⟩) hHeld ?_ ?_
  rotate_left
  ·rintro w' ⟨s0,s1,s2,s3,s4,s5⟩
   go_simp
   with_reducible rfl
  rotate_left
  ·simp only [Act.put,sT,sZ,sS,iW,iV]
   rfl
  refine pure_ (i:=2) (N:=some 6) (v:=?_) (a':=?_) #[J,J,J,O,O,O,O,O,O,O,O,O,O,O,O,O] rfl rfl (any_of HT_.out (by kernel_rfl)) (fun _ _ _ h=>h) (Or.inl ⟨by rfl,?_⟩) ?_ ?_
  rotate_left
  ·intro w'
   go_simp
   with_reducible rfl
  rotate_left
  ·simp only [Act.put,sT,sZ,sS,iW,iV]
   rfl
  refine pure_ (i:=3) (N:=some 7) (v:=?_) (a':=?_) #[J,J,J,J,O,O,O,O,O,O,O,O,O,O,O,O] rfl rfl (any_of HT_.out (by kernel_rfl)) (fun _ _ _ h=>h) (Or.inl ⟨by rfl,?_⟩) ?_ ?_
  rotate_left
  ·intro w'
   go_simp
   with_reducible rfl
  rotate_left
  ·simp only [Act.put,sT,sZ,sS,iW,iV]
   rfl
  refine pure_ (i:=4) (N:=some 8) (v:=?_) (a':=?_) #[J,J,J,J,J,O,O,O,O,O,O,O,O,O,O,O] rfl rfl (any_of HT_.out (by kernel_rfl)) (fun _ _ _ h=>h) (Or.inl ⟨by rfl,?_⟩) ?_ ?_
  rotate_left
  ·intro w'
   go_simp
   with_reducible rfl
  rotate_left
  ·simp only [Act.put,sT,sZ,sS,iW,iV]
   rfl
  refine take_ (i:=5) (N:=some 9) (v:=?_) (a':=?_) #[J,J,J,J,J,J,O,O,O,O,O,O,O,O,O,O] rfl rfl (take_ofW HT_.out HW_.out (by kernel_rfl)) (fun _ _ _ h=>h) (Or.inl ⟨by rfl,?_⟩) hHeld ?_ ?_
  rotate_left
  ·rintro w' ⟨s0,s1,s2,s3,s4,s5⟩
   go_simp
   with_reducible rfl
  rotate_left
  ·simp only [Act.put,sT,sZ,sS,iW,iV]
   rfl
  refine pure_ (i:=6) (N:=some 10) (v:=?_) (a':=?_) #[J,J,J,J,J,J,J,O,O,O,O,O,O,O,O,O] rfl rfl (any_of HT_.out (by kernel_rfl)) (fun _ _ _ h=>h) (Or.inl ⟨by rfl,?_⟩) ?_ ?_
  rotate_left
  ·intro w'
   go_simp
   with_reducible rfl
  rotate_left
  ·simp only [Act.put,sT,sZ,sS,iW,iV]
   rfl
  refine pure_ (i:=7) (N:=some 11) (v:=?_) (a':=?_) #[J,J,J,J,J,J,J,J,O,O,O,O,O,O,O,O] rfl rfl (any_of HT_.out (by kernel_rfl)) (fun _ _ _ h=>h) (Or.inl ⟨by rfl,?_⟩) ?_ ?_
  rotate_left
  ·intro w'
   go_simp
   with_reducible rfl
  rotate_left
  ·simp only [Act.put,sT,sZ,sS,iW,iV]
   rfl
  refine pure_ (i:=8) (N:=some 12) (v:=?_) (a':=?_) #[J,J,J,J,J,J,J,J,J,O,O,O,O,O,O,O] rfl rfl (any_of HT_.out (by kernel_rfl)) (fun _ _ _ h=>h) (Or.inl ⟨by rfl,?_⟩) ?_ ?_
  rotate_left
  ·intro w'
   go_simp
   with_reducible rfl
  rotate_left
  ·simp only [Act.put,sT,sZ,sS,iW,iV]
   rfl
  refine pure_ (i:=10) (N:=some 14) (v:=?_) (a':=?_) #[J,J,J,J,J,J,J,J,J,O,J,O,O,O,O,O] rfl rfl (any_of HT_.out (by kernel_rfl)) (fun _ _ _ h=>h) (Or.inl ⟨by rfl,?_⟩) ?_ ?_
  rotate_left
  ·intro w'
   go_simp
   with_reducible rfl
  rotate_left
  ·simp only [Act.put,sT,sZ,sS,iW,iV]
   rfl
  refine take_ (i:=11) (N:=some 15) (v:=?_) (a':=?_) #[J,J,J,J,J,J,J,J,J,O,J,J,O,O,O,O] rfl rfl (take_ofW HT_.out HW_.out (by kernel_rfl)) (fun _ _ _ h=>h) (Or.inl ⟨by rfl,?_⟩) hHeld ?_ ?_
  rotate_left
  ·rintro w' ⟨s0,s1,s2,s3,s4,s5⟩
   go_simp
   with_reducible rfl
  rotate_left
  ·simp only [Act.put,sT,sZ,sS,iW,iV]
   rfl
  refine one_ (i:=9) (N:=some 13) #[J,J,J,J,J,J,J,J,J,J,J,J,O,O,O,O] rfl rfl (one_of HT_.out (by kernel_rfl)) (by decide) (fun K hK=>?_)
  refine goes_ Tryd.func22 (by kernel_rfl) rfl #[] (by rfl) rfl rfl (by (try simp only [mT,mC,mN]);first|done|rfl|(simp only [lD,lT];rfl)) ?_
  with_reducible refine (book_names.calls  t103 t104 t105 t106 t107 t108 t109 t110 t111 _ A4.out).mono ?_
  rintro e w54 ⟨rfl,hb⟩
  refine ⟨_,rfl,?_⟩
  have n0_:=Am (blk_below (g:=gb102) (by (with_reducible repeat (first|refine bN ?_ _|refine bD ?_|refine bA ?_ _));exact BK102.out) hb)
  have n1_:=Am (below_step (by repeat (first|(with_reducible first|exact HB.out|apply bL|apply pN|apply bE|refine bS ?_ GE102.out)|exact HB.out)) hb)
  clear BK102
  clear HB
  have BK102:=n0_
  have HB:=n1_
  clear n0_ n1_
  have p6 : 0≤(a0_4 : Int):=of_decide_eq_true (by first|(with_reducible assumption)|assumption)
  have q6 : a0_4 < (9 : Int):=of_decide_eq_true (by first|(with_reducible assumption)|assumption)
  have hx6 : ∀ w_ : World,(Instr.index 50 (.agg #[.string t103,.string t104,.string t105,.string t106,.string t107,.string t108,.string t109,.string t110,.string t111]) (.int .i64 a0_4)).run Tryd.prog w_ = .ok (.string (rdOf ByteArray.empty ([t103,t104,t105,t106,t107,t108,t109,t110,t111] : List ByteArray) a0_4)) w_:=run_ix50 ([t103,t104,t105,t106,t107,t108,t109,t110,t111] : List ByteArray) rfl a0_4 p6 q6
  refine hK.out _ _ ⟨(bC BK102.out 0).trans rfl,(bC BK102.out 1).trans rfl,(bC BK102.out 2).trans rfl,(bC BK102.out 3).trans rfl,(bC BK102.out 4).trans rfl,(bC BK102.out 5).trans rfl⟩ (fun hHeld=>?_)
  clear hK K
  refine norm_ (a':=?_) ?_ ?_
  rotate_left
  ·show Act.put _ (some 13) _ = _
   simp only [Act.put,sT,sZ,sS,iW,iV]
   rfl
  refine take_ (i:=12) (N:=some 16) (v:=?_) (a':=?_) #[J,J,J,J,J,J,J,J,J,J,J,J,J,O,O,O] rfl rfl (take_ofW HT_.out HW_.out (by kernel_rfl)) (fun _ _ _ h=>h) (Or.inl ⟨by rfl,?_⟩) hHeld ?_ ?_
  rotate_left
  ·rintro w' ⟨s0,s1,s2,s3,s4,s5⟩
   go_simp
   with_reducible rfl
  rotate_left
  ·simp only [Act.put,sT,sZ,sS,iW,iV]
   rfl
  refine pure_ (i:=13) (N:=some 17) (v:=?_) (a':=?_) #[J,J,J,J,J,J,J,J,J,J,J,J,J,J,O,O] rfl rfl (any_of HT_.out (by kernel_rfl)) (fun _ _ _ h=>h) (Or.inl ⟨by rfl,?_⟩) ?_ ?_
  rotate_left
  ·intro w'
   go_simp
   with_reducible rfl
  rotate_left
  ·simp only [Act.put,sT,sZ,sS,iW,iV]
   rfl
  refine pure_ (i:=14) (N:=some 18) (v:=?_) (a':=?_) #[J,J,J,J,J,J,J,J,J,J,J,J,J,J,J,O] rfl rfl (any_of HT_.out (by kernel_rfl)) (fun _ _ _ h=>h) (Or.inl ⟨by rfl,?_⟩) ?_ ?_
  rotate_left
  ·intro w'
   go_simp
   with_reducible rfl
  rotate_left
  ·simp only [Act.put,sT,sZ,sS,iW,iV]
   rfl
  refine pure_ (i:=15) (N:=some 3) (v:=?_) (a':=?_) #[J,J,J,J,J,J,J,J,J,J,J,J,J,J,J,J] rfl rfl (any_of HT_.out (by kernel_rfl)) (fun _ _ _ h=>h) (Or.inl ⟨by rfl,?_⟩) ?_ ?_
  rotate_left
  ·intro w'
   go_simp
   with_reducible rfl
  rotate_left
  ·simp only [Act.put,sT,sZ,sS,iW,iV]
   rfl
  refine done_ (done_of HT_.out (by kernel_rfl)) ?_
  obtain ⟨X55_0,X55_1,X55_2,X55_3,X55_4,X55_5,Y55_0,Y55_1,Y55_2,Y55_3,Y55_4,Y55_5⟩:=kc6 (w:=w54) (g:=gb102) BK102.out
  try go_wp2_with (first|(go_at_call 26;(with_reducible refine (script_Name.calls a0_1 true _ ?side1 A8.out).mono ?_);(case side1=>exact Glob.below HG.out (by repeat (first|(with_reducible first|exact HB.out|apply bL|apply pN|apply bE|refine bS ?_ GE102.out)|exact HB.out)));rintro e w56 ⟨rfl,hb⟩;have n0_:=Am (blk_below (g:=gb102) (by (with_reducible repeat (first|refine bN ?_ _|refine bD ?_|refine bA ?_ _));exact BK102.out) hb);have n1_:=Am (below_step (by repeat (first|(with_reducible first|exact HB.out|apply bL|apply pN|apply bE|refine bS ?_ GE102.out)|exact HB.out)) hb);clear BK102;clear HB;have BK102:=n0_;have HB:=n1_;clear n0_ n1_;obtain ⟨X57_0,X57_1,X57_2,X57_3,X57_4,X57_5,Y57_0,Y57_1,Y57_2,Y57_3,Y57_4,Y57_5⟩:=kc6 (w:=w56) (g:=gb102) BK102.out))
  go_ret
  exact ⟨by first|rfl|(simp [errW_none,errW_some] <;> rfl)|(simp [*,errW_none,errW_some] <;> rfl),by repeat (first|(with_reducible first|exact HB.out|apply bL|apply pN|apply bE|refine bS ?_ GE102.out)|exact HB.out)⟩
 rw [if_pos c10] at H
 have c10b0 : decide (1≤a0_2) = true:=decide_eq_true c10
 clear c10
 by_cases c11 : a0_2≤1024
 rotate_left
 ·rw [if_neg c11] at H
  have c11b0 : decide (a0_2≤1024) = false:=decide_eq_false c11
  clear c11
  obtain rfl:=Option.some.inj H
  go_enter Tryd.func19,Tryd.ntmps19
  try go_wp2_with (first|((with_reducible refine gD (N:=1) rfl ?_);refine box_event ?hg (N:=1) ?hd (cs:=#[.int .u32 a0_0,.string a0_1,.int .i64 a0_2,.int .i64 a0_3,.int .i64 a0_4,.int .i64 a0_5]) (t:=24) ?hr ?_;(case hd=>rfl);(case hg=>rfl);(case hr=>first|(go_simp;done)|(go_simp;rfl));intro gb102 hg w46 hbox hb;have n0_:=Am (below_step (by repeat (first|(with_reducible first|exact HB.out|apply bL|apply pN|apply bE)|exact HB.out)) hb);have n1_:=Am (hbox);have n2_:=Am ((by rw [hg];exact (bZ (by repeat (first|(with_reducible first|exact HB.out|apply bL|apply pN|apply bE)|exact HB.out))) : w.heap.size≤gb102));have n3_:=n2_;clear HB;have HB:=n0_;have BK102:=n1_;have GW102:=n2_;have GE102:=n3_;clear n0_ n1_ n2_ n3_;clear hb hbox hg))
  have n0_:=Am (bD BK102.out)
  have n1_:=Am (bE HB.out)
  clear BK102
  clear HB
  have BK102:=n0_
  have HB:=n1_
  clear n0_ n1_
  refine start_ (n:=16) (S:=fun w'=>w'.cell? ⟨gb102,0,none⟩ = some (.int .u32 a0_0)∧w'.cell? ⟨gb102,1,none⟩ = some (.string a0_1)∧w'.cell? ⟨gb102,2,none⟩ = some (.int .i64 a0_2)∧w'.cell? ⟨gb102,3,none⟩ = some (.int .i64 a0_3)∧w'.cell? ⟨gb102,4,none⟩ = some (.int .i64 a0_4)∧w'.cell? ⟨gb102,5,none⟩ = some (.int .i64 a0_5)) (ds:=[]) #[O,O,O,O,O,O,O,O,O,O,O,O,O,O,O,O] (by kernel_rfl) rfl rfl ⟨(bC BK102.out 0).trans rfl,(bC BK102.out 1).trans rfl,(bC BK102.out 2).trans rfl,(bC BK102.out 3).trans rfl,(bC BK102.out 4).trans rfl,(bC BK102.out 5).trans rfl⟩ (fun hHeld=>?_);refine with_tabW book_right.tab1 book_right.bits1 (fun HT_ HW_=>?_)
  generalize w46.drew = w47 at BK102 HB hHeld ⊢
  refine pure_ (i:=0) (N:=some 4) (v:=?_) (a':=?_) #[J,O,O,O,O,O,O,O,O,O,O,O,O,O,O,O] rfl rfl (any_of HT_.out (by kernel_rfl)) (fun _ _ _ h=>h) (Or.inl ⟨by rfl,?_⟩) ?_ ?_
  rotate_left
  ·intro w'
   go_simp
   with_reducible rfl
  rotate_left
  ·simp only [Act.put,sT,sZ,sS,iW,iV]
   rfl
  refine take_ (i:=1) (N:=some 5) (v:=?_) (a':=?_) #[J,J,O,O,O,O,O,O,O,O,O,O,O,O,O,O] rfl rfl (take_ofW HT_.out HW_.out (by kernel_rfl)) (fun _ _ _ h=>h) (Or.inl ⟨by rfl,?_⟩) hHeld ?_ ?_
  rotate_left
  ·rintro w' ⟨s0,s1,s2,s3,s4,s5⟩
   go_simp
   with_reducible rfl
  rotate_left
  ·simp only [Act.put,sT,sZ,sS,iW,iV]
   rfl
  refine pure_ (i:=2) (N:=some 6) (v:=?_) (a':=?_) #[J,J,J,O,O,O,O,O,O,O,O,O,O,O,O,O] rfl rfl (any_of HT_.out (by kernel_rfl)) (fun _ _ _ h=>h) (Or.inl ⟨by rfl,?_⟩) ?_ ?_
  rotate_left
  ·intro w'
   go_simp
   with_reducible rfl
  rotate_left
  ·simp only [Act.put,sT,sZ,sS,iW,iV]
   rfl
  refine pure_ (i:=3) (N:=some 7) (v:=?_) (a':=?_) #[J,J,J,J,O,O,O,O,O,O,O,O,O,O,O,O] rfl rfl (any_of HT_.out (by kernel_rfl)) (fun _ _ _ h=>h) (Or.inl ⟨by rfl,?_⟩) ?_ ?_
  rotate_left
  ·intro w'
   go_simp
   with_reducible rfl
  rotate_left
  ·simp only [Act.put,sT,sZ,sS,iW,iV]
   rfl
  refine pure_ (i:=4) (N:=some 8) (v:=?_) (a':=?_) #[J,J,J,J,J,O,O,O,O,O,O,O,O,O,O,O] rfl rfl (any_of HT_.out (by kernel_rfl)) (fun _ _ _ h=>h) (Or.inl ⟨by rfl,?_⟩) ?_ ?_
  rotate_left
  ·intro w'
   go_simp
   with_reducible rfl
  rotate_left
  ·simp only [Act.put,sT,sZ,sS,iW,iV]
   rfl
  refine take_ (i:=5) (N:=some 9) (v:=?_) (a':=?_) #[J,J,J,J,J,J,O,O,O,O,O,O,O,O,O,O] rfl rfl (take_ofW HT_.out HW_.out (by kernel_rfl)) (fun _ _ _ h=>h) (Or.inl ⟨by rfl,?_⟩) hHeld ?_ ?_
  rotate_left
  ·rintro w' ⟨s0,s1,s2,s3,s4,s5⟩
   go_simp
   with_reducible rfl
  rotate_left
  ·simp only [Act.put,sT,sZ,sS,iW,iV]
   rfl
  refine pure_ (i:=6) (N:=some 10) (v:=?_) (a':=?_) #[J,J,J,J,J,J,J,O,O,O,O,O,O,O,O,O] rfl rfl (any_of HT_.out (by kernel_rfl)) (fun _ _ _ h=>h) (Or.inl ⟨by rfl,?_⟩) ?_ ?_
  rotate_left
  ·intro w'
   go_simp
   with_reducible rfl
  rotate_left
  ·simp only [Act.put,sT,sZ,sS,iW,iV]
   rfl
  refine pure_ (i:=7) (N:=some 11) (v:=?_) (a':=?_) #[J,J,J,J,J,J,J,J,O,O,O,O,O,O,O,O] rfl rfl (any_of HT_.out (by kernel_rfl)) (fun _ _ _ h=>h) (Or.inl ⟨by rfl,?_⟩) ?_ ?_
  rotate_left
  ·intro w'
   go_simp
   with_reducible rfl
  rotate_left
  ·simp only [Act.put,sT,sZ,sS,iW,iV]
   rfl
  refine pure_ (i:=8) (N:=some 12) (v:=?_) (a':=?_) #[J,J,J,J,J,J,J,J,J,O,O,O,O,O,O,O] rfl rfl (any_of HT_.out (by kernel_rfl)) (fun _ _ _ h=>h) (Or.inl ⟨by rfl,?_⟩) ?_ ?_
  rotate_left
  ·intro w'
   go_simp
   with_reducible rfl
  rotate_left
  ·simp only [Act.put,sT,sZ,sS,iW,iV]
   rfl
  refine pure_ (i:=10) (N:=some 14) (v:=?_) (a':=?_) #[J,J,J,J,J,J,J,J,J,O,J,O,O,O,O,O] rfl rfl (any_of HT_.out (by kernel_rfl)) (fun _ _ _ h=>h) (Or.inl ⟨by rfl,?_⟩) ?_ ?_
  rotate_left
  ·intro w'
   go_simp
   with_reducible rfl
  rotate_left
  ·simp only [Act.put,sT,sZ,sS,iW,iV]
   rfl
  refine take_ (i:=11) (N:=some 15) (v:=?_) (a':=?_) #[J,J,J,J,J,J,J,J,J,O,J,J,O,O,O,O] rfl rfl (take_ofW HT_.out HW_.out (by kernel_rfl)) (fun _ _ _ h=>h) (Or.inl ⟨by rfl,?_⟩) hHeld ?_ ?_
  rotate_left
  ·rintro w' ⟨s0,s1,s2,s3,s4,s5⟩
   go_simp
   with_reducible rfl
  rotate_left
  ·simp only [Act.put,sT,sZ,sS,iW,iV]
   rfl
  refine one_ (i:=9) (N:=some 13) #[J,J,J,J,J,J,J,J,J,J,J,J,O,O,O,O] rfl rfl (one_of HT_.out (by kernel_rfl)) (by decide) (fun K hK=>?_)
  refine goes_ Tryd.func22 (by kernel_rfl) rfl #[] (by rfl) rfl rfl (by (try simp only [mT,mC,mN]);first|done|rfl|(simp only [lD,lT];rfl)) ?_
  with_reducible refine (book_names.calls  t103 t104 t105 t106 t107 t108 t109 t110 t111 _ A4.out).mono ?_
  rintro e w48 ⟨rfl,hb⟩
  refine ⟨_,rfl,?_⟩
  have n0_:=Am (blk_below (g:=gb102) (by (with_reducible repeat (first|refine bN ?_ _|refine bD ?_|refine bA ?_ _));exact BK102.out) hb)
  have n1_:=Am (below_step (by repeat (first|(with_reducible first|exact HB.out|apply bL|apply pN|apply bE|refine bS ?_ GE102.out)|exact HB.out)) hb)
  clear BK102
  clear HB
  have BK102:=n0_
  have HB:=n1_
  clear n0_ n1_
  have p6 : 0≤(a0_4 : Int):=of_decide_eq_true (by first|(with_reducible assumption)|assumption)
  have q6 : a0_4 < (9 : Int):=of_decide_eq_true (by first|(with_reducible assumption)|assumption)
  have hx6 : ∀ w_ : World,(Instr.index 50 (.agg #[.string t103,.string t104,.string t105,.string t106,.string t107,.string t108,.string t109,.string t110,.string t111]) (.int .i64 a0_4)).run Tryd.prog w_ = .ok (.string (rdOf ByteArray.empty ([t103,t104,t105,t106,t107,t108,t109,t110,t111] : List ByteArray) a0_4)) w_:=run_ix50 ([t103,t104,t105,t106,t107,t108,t109,t110,t111] : List ByteArray) rfl a0_4 p6 q6
  refine hK.out _ _ ⟨(bC BK102.out 0).trans rfl,(bC BK102.out 1).trans rfl,(bC BK102.out 2).trans rfl,(bC BK102.out 3).trans rfl,(bC BK102.out 4).trans rfl,(bC BK102.out 5).trans rfl⟩ (fun hHeld=>?_)
  clear hK K
  refine norm_ (a':=?_) ?_ ?_
  rotate_left
  ·show Act.put _ (some 13) _ = _
   simp only [Act.put,sT,sZ,sS,iW,iV]
   rfl
  refine take_ (i:=12) (N:=some 16) (v:=?_) (a':=?_) #[J,J,J,J,J,J,J,J,J,J,J,J,J,O,O,O] rfl rfl (take_ofW HT_.out HW_.out (by kernel_rfl)) (fun _ _ _ h=>h) (Or.inl ⟨by rfl,?_⟩) hHeld ?_ ?_
  rotate_left
  ·rintro w' ⟨s0,s1,s2,s3,s4,s5⟩
   go_simp
   with_reducible rfl
  rotate_left
  ·simp only [Act.put,sT,sZ,sS,iW,iV]
   rfl
  refine pure_ (i:=13) (N:=some 17) (v:=?_) (a':=?_) #[J,J,J,J,J,J,J,J,J,J,J,J,J,J,O,O] rfl rfl (any_of HT_.out (by kernel_rfl)) (fun _ _ _ h=>h) (Or.inl ⟨by rfl,?_⟩) ?_ ?_
  rotate_left
  ·intro w'
   go_simp
   with_reducible rfl
  rotate_left
  ·simp only [Act.put,sT,sZ,sS,iW,iV]
   rfl
  refine pure_ (i:=14) (N:=some 18) (v:=?_) (a':=?_) #[J,J,J,J,J,J,J,J,J,J,J,J,J,J,J,O] rfl rfl (any_of HT_.out (by kernel_rfl)) (fun _ _ _ h=>h) (Or.inl ⟨by rfl,?_⟩) ?_ ?_
  rotate_left
  ·intro w'
   go_simp
   with_reducible rfl
  rotate_left
  ·simp only [Act.put,sT,sZ,sS,iW,iV]
   rfl
  refine pure_ (i:=15) (N:=some 3) (v:=?_) (a':=?_) #[J,J,J,J,J,J,J,J,J,J,J,J,J,J,J,J] rfl rfl (any_of HT_.out (by kernel_rfl)) (fun _ _ _ h=>h) (Or.inl ⟨by rfl,?_⟩) ?_ ?_
  rotate_left
  ·intro w'
   go_simp
   with_reducible rfl
  rotate_left
  ·simp only [Act.put,sT,sZ,sS,iW,iV]
   rfl
  refine done_ (done_of HT_.out (by kernel_rfl)) ?_
  obtain ⟨X49_0,X49_1,X49_2,X49_3,X49_4,X49_5,Y49_0,Y49_1,Y49_2,Y49_3,Y49_4,Y49_5⟩:=kc6 (w:=w48) (g:=gb102) BK102.out
  try go_wp2_with (first|(go_at_call 26;(with_reducible refine (script_Name.calls a0_1 true _ ?side1 A8.out).mono ?_);(case side1=>exact Glob.below HG.out (by repeat (first|(with_reducible first|exact HB.out|apply bL|apply pN|apply bE|refine bS ?_ GE102.out)|exact HB.out)));rintro e w50 ⟨rfl,hb⟩;have n0_:=Am (blk_below (g:=gb102) (by (with_reducible repeat (first|refine bN ?_ _|refine bD ?_|refine bA ?_ _));exact BK102.out) hb);have n1_:=Am (below_step (by repeat (first|(with_reducible first|exact HB.out|apply bL|apply pN|apply bE|refine bS ?_ GE102.out)|exact HB.out)) hb);clear BK102;clear HB;have BK102:=n0_;have HB:=n1_;clear n0_ n1_;obtain ⟨X51_0,X51_1,X51_2,X51_3,X51_4,X51_5,Y51_0,Y51_1,Y51_2,Y51_3,Y51_4,Y51_5⟩:=kc6 (w:=w50) (g:=gb102) BK102.out))
  go_ret
  exact ⟨by first|rfl|(simp [errW_none,errW_some] <;> rfl)|(simp [*,errW_none,errW_some] <;> rfl),by repeat (first|(with_reducible first|exact HB.out|apply bL|apply pN|apply bE|refine bS ?_ GE102.out)|exact HB.out)⟩
 rw [if_pos c11] at H
 have c11b0 : decide (a0_2≤1024) = true:=decide_eq_true c11
 clear c11
 by_cases c12 : a0_3 ≥ 0
 rotate_left
 ·rw [if_neg c12] at H
  have c12b0 : decide (0≤a0_3) = false:=decide_eq_false c12
  clear c12
  obtain rfl:=Option.some.inj H
  go_enter Tryd.func19,Tryd.ntmps19
  try go_wp2_with (first|((with_reducible refine gD (N:=1) rfl ?_);refine box_event ?hg (N:=1) ?hd (cs:=#[.int .u32 a0_0,.string a0_1,.int .i64 a0_2,.int .i64 a0_3,.int .i64 a0_4,.int .i64 a0_5]) (t:=24) ?hr ?_;(case hd=>rfl);(case hg=>rfl);(case hr=>first|(go_simp;done)|(go_simp;rfl));intro gb102 hg w40 hbox hb;have n0_:=Am (below_step (by repeat (first|(with_reducible first|exact HB.out|apply bL|apply pN|apply bE)|exact HB.out)) hb);have n1_:=Am (hbox);have n2_:=Am ((by rw [hg];exact (bZ (by repeat (first|(with_reducible first|exact HB.out|apply bL|apply pN|apply bE)|exact HB.out))) : w.heap.size≤gb102));have n3_:=n2_;clear HB;have HB:=n0_;have BK102:=n1_;have GW102:=n2_;have GE102:=n3_;clear n0_ n1_ n2_ n3_;clear hb hbox hg))
  have n0_:=Am (bD BK102.out)
  have n1_:=Am (bE HB.out)
  clear BK102
  clear HB
  have BK102:=n0_
  have HB:=n1_
  clear n0_ n1_
  refine start_ (n:=16) (S:=fun w'=>w'.cell? ⟨gb102,0,none⟩ = some (.int .u32 a0_0)∧w'.cell? ⟨gb102,1,none⟩ = some (.string a0_1)∧w'.cell? ⟨gb102,2,none⟩ = some (.int .i64 a0_2)∧w'.cell? ⟨gb102,3,none⟩ = some (.int .i64 a0_3)∧w'.cell? ⟨gb102,4,none⟩ = some (.int .i64 a0_4)∧w'.cell? ⟨gb102,5,none⟩ = some (.int .i64 a0_5)) (ds:=[]) #[O,O,O,O,O,O,O,O,O,O,O,O,O,O,O,O] (by kernel_rfl) rfl rfl ⟨(bC BK102.out 0).trans rfl,(bC BK102.out 1).trans rfl,(bC BK102.out 2).trans rfl,(bC BK102.out 3).trans rfl,(bC BK102.out 4).trans rfl,(bC BK102.out 5).trans rfl⟩ (fun hHeld=>?_);refine with_tabW book_right.tab1 book_right.bits1 (fun HT_ HW_=>?_)
  generalize w40.drew = w41 at BK102 HB hHeld ⊢
  refine pure_ (i:=0) (N:=some 4) (v:=?_) (a':=?_) #[J,O,O,O,O,O,O,O,O,O,O,O,O,O,O,O] rfl rfl (any_of HT_.out (by kernel_rfl)) (fun _ _ _ h=>h) (Or.inl ⟨by rfl,?_⟩) ?_ ?_
  rotate_left
  ·intro w'
   go_simp
   with_reducible rfl
  rotate_left
  ·simp only [Act.put,sT,sZ,sS,iW,iV]
   rfl
  refine take_ (i:=1) (N:=some 5) (v:=?_) (a':=?_) #[J,J,O,O,O,O,O,O,O,O,O,O,O,O,O,O] rfl rfl (take_ofW HT_.out HW_.out (by kernel_rfl)) (fun _ _ _ h=>h) (Or.inl ⟨by rfl,?_⟩) hHeld ?_ ?_
  rotate_left
  ·rintro w' ⟨s0,s1,s2,s3,s4,s5⟩
   go_simp
   with_reducible rfl
  rotate_left
  ·simp only [Act.put,sT,sZ,sS,iW,iV]
   rfl
  refine pure_ (i:=2) (N:=some 6) (v:=?_) (a':=?_) #[J,J,J,O,O,O,O,O,O,O,O,O,O,O,O,O] rfl rfl (any_of HT_.out (by kernel_rfl)) (fun _ _ _ h=>h) (Or.inl ⟨by rfl,?_⟩) ?_ ?_
  rotate_left
  ·intro w'
   go_simp
   with_reducible rfl
  rotate_left
  ·simp only [Act.put,sT,sZ,sS,iW,iV]
   rfl
  refine pure_ (i:=3) (N:=some 7) (v:=?_) (a':=?_) #[J,J,J,J,O,O,O,O,O,O,O,O,O,O,O,O] rfl rfl (any_of HT_.out (by kernel_rfl)) (fun _ _ _ h=>h) (Or.inl ⟨by rfl,?_⟩) ?_ ?_
  rotate_left
  ·intro w'
   go_simp
   with_reducible rfl
  rotate_left
  ·simp only [Act.put,sT,sZ,sS,iW,iV]
   rfl
  refine pure_ (i:=4) (N:=some 8) (v:=?_) (a':=?_) #[J,J,J,J,J,O,O,O,O,O,O,O,O,O,O,O] rfl rfl (any_of HT_.out (by kernel_rfl)) (fun _ _ _ h=>h) (Or.inl ⟨by rfl,?_⟩) ?_ ?_
  rotate_left
  ·intro w'
   go_simp
   with_reducible rfl
  rotate_left
  ·simp only [Act.put,sT,sZ,sS,iW,iV]
   rfl
  refine take_ (i:=5) (N:=some 9) (v:=?_) (a':=?_) #[J,J,J,J,J,J,O,O,O,O,O,O,O,O,O,O] rfl rfl (take_ofW HT_.out HW_.out (by kernel_rfl)) (fun _ _ _ h=>h) (Or.inl ⟨by rfl,?_⟩) hHeld ?_ ?_
  rotate_left
  ·rintro w' ⟨s0,s1,s2,s3,s4,s5⟩
   go_simp
   with_reducible rfl
  rotate_left
  ·simp only [Act.put,sT,sZ,sS,iW,iV]
   rfl
  refine pure_ (i:=6) (N:=some 10) (v:=?_) (a':=?_) #[J,J,J,J,J,J,J,O,O,O,O,O,O,O,O,O] rfl rfl (any_of HT_.out (by kernel_rfl)) (fun _ _ _ h=>h) (Or.inl ⟨by rfl,?_⟩) ?_ ?_
  rotate_left
  ·intro w'
   go_simp
   with_reducible rfl
  rotate_left
  ·simp only [Act.put,sT,sZ,sS,iW,iV]
   rfl
  refine pure_ (i:=7) (N:=some 11) (v:=?_) (a':=?_) #[J,J,J,J,J,J,J,J,O,O,O,O,O,O,O,O] rfl rfl (any_of HT_.out (by kernel_rfl)) (fun _ _ _ h=>h) (Or.inl ⟨by rfl,?_⟩) ?_ ?_
  rotate_left
  ·intro w'
   go_simp
   with_reducible rfl
  rotate_left
  ·simp only [Act.put,sT,sZ,sS,iW,iV]
   rfl
  refine pure_ (i:=8) (N:=some 12) (v:=?_) (a':=?_) #[J,J,J,J,J,J,J,J,J,O,O,O,O,O,O,O] rfl rfl (any_of HT_.out (by kernel_rfl)) (fun _ _ _ h=>h) (Or.inl ⟨by rfl,?_⟩) ?_ ?_
  rotate_left
  ·intro w'
   go_simp
   with_reducible rfl
  rotate_left
  ·simp only [Act.put,sT,sZ,sS,iW,iV]
   rfl
  refine pure_ (i:=10) (N:=some 14) (v:=?_) (a':=?_) #[J,J,J,J,J,J,J,J,J,O,J,O,O,O,O,O] rfl rfl (any_of HT_.out (by kernel_rfl)) (fun _ _ _ h=>h) (Or.inl ⟨by rfl,?_⟩) ?_ ?_
  rotate_left
  ·intro w'
   go_simp
   with_reducible rfl
  rotate_left
  ·simp only [Act.put,sT,sZ,sS,iW,iV]
   rfl
  refine take_ (i:=11) (N:=some 15) (v:=?_) (a':=?_) #[J,J,J,J,J,J,J,J,J,O,J,J,O,O,O,O] rfl rfl (take_ofW HT_.out HW_.out (by kernel_rfl)) (fun _ _ _ h=>h) (Or.inl ⟨by rfl,?_⟩) hHeld ?_ ?_
  rotate_left
  ·rintro w' ⟨s0,s1,s2,s3,s4,s5⟩
   go_simp
   with_reducible rfl
  rotate_left
  ·simp only [Act.put,sT,sZ,sS,iW,iV]
   rfl
  refine one_ (i:=9) (N:=some 13) #[J,J,J,J,J,J,J,J,J,J,J,J,O,O,O,O] rfl rfl (one_of HT_.out (by kernel_rfl)) (by decide) (fun K hK=>?_)
  refine goes_ Tryd.func22 (by kernel_rfl) rfl #[] (by rfl) rfl rfl (by (try simp only [mT,mC,mN]);first|done|rfl|(simp only [lD,lT];rfl)) ?_
  with_reducible refine (book_names.calls  t103 t104 t105 t106 t107 t108 t109 t110 t111 _ A4.out).mono ?_
  rintro e w42 ⟨rfl,hb⟩
  refine ⟨_,rfl,?_⟩
  have n0_:=Am (blk_below (g:=gb102) (by (with_reducible repeat (first|refine bN ?_ _|refine bD ?_|refine bA ?_ _));exact BK102.out) hb)
  have n1_:=Am (below_step (by repeat (first|(with_reducible first|exact HB.out|apply bL|apply pN|apply bE|refine bS ?_ GE102.out)|exact HB.out)) hb)
  clear BK102
  clear HB
  have BK102:=n0_
  have HB:=n1_
  clear n0_ n1_
  have p6 : 0≤(a0_4 : Int):=of_decide_eq_true (by first|(with_reducible assumption)|assumption)
  have q6 : a0_4 < (9 : Int):=of_decide_eq_true (by first|(with_reducible assumption)|assumption)
  have hx6 : ∀ w_ : World,(Instr.index 50 (.agg #[.string t103,.string t104,.string t105,.string t106,.string t107,.string t108,.string t109,.string t110,.string t111]) (.int .i64 a0_4)).run Tryd.prog w_ = .ok (.string (rdOf ByteArray.empty ([t103,t104,t105,t106,t107,t108,t109,t110,t111] : List ByteArray) a0_4)) w_:=run_ix50 ([t103,t104,t105,t106,t107,t108,t109,t110,t111] : List ByteArray) rfl a0_4 p6 q6
  refine hK.out _ _ ⟨(bC BK102.out 0).trans rfl,(bC BK102.out 1).trans rfl,(bC BK102.out 2).trans rfl,(bC BK102.out 3).trans rfl,(bC BK102.out 4).trans rfl,(bC BK102.out 5).trans rfl⟩ (fun hHeld=>?_)
  clear hK K
  refine norm_ (a':=?_) ?_ ?_
  rotate_left
  ·show Act.put _ (some 13) _ = _
   simp only [Act.put,sT,sZ,sS,iW,iV]
   rfl
  refine take_ (i:=12) (N:=some 16) (v:=?_) (a':=?_) #[J,J,J,J,J,J,J,J,J,J,J,J,J,O,O,O] rfl rfl (take_ofW HT_.out HW_.out (by kernel_rfl)) (fun _ _ _ h=>h) (Or.inl ⟨by rfl,?_⟩) hHeld ?_ ?_
  rotate_left
  ·rintro w' ⟨s0,s1,s2,s3,s4,s5⟩
   go_simp
   with_reducible rfl
  rotate_left
  ·simp only [Act.put,sT,sZ,sS,iW,iV]
   rfl
  refine pure_ (i:=13) (N:=some 17) (v:=?_) (a':=?_) #[J,J,J,J,J,J,J,J,J,J,J,J,J,J,O,O] rfl rfl (any_of HT_.out (by kernel_rfl)) (fun _ _ _ h=>h) (Or.inl ⟨by rfl,?_⟩) ?_ ?_
  rotate_left
  ·intro w'
   go_simp
   with_reducible rfl
  rotate_left
  ·simp only [Act.put,sT,sZ,sS,iW,iV]
   rfl
  refine pure_ (i:=14) (N:=some 18) (v:=?_) (a':=?_) #[J,J,J,J,J,J,J,J,J,J,J,J,J,J,J,O] rfl rfl (any_of HT_.out (by kernel_rfl)) (fun _ _ _ h=>h) (Or.inl ⟨by rfl,?_⟩) ?_ ?_
  rotate_left
  ·intro w'
   go_simp
   with_reducible rfl
  rotate_left
  ·simp only [Act.put,sT,sZ,sS,iW,iV]
   rfl
  refine pure_ (i:=15) (N:=some 3) (v:=?_) (a':=?_) #[J,J,J,J,J,J,J,J,J,J,J,J,J,J,J,J] rfl rfl (any_of HT_.out (by kernel_rfl)) (fun _ _ _ h=>h) (Or.inl ⟨by rfl,?_⟩) ?_ ?_
  rotate_left
  ·intro w'
   go_simp
   with_reducible rfl
  rotate_left
  ·simp only [Act.put,sT,sZ,sS,iW,iV]
   rfl
  refine done_ (done_of HT_.out (by kernel_rfl)) ?_
  obtain ⟨X43_0,X43_1,X43_2,X43_3,X43_4,X43_5,Y43_0,Y43_1,Y43_2,Y43_3,Y43_4,Y43_5⟩:=kc6 (w:=w42) (g:=gb102) BK102.out
  try go_wp2_with (first|(go_at_call 26;(with_reducible refine (script_Name.calls a0_1 true _ ?side1 A8.out).mono ?_);(case side1=>exact Glob.below HG.out (by repeat (first|(with_reducible first|exact HB.out|apply bL|apply pN|apply bE|refine bS ?_ GE102.out)|exact HB.out)));rintro e w44 ⟨rfl,hb⟩;have n0_:=Am (blk_below (g:=gb102) (by (with_reducible repeat (first|refine bN ?_ _|refine bD ?_|refine bA ?_ _));exact BK102.out) hb);have n1_:=Am (below_step (by repeat (first|(with_reducible first|exact HB.out|apply bL|apply pN|apply bE|refine bS ?_ GE102.out)|exact HB.out)) hb);clear BK102;clear HB;have BK102:=n0_;have HB:=n1_;clear n0_ n1_;obtain ⟨X45_0,X45_1,X45_2,X45_3,X45_4,X45_5,Y45_0,Y45_1,Y45_2,Y45_3,Y45_4,Y45_5⟩:=kc6 (w:=w44) (g:=gb102) BK102.out))
  go_ret
  exact ⟨by first|rfl|(simp [errW_none,errW_some] <;> rfl)|(simp [*,errW_none,errW_some] <;> rfl),by repeat (first|(with_reducible first|exact HB.out|apply bL|apply pN|apply bE|refine bS ?_ GE102.out)|exact HB.out)⟩
 rw [if_pos c12] at H
 have c12b0 : decide (0≤a0_3) = true:=decide_eq_true c12
 clear c12
 by_cases c13 : a0_3≤1073741824
 rotate_left
 ·rw [if_neg c13] at H
  have c13b0 : decide (a0_3≤1073741824) = false:=decide_eq_false c13
  clear c13
  obtain rfl:=Option.some.inj H
  go_enter Tryd.func19,Tryd.ntmps19
  try go_wp2_with (first|((with_reducible refine gD (N:=1) rfl ?_);refine box_event ?hg (N:=1) ?hd (cs:=#[.int .u32 a0_0,.string a0_1,.int .i64 a0_2,.int .i64 a0_3,.int .i64 a0_4,.int .i64 a0_5]) (t:=24) ?hr ?_;(case hd=>rfl);(case hg=>rfl);(case hr=>first|(go_simp;done)|(go_simp;rfl));intro gb102 hg w34 hbox hb;have n0_:=Am (below_step (by repeat (first|(with_reducible first|exact HB.out|apply bL|apply pN|apply bE)|exact HB.out)) hb);have n1_:=Am (hbox);have n2_:=Am ((by rw [hg];exact (bZ (by repeat (first|(with_reducible first|exact HB.out|apply bL|apply pN|apply bE)|exact HB.out))) : w.heap.size≤gb102));have n3_:=n2_;clear HB;have HB:=n0_;have BK102:=n1_;have GW102:=n2_;have GE102:=n3_;clear n0_ n1_ n2_ n3_;clear hb hbox hg))
  have n0_:=Am (bD BK102.out)
  have n1_:=Am (bE HB.out)
  clear BK102
  clear HB
  have BK102:=n0_
  have HB:=n1_
  clear n0_ n1_
  refine start_ (n:=16) (S:=fun w'=>w'.cell? ⟨gb102,0,none⟩ = some (.int .u32 a0_0)∧w'.cell? ⟨gb102,1,none⟩ = some (.string a0_1)∧w'.cell? ⟨gb102,2,none⟩ = some (.int .i64 a0_2)∧w'.cell? ⟨gb102,3,none⟩ = some (.int .i64 a0_3)∧w'.cell? ⟨gb102,4,none⟩ = some (.int .i64 a0_4)∧w'.cell? ⟨gb102,5,none⟩ = some (.int .i64 a0_5)) (ds:=[]) #[O,O,O,O,O,O,O,O,O,O,O,O,O,O,O,O] (by kernel_rfl) rfl rfl ⟨(bC BK102.out 0).trans rfl,(bC BK102.out 1).trans rfl,(bC BK102.out 2).trans rfl,(bC BK102.out 3).trans rfl,(bC BK102.out 4).trans rfl,(bC BK102.out 5).trans rfl⟩ (fun hHeld=>?_);refine with_tabW book_right.tab1 book_right.bits1 (fun HT_ HW_=>?_)
  generalize w34.drew = w35 at BK102 HB hHeld ⊢
  refine pure_ (i:=0) (N:=some 4) (v:=?_) (a':=?_) #[J,O,O,O,O,O,O,O,O,O,O,O,O,O,O,O] rfl rfl (any_of HT_.out (by kernel_rfl)) (fun _ _ _ h=>h) (Or.inl ⟨by rfl,?_⟩) ?_ ?_
  rotate_left
  ·intro w'
   go_simp
   with_reducible rfl
  rotate_left
  ·simp only [Act.put,sT,sZ,sS,iW,iV]
   rfl
  refine take_ (i:=1) (N:=some 5) (v:=?_) (a':=?_) #[J,J,O,O,O,O,O,O,O,O,O,O,O,O,O,O] rfl rfl (take_ofW HT_.out HW_.out (by kernel_rfl)) (fun _ _ _ h=>h) (Or.inl ⟨by rfl,?_⟩) hHeld ?_ ?_
  rotate_left
  ·rintro w' ⟨s0,s1,s2,s3,s4,s5⟩
   go_simp
   with_reducible rfl
  rotate_left
  ·simp only [Act.put,sT,sZ,sS,iW,iV]
   rfl
  refine pure_ (i:=2) (N:=some 6) (v:=?_) (a':=?_) #[J,J,J,O,O,O,O,O,O,O,O,O,O,O,O,O] rfl rfl (any_of HT_.out (by kernel_rfl)) (fun _ _ _ h=>h) (Or.inl ⟨by rfl,?_⟩) ?_ ?_
  rotate_left
  ·intro w'
   go_simp
   with_reducible rfl
  rotate_left
  ·simp only [Act.put,sT,sZ,sS,iW,iV]
   rfl
  refine pure_ (i:=3) (N:=some 7) (v:=?_) (a':=?_) #[J,J,J,J,O,O,O,O,O,O,O,O,O,O,O,O] rfl rfl (any_of HT_.out (by kernel_rfl)) (fun _ _ _ h=>h) (Or.inl ⟨by rfl,?_⟩) ?_ ?_
  rotate_left
  ·intro w'
   go_simp
   with_reducible rfl
  rotate_left
  ·simp only [Act.put,sT,sZ,sS,iW,iV]
   rfl
  refine pure_ (i:=4) (N:=some 8) (v:=?_) (a':=?_) #[J,J,J,J,J,O,O,O,O,O,O,O,O,O,O,O] rfl rfl (any_of HT_.out (by kernel_rfl)) (fun _ _ _ h=>h) (Or.inl ⟨by rfl,?_⟩) ?_ ?_
  rotate_left
  ·intro w'
   go_simp
   with_reducible rfl
  rotate_left
  ·simp only [Act.put,sT,sZ,sS,iW,iV]
   rfl
  refine take_ (i:=5) (N:=some 9) (v:=?_) (a':=?_) #[J,J,J,J,J,J,O,O,O,O,O,O,O,O,O,O] rfl rfl (take_ofW HT_.out HW_.out (by kernel_rfl)) (fun _ _ _ h=>h) (Or.inl ⟨by rfl,?_⟩) hHeld ?_ ?_
  rotate_left
  ·rintro w' ⟨s0,s1,s2,s3,s4,s5⟩
   go_simp
   with_reducible rfl
  rotate_left
  ·simp only [Act.put,sT,sZ,sS,iW,iV]
   rfl
  refine pure_ (i:=6) (N:=some 10) (v:=?_) (a':=?_) #[J,J,J,J,J,J,J,O,O,O,O,O,O,O,O,O] rfl rfl (any_of HT_.out (by kernel_rfl)) (fun _ _ _ h=>h) (Or.inl ⟨by rfl,?_⟩) ?_ ?_
  rotate_left
  ·intro w'
   go_simp
   with_reducible rfl
  rotate_left
  ·simp only [Act.put,sT,sZ,sS,iW,iV]
   rfl
  refine pure_ (i:=7) (N:=some 11) (v:=?_) (a':=?_) #[J,J,J,J,J,J,J,J,O,O,O,O,O,O,O,O] rfl rfl (any_of HT_.out (by kernel_rfl)) (fun _ _ _ h=>h) (Or.inl ⟨by rfl,?_⟩) ?_ ?_
  rotate_left
  ·intro w'
   go_simp
   with_reducible rfl
  rotate_left
  ·simp only [Act.put,sT,sZ,sS,iW,iV]
   rfl
  refine pure_ (i:=8) (N:=some 12) (v:=?_) (a':=?_) #[J,J,J,J,J,J,J,J,J,O,O,O,O,O,O,O] rfl rfl (any_of HT_.out (by kernel_rfl)) (fun _ _ _ h=>h) (Or.inl ⟨by rfl,?_⟩) ?_ ?_
  rotate_left
  ·intro w'
   go_simp
   with_reducible rfl
  rotate_left
  ·simp only [Act.put,sT,sZ,sS,iW,iV]
   rfl
  refine pure_ (i:=10) (N:=some 14) (v:=?_) (a':=?_) #[J,J,J,J,J,J,J,J,J,O,J,O,O,O,O,O] rfl rfl (any_of HT_.out (by kernel_rfl)) (fun _ _ _ h=>h) (Or.inl ⟨by rfl,?_⟩) ?_ ?_
  rotate_left
  ·intro w'
   go_simp
   with_reducible rfl
  rotate_left
  ·simp only [Act.put,sT,sZ,sS,iW,iV]
   rfl
  refine take_ (i:=11) (N:=some 15) (v:=?_) (a':=?_) #[J,J,J,J,J,J,J,J,J,O,J,J,O,O,O,O] rfl rfl (take_ofW HT_.out HW_.out (by kernel_rfl)) (fun _ _ _ h=>h) (Or.inl ⟨by rfl,?_⟩) hHeld ?_ ?_
  rotate_left
  ·rintro w' ⟨s0,s1,s2,s3,s4,s5⟩
   go_simp
   with_reducible rfl
  rotate_left
  ·simp only [Act.put,sT,sZ,sS,iW,iV]
   rfl
  refine one_ (i:=9) (N:=some 13) #[J,J,J,J,J,J,J,J,J,J,J,J,O,O,O,O] rfl rfl (one_of HT_.out (by kernel_rfl)) (by decide) (fun K hK=>?_)
  refine goes_ Tryd.func22 (by kernel_rfl) rfl #[] (by rfl) rfl rfl (by (try simp only [mT,mC,mN]);first|done|rfl|(simp only [lD,lT];rfl)) ?_
  with_reducible refine (book_names.calls  t103 t104 t105 t106 t107 t108 t109 t110 t111 _ A4.out).mono ?_
  rintro e w36 ⟨rfl,hb⟩
  refine ⟨_,rfl,?_⟩
  have n0_:=Am (blk_below (g:=gb102) (by (with_reducible repeat (first|refine bN ?_ _|refine bD ?_|refine bA ?_ _));exact BK102.out) hb)
  have n1_:=Am (below_step (by repeat (first|(with_reducible first|exact HB.out|apply bL|apply pN|apply bE|refine bS ?_ GE102.out)|exact HB.out)) hb)
  clear BK102
  clear HB
  have BK102:=n0_
  have HB:=n1_
  clear n0_ n1_
  have p6 : 0≤(a0_4 : Int):=of_decide_eq_true (by first|(with_reducible assumption)|assumption)
  have q6 : a0_4 < (9 : Int):=of_decide_eq_true (by first|(with_reducible assumption)|assumption)
  have hx6 : ∀ w_ : World,(Instr.index 50 (.agg #[.string t103,.string t104,.string t105,.string t106,.string t107,.string t108,.string t109,.string t110,.string t111]) (.int .i64 a0_4)).run Tryd.prog w_ = .ok (.string (rdOf ByteArray.empty ([t103,t104,t105,t106,t107,t108,t109,t110,t111] : List ByteArray) a0_4)) w_:=run_ix50 ([t103,t104,t105,t106,t107,t108,t109,t110,t111] : List ByteArray) rfl a0_4 p6 q6
  refine hK.out _ _ ⟨(bC BK102.out 0).trans rfl,(bC BK102.out 1).trans rfl,(bC BK102.out 2).trans rfl,(bC BK102.out 3).trans rfl,(bC BK102.out 4).trans rfl,(bC BK102.out 5).trans rfl⟩ (fun hHeld=>?_)
  clear hK K
  refine norm_ (a':=?_) ?_ ?_
  rotate_left
  ·show Act.put _ (some 13) _ = _
   simp only [Act.put,sT,sZ,sS,iW,iV]
   rfl
  refine take_ (i:=12) (N:=some 16) (v:=?_) (a':=?_) #[J,J,J,J,J,J,J,J,J,J,J,J,J,O,O,O] rfl rfl (take_ofW HT_.out HW_.out (by kernel_rfl)) (fun _ _ _ h=>h) (Or.inl ⟨by rfl,?_⟩) hHeld ?_ ?_
  rotate_left
  ·rintro w' ⟨s0,s1,s2,s3,s4,s5⟩
   go_simp
   with_reducible rfl
  rotate_left
  ·simp only [Act.put,sT,sZ,sS,iW,iV]
   rfl
  refine pure_ (i:=13) (N:=some 17) (v:=?_) (a':=?_) #[J,J,J,J,J,J,J,J,J,J,J,J,J,J,O,O] rfl rfl (any_of HT_.out (by kernel_rfl)) (fun _ _ _ h=>h) (Or.inl ⟨by rfl,?_⟩) ?_ ?_
  rotate_left
  ·intro w'
   go_simp
   with_reducible rfl
  rotate_left
  ·simp only [Act.put,sT,sZ,sS,iW,iV]
   rfl
  refine pure_ (i:=14) (N:=some 18) (v:=?_) (a':=?_) #[J,J,J,J,J,J,J,J,J,J,J,J,J,J,J,O] rfl rfl (any_of HT_.out (by kernel_rfl)) (fun _ _ _ h=>h) (Or.inl ⟨by rfl,?_⟩) ?_ ?_
  rotate_left
  ·intro w'
   go_simp
   with_reducible rfl
  rotate_left
  ·simp only [Act.put,sT,sZ,sS,iW,iV]
   rfl
  refine pure_ (i:=15) (N:=some 3) (v:=?_) (a':=?_) #[J,J,J,J,J,J,J,J,J,J,J,J,J,J,J,J] rfl rfl (any_of HT_.out (by kernel_rfl)) (fun _ _ _ h=>h) (Or.inl ⟨by rfl,?_⟩) ?_ ?_
  rotate_left
  ·intro w'
   go_simp
   with_reducible rfl
  rotate_left
  ·simp only [Act.put,sT,sZ,sS,iW,iV]
   rfl
  refine done_ (done_of HT_.out (by kernel_rfl)) ?_
  obtain ⟨X37_0,X37_1,X37_2,X37_3,X37_4,X37_5,Y37_0,Y37_1,Y37_2,Y37_3,Y37_4,Y37_5⟩:=kc6 (w:=w36) (g:=gb102) BK102.out
  try go_wp2_with (first|(go_at_call 26;(with_reducible refine (script_Name.calls a0_1 true _ ?side1 A8.out).mono ?_);(case side1=>exact Glob.below HG.out (by repeat (first|(with_reducible first|exact HB.out|apply bL|apply pN|apply bE|refine bS ?_ GE102.out)|exact HB.out)));rintro e w38 ⟨rfl,hb⟩;have n0_:=Am (blk_below (g:=gb102) (by (with_reducible repeat (first|refine bN ?_ _|refine bD ?_|refine bA ?_ _));exact BK102.out) hb);have n1_:=Am (below_step (by repeat (first|(with_reducible first|exact HB.out|apply bL|apply pN|apply bE|refine bS ?_ GE102.out)|exact HB.out)) hb);clear BK102;clear HB;have BK102:=n0_;have HB:=n1_;clear n0_ n1_;obtain ⟨X39_0,X39_1,X39_2,X39_3,X39_4,X39_5,Y39_0,Y39_1,Y39_2,Y39_3,Y39_4,Y39_5⟩:=kc6 (w:=w38) (g:=gb102) BK102.out))
  go_ret
  exact ⟨by first|rfl|(simp [errW_none,errW_some] <;> rfl)|(simp [*,errW_none,errW_some] <;> rfl),by repeat (first|(with_reducible first|exact HB.out|apply bL|apply pN|apply bE|refine bS ?_ GE102.out)|exact HB.out)⟩
 rw [if_pos c13] at H
 have c13b0 : decide (a0_3≤1073741824) = true:=decide_eq_true c13
 clear c13
 by_cases c14 : (rdOf ByteArray.empty ([t103,t104,t105,t106,t107,t108,t109,t110,t111] : List ByteArray) a0_4).toList = ([] : List UInt8)
 ·rw [if_pos c14] at H
  have c14b0 : ((rdOf ByteArray.empty ([t103,t104,t105,t106,t107,t108,t109,t110,t111] : List ByteArray) a0_4).toList == ([] : List UInt8)) = true:=beq_iff_eq.mpr c14
  have c14b1 : ((rdOf ByteArray.empty ([t103,t104,t105,t106,t107,t108,t109,t110,t111] : List ByteArray) a0_4).toList != ([] : List UInt8)) = false:=bne_eq_false_iff_eq.mpr c14
  clear c14
  obtain rfl:=Option.some.inj H
  go_enter Tryd.func19,Tryd.ntmps19
  try go_wp2_with (first|((with_reducible refine gD (N:=1) rfl ?_);refine box_event ?hg (N:=1) ?hd (cs:=#[.int .u32 a0_0,.string a0_1,.int .i64 a0_2,.int .i64 a0_3,.int .i64 a0_4,.int .i64 a0_5]) (t:=24) ?hr ?_;(case hd=>rfl);(case hg=>rfl);(case hr=>first|(go_simp;done)|(go_simp;rfl));intro gb102 hg w15 hbox hb;have n0_:=Am (below_step (by repeat (first|(with_reducible first|exact HB.out|apply bL|apply pN|apply bE)|exact HB.out)) hb);have n1_:=Am (hbox);have n2_:=Am ((by rw [hg];exact (bZ (by repeat (first|(with_reducible first|exact HB.out|apply bL|apply pN|apply bE)|exact HB.out))) : w.heap.size≤gb102));have n3_:=n2_;clear HB;have HB:=n0_;have BK102:=n1_;have GW102:=n2_;have GE102:=n3_;clear n0_ n1_ n2_ n3_;clear hb hbox hg))
  have n0_:=Am (bD BK102.out)
  have n1_:=Am (bE HB.out)
  clear BK102
  clear HB
  have BK102:=n0_
  have HB:=n1_
  clear n0_ n1_
  refine start_ (n:=16) (S:=fun w'=>w'.cell? ⟨gb102,0,none⟩ = some (.int .u32 a0_0)∧w'.cell? ⟨gb102,1,none⟩ = some (.string a0_1)∧w'.cell? ⟨gb102,2,none⟩ = some (.int .i64 a0_2)∧w'.cell? ⟨gb102,3,none⟩ = some (.int .i64 a0_3)∧w'.cell? ⟨gb102,4,none⟩ = some (.int .i64 a0_4)∧w'.cell? ⟨gb102,5,none⟩ = some (.int .i64 a0_5)) (ds:=[]) #[O,O,O,O,O,O,O,O,O,O,O,O,O,O,O,O] (by kernel_rfl) rfl rfl ⟨(bC BK102.out 0).trans rfl,(bC BK102.out 1).trans rfl,(bC BK102.out 2).trans rfl,(bC BK102.out 3).trans rfl,(bC BK102.out 4).trans rfl,(bC BK102.out 5).trans rfl⟩ (fun hHeld=>?_);refine with_tabW book_right.tab1 book_right.bits1 (fun HT_ HW_=>?_)
  generalize w15.drew = w16 at BK102 HB hHeld ⊢
  refine pure_ (i:=0) (N:=some 4) (v:=?_) (a':=?_) #[J,O,O,O,O,O,O,O,O,O,O,O,O,O,O,O] rfl rfl (any_of HT_.out (by kernel_rfl)) (fun _ _ _ h=>h) (Or.inl ⟨by rfl,?_⟩) ?_ ?_
  rotate_left
  ·intro w'
   go_simp
   with_reducible rfl
  rotate_left
  ·simp only [Act.put,sT,sZ,sS,iW,iV]
   rfl
  refine take_ (i:=1) (N:=some 5) (v:=?_) (a':=?_) #[J,J,O,O,O,O,O,O,O,O,O,O,O,O,O,O] rfl rfl (take_ofW HT_.out HW_.out (by kernel_rfl)) (fun _ _ _ h=>h) (Or.inl ⟨by rfl,?_⟩) hHeld ?_ ?_
  rotate_left
  ·rintro w' ⟨s0,s1,s2,s3,s4,s5⟩
   go_simp
   with_reducible rfl
  rotate_left
  ·simp only [Act.put,sT,sZ,sS,iW,iV]
   rfl
  refine pure_ (i:=2) (N:=some 6) (v:=?_) (a':=?_) #[J,J,J,O,O,O,O,O,O,O,O,O,O,O,O,O] rfl rfl (any_of HT_.out (by kernel_rfl)) (fun _ _ _ h=>h) (Or.inl ⟨by rfl,?_⟩) ?_ ?_
  rotate_left
  ·intro w'
   go_simp
   with_reducible rfl
  rotate_left
  ·simp only [Act.put,sT,sZ,sS,iW,iV]
   rfl
  refine pure_ (i:=3) (N:=some 7) (v:=?_) (a':=?_) #[J,J,J,J,O,O,O,O,O,O,O,O,O,O,O,O] rfl rfl (any_of HT_.out (by kernel_rfl)) (fun _ _ _ h=>h) (Or.inl ⟨by rfl,?_⟩) ?_ ?_
  rotate_left
  ·intro w'
   go_simp
   with_reducible rfl
  rotate_left
  ·simp only [Act.put,sT,sZ,sS,iW,iV]
   rfl
  refine pure_ (i:=4) (N:=some 8) (v:=?_) (a':=?_) #[J,J,J,J,J,O,O,O,O,O,O,O,O,O,O,O] rfl rfl (any_of HT_.out (by kernel_rfl)) (fun _ _ _ h=>h) (Or.inl ⟨by rfl,?_⟩) ?_ ?_
  rotate_left
  ·intro w'
   go_simp
   with_reducible rfl
  rotate_left
  ·simp only [Act.put,sT,sZ,sS,iW,iV]
   rfl
  refine take_ (i:=5) (N:=some 9) (v:=?_) (a':=?_) #[J,J,J,J,J,J,O,O,O,O,O,O,O,O,O,O] rfl rfl (take_ofW HT_.out HW_.out (by kernel_rfl)) (fun _ _ _ h=>h) (Or.inl ⟨by rfl,?_⟩) hHeld ?_ ?_
  rotate_left
  ·rintro w' ⟨s0,s1,s2,s3,s4,s5⟩
   go_simp
   with_reducible rfl
  rotate_left
  ·simp only [Act.put,sT,sZ,sS,iW,iV]
   rfl
  refine pure_ (i:=6) (N:=some 10) (v:=?_) (a':=?_) #[J,J,J,J,J,J,J,O,O,O,O,O,O,O,O,O] rfl rfl (any_of HT_.out (by kernel_rfl)) (fun _ _ _ h=>h) (Or.inl ⟨by rfl,?_⟩) ?_ ?_
  rotate_left
  ·intro w'
   go_simp
   with_reducible rfl
  rotate_left
  ·simp only [Act.put,sT,sZ,sS,iW,iV]
   rfl
  refine pure_ (i:=7) (N:=some 11) (v:=?_) (a':=?_) #[J,J,J,J,J,J,J,J,O,O,O,O,O,O,O,O] rfl rfl (any_of HT_.out (by kernel_rfl)) (fun _ _ _ h=>h) (Or.inl ⟨by rfl,?_⟩) ?_ ?_
  rotate_left
  ·intro w'
   go_simp
   with_reducible rfl
  rotate_left
  ·simp only [Act.put,sT,sZ,sS,iW,iV]
   rfl
  refine pure_ (i:=8) (N:=some 12) (v:=?_) (a':=?_) #[J,J,J,J,J,J,J,J,J,O,O,O,O,O,O,O] rfl rfl (any_of HT_.out (by kernel_rfl)) (fun _ _ _ h=>h) (Or.inl ⟨by rfl,?_⟩) ?_ ?_
  rotate_left
  ·intro w'
   go_simp
   with_reducible rfl
  rotate_left
  ·simp only [Act.put,sT,sZ,sS,iW,iV]
   rfl
  refine pure_ (i:=10) (N:=some 14) (v:=?_) (a':=?_) #[J,J,J,J,J,J,J,J,J,O,J,O,O,O,O,O] rfl rfl (any_of HT_.out (by kernel_rfl)) (fun _ _ _ h=>h) (Or.inl ⟨by rfl,?_⟩) ?_ ?_
  rotate_left
  ·intro w'
   go_simp
   with_reducible rfl
  rotate_left
  ·simp only [Act.put,sT,sZ,sS,iW,iV]
   rfl
  refine take_ (i:=11) (N:=some 15) (v:=?_) (a':=?_) #[J,J,J,J,J,J,J,J,J,O,J,J,O,O,O,O] rfl rfl (take_ofW HT_.out HW_.out (by kernel_rfl)) (fun _ _ _ h=>h) (Or.inl ⟨by rfl,?_⟩) hHeld ?_ ?_
  rotate_left
  ·rintro w' ⟨s0,s1,s2,s3,s4,s5⟩
   go_simp
   with_reducible rfl
  rotate_left
  ·simp only [Act.put,sT,sZ,sS,iW,iV]
   rfl
  refine one_ (i:=9) (N:=some 13) #[J,J,J,J,J,J,J,J,J,J,J,J,O,O,O,O] rfl rfl (one_of HT_.out (by kernel_rfl)) (by decide) (fun K hK=>?_)
  refine goes_ Tryd.func22 (by kernel_rfl) rfl #[] (by rfl) rfl rfl (by (try simp only [mT,mC,mN]);first|done|rfl|(simp only [lD,lT];rfl)) ?_
  with_reducible refine (book_names.calls  t103 t104 t105 t106 t107 t108 t109 t110 t111 _ A4.out).mono ?_
  rintro e w17 ⟨rfl,hb⟩
  refine ⟨_,rfl,?_⟩
  have n0_:=Am (blk_below (g:=gb102) (by (with_reducible repeat (first|refine bN ?_ _|refine bD ?_|refine bA ?_ _));exact BK102.out) hb)
  have n1_:=Am (below_step (by repeat (first|(with_reducible first|exact HB.out|apply bL|apply pN|apply bE|refine bS ?_ GE102.out)|exact HB.out)) hb)
  clear BK102
  clear HB
  have BK102:=n0_
  have HB:=n1_
  clear n0_ n1_
  have p6 : 0≤(a0_4 : Int):=of_decide_eq_true (by first|(with_reducible assumption)|assumption)
  have q6 : a0_4 < (9 : Int):=of_decide_eq_true (by first|(with_reducible assumption)|assumption)
  have hx6 : ∀ w_ : World,(Instr.index 50 (.agg #[.string t103,.string t104,.string t105,.string t106,.string t107,.string t108,.string t109,.string t110,.string t111]) (.int .i64 a0_4)).run Tryd.prog w_ = .ok (.string (rdOf ByteArray.empty ([t103,t104,t105,t106,t107,t108,t109,t110,t111] : List ByteArray) a0_4)) w_:=run_ix50 ([t103,t104,t105,t106,t107,t108,t109,t110,t111] : List ByteArray) rfl a0_4 p6 q6
  refine hK.out _ _ ⟨(bC BK102.out 0).trans rfl,(bC BK102.out 1).trans rfl,(bC BK102.out 2).trans rfl,(bC BK102.out 3).trans rfl,(bC BK102.out 4).trans rfl,(bC BK102.out 5).trans rfl⟩ (fun hHeld=>?_)
  clear hK K
  refine norm_ (a':=?_) ?_ ?_
  rotate_left
  ·show Act.put _ (some 13) _ = _
   simp only [Act.put,sT,sZ,sS,iW,iV]
   rfl
  refine take_ (i:=12) (N:=some 16) (v:=?_) (a':=?_) #[J,J,J,J,J,J,J,J,J,J,J,J,J,O,O,O] rfl rfl (take_ofW HT_.out HW_.out (by kernel_rfl)) (fun _ _ _ h=>h) (Or.inl ⟨by rfl,?_⟩) hHeld ?_ ?_
  rotate_left
  ·rintro w' ⟨s0,s1,s2,s3,s4,s5⟩
   go_simp
   with_reducible rfl
  rotate_left
  ·simp only [Act.put,sT,sZ,sS,iW,iV]
   rfl
  refine pure_ (i:=13) (N:=some 17) (v:=?_) (a':=?_) #[J,J,J,J,J,J,J,J,J,J,J,J,J,J,O,O] rfl rfl (any_of HT_.out (by kernel_rfl)) (fun _ _ _ h=>h) (Or.inl ⟨by rfl,?_⟩) ?_ ?_
  rotate_left
  ·intro w'
   go_simp
   with_reducible rfl
  rotate_left
  ·simp only [Act.put,sT,sZ,sS,iW,iV]
   rfl
  refine pure_ (i:=14) (N:=some 18) (v:=?_) (a':=?_) #[J,J,J,J,J,J,J,J,J,J,J,J,J,J,J,O] rfl rfl (any_of HT_.out (by kernel_rfl)) (fun _ _ _ h=>h) (Or.inl ⟨by rfl,?_⟩) ?_ ?_
  rotate_left
  ·intro w'
   go_simp
   with_reducible rfl
  rotate_left
  ·simp only [Act.put,sT,sZ,sS,iW,iV]
   rfl
  refine pure_ (i:=15) (N:=some 3) (v:=?_) (a':=?_) #[J,J,J,J,J,J,J,J,J,J,J,J,J,J,J,J] rfl rfl (any_of HT_.out (by kernel_rfl)) (fun _ _ _ h=>h) (Or.inl ⟨by rfl,?_⟩) ?_ ?_
  rotate_left
  ·intro w'
   go_simp
   with_reducible rfl
  rotate_left
  ·simp only [Act.put,sT,sZ,sS,iW,iV]
   rfl
  refine done_ (done_of HT_.out (by kernel_rfl)) ?_
  obtain ⟨X18_0,X18_1,X18_2,X18_3,X18_4,X18_5,Y18_0,Y18_1,Y18_2,Y18_3,Y18_4,Y18_5⟩:=kc6 (w:=w17) (g:=gb102) BK102.out
  try go_wp2_with (first|(go_at_call 26;(with_reducible refine (script_Name.calls a0_1 true _ ?side1 A8.out).mono ?_);(case side1=>exact Glob.below HG.out (by repeat (first|(with_reducible first|exact HB.out|apply bL|apply pN|apply bE|refine bS ?_ GE102.out)|exact HB.out)));rintro e w19 ⟨rfl,hb⟩;have n0_:=Am (blk_below (g:=gb102) (by (with_reducible repeat (first|refine bN ?_ _|refine bD ?_|refine bA ?_ _));exact BK102.out) hb);have n1_:=Am (below_step (by repeat (first|(with_reducible first|exact HB.out|apply bL|apply pN|apply bE|refine bS ?_ GE102.out)|exact HB.out)) hb);clear BK102;clear HB;have BK102:=n0_;have HB:=n1_;clear n0_ n1_;obtain ⟨X20_0,X20_1,X20_2,X20_3,X20_4,X20_5,Y20_0,Y20_1,Y20_2,Y20_3,Y20_4,Y20_5⟩:=kc6 (w:=w19) (g:=gb102) BK102.out))
  go_ret
  exact ⟨by first|rfl|(simp [errW_none,errW_some] <;> rfl)|(simp [*,errW_none,errW_some] <;> rfl),by repeat (first|(with_reducible first|exact HB.out|apply bL|apply pN|apply bE|refine bS ?_ GE102.out)|exact HB.out)⟩
 rw [if_neg c14] at H
 have c14b0 : ((rdOf ByteArray.empty ([t103,t104,t105,t106,t107,t108,t109,t110,t111] : List ByteArray) a0_4).toList == ([] : List UInt8)) = false:=beq_eq_false_iff_ne.mpr c14
 have c14b1 : ((rdOf ByteArray.empty ([t103,t104,t105,t106,t107,t108,t109,t110,t111] : List ByteArray) a0_4).toList != ([] : List UInt8)) = true:=bne_iff_ne.mpr c14
 by_cases c21 : a0_5 ≥ 0
 ·rw [if_pos c21] at H
  have c21b0 : decide (0≤a0_5) = true:=decide_eq_true c21
  clear c21
  obtain rfl:=Option.some.inj H
  go_enter Tryd.func19,Tryd.ntmps19
  try go_wp2_with (first|((with_reducible refine gD (N:=1) rfl ?_);refine box_event ?hg (N:=1) ?hd (cs:=#[.int .u32 a0_0,.string a0_1,.int .i64 a0_2,.int .i64 a0_3,.int .i64 a0_4,.int .i64 a0_5]) (t:=24) ?hr ?_;(case hd=>rfl);(case hg=>rfl);(case hr=>first|(go_simp;done)|(go_simp;rfl));intro gb102 hg w22 hbox hb;have n0_:=Am (below_step (by repeat (first|(with_reducible first|exact HB.out|apply bL|apply pN|apply bE)|exact HB.out)) hb);have n1_:=Am (hbox);have n2_:=Am ((by rw [hg];exact (bZ (by repeat (first|(with_reducible first|exact HB.out|apply bL|apply pN|apply bE)|exact HB.out))) : w.heap.size≤gb102));have n3_:=n2_;clear HB;have HB:=n0_;have BK102:=n1_;have GW102:=n2_;have GE102:=n3_;clear n0_ n1_ n2_ n3_;clear hb hbox hg))
  have n0_:=Am (bD BK102.out)
  have n1_:=Am (bE HB.out)
  clear BK102
  clear HB
  have BK102:=n0_
  have HB:=n1_
  clear n0_ n1_
  refine start_ (n:=16) (S:=fun w'=>w'.cell? ⟨gb102,0,none⟩ = some (.int .u32 a0_0)∧w'.cell? ⟨gb102,1,none⟩ = some (.string a0_1)∧w'.cell? ⟨gb102,2,none⟩ = some (.int .i64 a0_2)∧w'.cell? ⟨gb102,3,none⟩ = some (.int .i64 a0_3)∧w'.cell? ⟨gb102,4,none⟩ = some (.int .i64 a0_4)∧w'.cell? ⟨gb102,5,none⟩ = some (.int .i64 a0_5)) (ds:=[]) #[O,O,O,O,O,O,O,O,O,O,O,O,O,O,O,O] (by kernel_rfl) rfl rfl ⟨(bC BK102.out 0).trans rfl,(bC BK102.out 1).trans rfl,(bC BK102.out 2).trans rfl,(bC BK102.out 3).trans rfl,(bC BK102.out 4).trans rfl,(bC BK102.out 5).trans rfl⟩ (fun hHeld=>?_);refine with_tabW book_right.tab1 book_right.bits1 (fun HT_ HW_=>?_)
  generalize w22.drew = w23 at BK102 HB hHeld ⊢
  refine pure_ (i:=0) (N:=some 4) (v:=?_) (a':=?_) #[J,O,O,O,O,O,O,O,O,O,O,O,O,O,O,O] rfl rfl (any_of HT_.out (by kernel_rfl)) (fun _ _ _ h=>h) (Or.inl ⟨by rfl,?_⟩) ?_ ?_
  rotate_left
  ·intro w'
   go_simp
   with_reducible rfl
  rotate_left
  ·simp only [Act.put,sT,sZ,sS,iW,iV]
   rfl
  refine take_ (i:=1) (N:=some 5) (v:=?_) (a':=?_) #[J,J,O,O,O,O,O,O,O,O,O,O,O,O,O,O] rfl rfl (take_ofW HT_.out HW_.out (by kernel_rfl)) (fun _ _ _ h=>h) (Or.inl ⟨by rfl,?_⟩) hHeld ?_ ?_
  rotate_left
  ·rintro w' ⟨s0,s1,s2,s3,s4,s5⟩
   go_simp
   with_reducible rfl
  rotate_left
  ·simp only [Act.put,sT,sZ,sS,iW,iV]
   rfl
  refine pure_ (i:=2) (N:=some 6) (v:=?_) (a':=?_) #[J,J,J,O,O,O,O,O,O,O,O,O,O,O,O,O] rfl rfl (any_of HT_.out (by kernel_rfl)) (fun _ _ _ h=>h) (Or.inl ⟨by rfl,?_⟩) ?_ ?_
  rotate_left
  ·intro w'
   go_simp
   with_reducible rfl
  rotate_left
  ·simp only [Act.put,sT,sZ,sS,iW,iV]
   rfl
  refine pure_ (i:=3) (N:=some 7) (v:=?_) (a':=?_) #[J,J,J,J,O,O,O,O,O,O,O,O,O,O,O,O] rfl rfl (any_of HT_.out (by kernel_rfl)) (fun _ _ _ h=>h) (Or.inl ⟨by rfl,?_⟩) ?_ ?_
  rotate_left
  ·intro w'
   go_simp
   with_reducible rfl
  rotate_left
  ·simp only [Act.put,sT,sZ,sS,iW,iV]
   rfl
  refine pure_ (i:=4) (N:=some 8) (v:=?_) (a':=?_) #[J,J,J,J,J,O,O,O,O,O,O,O,O,O,O,O] rfl rfl (any_of HT_.out (by kernel_rfl)) (fun _ _ _ h=>h) (Or.inl ⟨by rfl,?_⟩) ?_ ?_
  rotate_left
  ·intro w'
   go_simp
   with_reducible rfl
  rotate_left
  ·simp only [Act.put,sT,sZ,sS,iW,iV]
   rfl
  refine take_ (i:=5) (N:=some 9) (v:=?_) (a':=?_) #[J,J,J,J,J,J,O,O,O,O,O,O,O,O,O,O] rfl rfl (take_ofW HT_.out HW_.out (by kernel_rfl)) (fun _ _ _ h=>h) (Or.inl ⟨by rfl,?_⟩) hHeld ?_ ?_
  rotate_left
  ·rintro w' ⟨s0,s1,s2,s3,s4,s5⟩
   go_simp
   with_reducible rfl
  rotate_left
  ·simp only [Act.put,sT,sZ,sS,iW,iV]
   rfl
  refine pure_ (i:=6) (N:=some 10) (v:=?_) (a':=?_) #[J,J,J,J,J,J,J,O,O,O,O,O,O,O,O,O] rfl rfl (any_of HT_.out (by kernel_rfl)) (fun _ _ _ h=>h) (Or.inl ⟨by rfl,?_⟩) ?_ ?_
  rotate_left
  ·intro w'
   go_simp
   with_reducible rfl
  rotate_left
  ·simp only [Act.put,sT,sZ,sS,iW,iV]
   rfl
  refine pure_ (i:=7) (N:=some 11) (v:=?_) (a':=?_) #[J,J,J,J,J,J,J,J,O,O,O,O,O,O,O,O] rfl rfl (any_of HT_.out (by kernel_rfl)) (fun _ _ _ h=>h) (Or.inl ⟨by rfl,?_⟩) ?_ ?_
  rotate_left
  ·intro w'
   go_simp
   with_reducible rfl
  rotate_left
  ·simp only [Act.put,sT,sZ,sS,iW,iV]
   rfl
  refine pure_ (i:=8) (N:=some 12) (v:=?_) (a':=?_) #[J,J,J,J,J,J,J,J,J,O,O,O,O,O,O,O] rfl rfl (any_of HT_.out (by kernel_rfl)) (fun _ _ _ h=>h) (Or.inl ⟨by rfl,?_⟩) ?_ ?_
  rotate_left
  ·intro w'
   go_simp
   with_reducible rfl
  rotate_left
  ·simp only [Act.put,sT,sZ,sS,iW,iV]
   rfl
  refine pure_ (i:=10) (N:=some 14) (v:=?_) (a':=?_) #[J,J,J,J,J,J,J,J,J,O,J,O,O,O,O,O] rfl rfl (any_of HT_.out (by kernel_rfl)) (fun _ _ _ h=>h) (Or.inl ⟨by rfl,?_⟩) ?_ ?_
  rotate_left
  ·intro w'
   go_simp
   with_reducible rfl
  rotate_left
  ·simp only [Act.put,sT,sZ,sS,iW,iV]
   rfl
  refine take_ (i:=11) (N:=some 15) (v:=?_) (a':=?_) #[J,J,J,J,J,J,J,J,J,O,J,J,O,O,O,O] rfl rfl (take_ofW HT_.out HW_.out (by kernel_rfl)) (fun _ _ _ h=>h) (Or.inl ⟨by rfl,?_⟩) hHeld ?_ ?_
  rotate_left
  ·rintro w' ⟨s0,s1,s2,s3,s4,s5⟩
   go_simp
   with_reducible rfl
  rotate_left
  ·simp only [Act.put,sT,sZ,sS,iW,iV]
   rfl
  refine one_ (i:=9) (N:=some 13) #[J,J,J,J,J,J,J,J,J,J,J,J,O,O,O,O] rfl rfl (one_of HT_.out (by kernel_rfl)) (by decide) (fun K hK=>?_)
  refine goes_ Tryd.func22 (by kernel_rfl) rfl #[] (by rfl) rfl rfl (by (try simp only [mT,mC,mN]);first|done|rfl|(simp only [lD,lT];rfl)) ?_
  with_reducible refine (book_names.calls  t103 t104 t105 t106 t107 t108 t109 t110 t111 _ A4.out).mono ?_
  rintro e w24 ⟨rfl,hb⟩
  refine ⟨_,rfl,?_⟩
  have n0_:=Am (blk_below (g:=gb102) (by (with_reducible repeat (first|refine bN ?_ _|refine bD ?_|refine bA ?_ _));exact BK102.out) hb)
  have n1_:=Am (below_step (by repeat (first|(with_reducible first|exact HB.out|apply bL|apply pN|apply bE|refine bS ?_ GE102.out)|exact HB.out)) hb)
  clear BK102
  clear HB
  have BK102:=n0_
  have HB:=n1_
  clear n0_ n1_
  have p6 : 0≤(a0_4 : Int):=of_decide_eq_true (by first|(with_reducible assumption)|assumption)
  have q6 : a0_4 < (9 : Int):=of_decide_eq_true (by first|(with_reducible assumption)|assumption)
  have hx6 : ∀ w_ : World,(Instr.index 50 (.agg #[.string t103,.string t104,.string t105,.string t106,.string t107,.string t108,.string t109,.string t110,.string t111]) (.int .i64 a0_4)).run Tryd.prog w_ = .ok (.string (rdOf ByteArray.empty ([t103,t104,t105,t106,t107,t108,t109,t110,t111] : List ByteArray) a0_4)) w_:=run_ix50 ([t103,t104,t105,t106,t107,t108,t109,t110,t111] : List ByteArray) rfl a0_4 p6 q6
  refine hK.out _ _ ⟨(bC BK102.out 0).trans rfl,(bC BK102.out 1).trans rfl,(bC BK102.out 2).trans rfl,(bC BK102.out 3).trans rfl,(bC BK102.out 4).trans rfl,(bC BK102.out 5).trans rfl⟩ (fun hHeld=>?_)
  clear hK K
  refine norm_ (a':=?_) ?_ ?_
  rotate_left
  ·show Act.put _ (some 13) _ = _
   simp only [Act.put,sT,sZ,sS,iW,iV]
   rfl
  refine take_ (i:=12) (N:=some 16) (v:=?_) (a':=?_) #[J,J,J,J,J,J,J,J,J,J,J,J,J,O,O,O] rfl rfl (take_ofW HT_.out HW_.out (by kernel_rfl)) (fun _ _ _ h=>h) (Or.inl ⟨by rfl,?_⟩) hHeld ?_ ?_
  rotate_left
  ·rintro w' ⟨s0,s1,s2,s3,s4,s5⟩
   go_simp
   with_reducible rfl
  rotate_left
  ·simp only [Act.put,sT,sZ,sS,iW,iV]
   rfl
  refine pure_ (i:=13) (N:=some 17) (v:=?_) (a':=?_) #[J,J,J,J,J,J,J,J,J,J,J,J,J,J,O,O] rfl rfl (any_of HT_.out (by kernel_rfl)) (fun _ _ _ h=>h) (Or.inl ⟨by rfl,?_⟩) ?_ ?_
  rotate_left
  ·intro w'
   go_simp
   with_reducible rfl
  rotate_left
  ·simp only [Act.put,sT,sZ,sS,iW,iV]
   rfl
  refine pure_ (i:=14) (N:=some 18) (v:=?_) (a':=?_) #[J,J,J,J,J,J,J,J,J,J,J,J,J,J,J,O] rfl rfl (any_of HT_.out (by kernel_rfl)) (fun _ _ _ h=>h) (Or.inl ⟨by rfl,?_⟩) ?_ ?_
  rotate_left
  ·intro w'
   go_simp
   with_reducible rfl
  rotate_left
  ·simp only [Act.put,sT,sZ,sS,iW,iV]
   rfl
  refine pure_ (i:=15) (N:=some 3) (v:=?_) (a':=?_) #[J,J,J,J,J,J,J,J,J,J,J,J,J,J,J,J] rfl rfl (any_of HT_.out (by kernel_rfl)) (fun _ _ _ h=>h) (Or.inl ⟨by rfl,?_⟩) ?_ ?_
  rotate_left
  ·intro w'
   go_simp
   with_reducible rfl
  rotate_left
  ·simp only [Act.put,sT,sZ,sS,iW,iV]
   rfl
  refine done_ (done_of HT_.out (by kernel_rfl)) ?_
  obtain ⟨X25_0,X25_1,X25_2,X25_3,X25_4,X25_5,Y25_0,Y25_1,Y25_2,Y25_3,Y25_4,Y25_5⟩:=kc6 (w:=w24) (g:=gb102) BK102.out
  try go_wp2_with (first|(go_at_call 26;(with_reducible refine (script_Name.calls a0_1 true _ ?side1 A8.out).mono ?_);(case side1=>exact Glob.below HG.out (by repeat (first|(with_reducible first|exact HB.out|apply bL|apply pN|apply bE|refine bS ?_ GE102.out)|exact HB.out)));rintro e w26 ⟨rfl,hb⟩;have n0_:=Am (blk_below (g:=gb102) (by (with_reducible repeat (first|refine bN ?_ _|refine bD ?_|refine bA ?_ _));exact BK102.out) hb);have n1_:=Am (below_step (by repeat (first|(with_reducible first|exact HB.out|apply bL|apply pN|apply bE|refine bS ?_ GE102.out)|exact HB.out)) hb);clear BK102;clear HB;have BK102:=n0_;have HB:=n1_;clear n0_ n1_;obtain ⟨X27_0,X27_1,X27_2,X27_3,X27_4,X27_5,Y27_0,Y27_1,Y27_2,Y27_3,Y27_4,Y27_5⟩:=kc6 (w:=w26) (g:=gb102) BK102.out))
  go_ret
  exact ⟨by first|rfl|(simp [errW_none,errW_some] <;> rfl)|(simp [*,errW_none,errW_some] <;> rfl),by repeat (first|(with_reducible first|exact HB.out|apply bL|apply pN|apply bE|refine bS ?_ GE102.out)|exact HB.out)⟩
 rw [if_neg c21] at H
 have c21b0 : decide (0≤a0_5) = false:=decide_eq_false c21
 clear c21
 obtain rfl:=Option.some.inj H
 go_enter Tryd.func19,Tryd.ntmps19
 try go_wp2_with (first|((with_reducible refine gD (N:=1) rfl ?_);refine box_event ?hg (N:=1) ?hd (cs:=#[.int .u32 a0_0,.string a0_1,.int .i64 a0_2,.int .i64 a0_3,.int .i64 a0_4,.int .i64 a0_5]) (t:=24) ?hr ?_;(case hd=>rfl);(case hg=>rfl);(case hr=>first|(go_simp;done)|(go_simp;rfl));intro gb102 hg w28 hbox hb;have n0_:=Am (below_step (by repeat (first|(with_reducible first|exact HB.out|apply bL|apply pN|apply bE)|exact HB.out)) hb);have n1_:=Am (hbox);have n2_:=Am ((by rw [hg];exact (bZ (by repeat (first|(with_reducible first|exact HB.out|apply bL|apply pN|apply bE)|exact HB.out))) : w.heap.size≤gb102));have n3_:=n2_;clear HB;have HB:=n0_;have BK102:=n1_;have GW102:=n2_;have GE102:=n3_;clear n0_ n1_ n2_ n3_;clear hb hbox hg))
 have n0_:=Am (bD BK102.out)
 have n1_:=Am (bE HB.out)
 clear BK102
 clear HB
 have BK102:=n0_
 have HB:=n1_
 clear n0_ n1_
 refine start_ (n:=16) (S:=fun w'=>w'.cell? ⟨gb102,0,none⟩ = some (.int .u32 a0_0)∧w'.cell? ⟨gb102,1,none⟩ = some (.string a0_1)∧w'.cell? ⟨gb102,2,none⟩ = some (.int .i64 a0_2)∧w'.cell? ⟨gb102,3,none⟩ = some (.int .i64 a0_3)∧w'.cell? ⟨gb102,4,none⟩ = some (.int .i64 a0_4)∧w'.cell? ⟨gb102,5,none⟩ = some (.int .i64 a0_5)) (ds:=[]) #[O,O,O,O,O,O,O,O,O,O,O,O,O,O,O,O] (by kernel_rfl) rfl rfl ⟨(bC BK102.out 0).trans rfl,(bC BK102.out 1).trans rfl,(bC BK102.out 2).trans rfl,(bC BK102.out 3).trans rfl,(bC BK102.out 4).trans rfl,(bC BK102.out 5).trans rfl⟩ (fun hHeld=>?_);refine with_tabW book_right.tab1 book_right.bits1 (fun HT_ HW_=>?_)
 generalize w28.drew = w29 at BK102 HB hHeld ⊢
 refine pure_ (i:=0) (N:=some 4) (v:=?_) (a':=?_) #[J,O,O,O,O,O,O,O,O,O,O,O,O,O,O,O] rfl rfl (any_of HT_.out (by kernel_rfl)) (fun _ _ _ h=>h) (Or.inl ⟨by rfl,?_⟩) ?_ ?_
 rotate_left
 ·intro w'
  go_simp
  with_reducible rfl
 rotate_left
 ·simp only [Act.put,sT,sZ,sS,iW,iV]
  rfl
 refine take_ (i:=1) (N:=some 5) (v:=?_) (a':=?_) #[J,J,O,O,O,O,O,O,O,O,O,O,O,O,O,O] rfl rfl (take_ofW HT_.out HW_.out (by kernel_rfl)) (fun _ _ _ h=>h) (Or.inl ⟨by rfl,?_⟩) hHeld ?_ ?_
 rotate_left
 ·rintro w' ⟨s0,s1,s2,s3,s4,s5⟩
  go_simp
  with_reducible rfl
 rotate_left
 ·simp only [Act.put,sT,sZ,sS,iW,iV]
  rfl
 refine pure_ (i:=2) (N:=some 6) (v:=?_) (a':=?_) #[J,J,J,O,O,O,O,O,O,O,O,O,O,O,O,O] rfl rfl (any_of HT_.out (by kernel_rfl)) (fun _ _ _ h=>h) (Or.inl ⟨by rfl,?_⟩) ?_ ?_
 rotate_left
 ·intro w'
  go_simp
  with_reducible rfl
 rotate_left
 ·simp only [Act.put,sT,sZ,sS,iW,iV]
  rfl
 refine pure_ (i:=3) (N:=some 7) (v:=?_) (a':=?_) #[J,J,J,J,O,O,O,O,O,O,O,O,O,O,O,O] rfl rfl (any_of HT_.out (by kernel_rfl)) (fun _ _ _ h=>h) (Or.inl ⟨by rfl,?_⟩) ?_ ?_
 rotate_left
 ·intro w'
  go_simp
  with_reducible rfl
 rotate_left
 ·simp only [Act.put,sT,sZ,sS,iW,iV]
  rfl
 refine pure_ (i:=4) (N:=some 8) (v:=?_) (a':=?_) #[J,J,J,J,J,O,O,O,O,O,O,O,O,O,O,O] rfl rfl (any_of HT_.out (by kernel_rfl)) (fun _ _ _ h=>h) (Or.inl ⟨by rfl,?_⟩) ?_ ?_
 rotate_left
 ·intro w'
  go_simp
  with_reducible rfl
 rotate_left
 ·simp only [Act.put,sT,sZ,sS,iW,iV]
  rfl
 refine take_ (i:=5) (N:=some 9) (v:=?_) (a':=?_) #[J,J,J,J,J,J,O,O,O,O,O,O,O,O,O,O] rfl rfl (take_ofW HT_.out HW_.out (by kernel_rfl)) (fun _ _ _ h=>h) (Or.inl ⟨by rfl,?_⟩) hHeld ?_ ?_
 rotate_left
 ·rintro w' ⟨s0,s1,s2,s3,s4,s5⟩
  go_simp
  with_reducible rfl
 rotate_left
 ·simp only [Act.put,sT,sZ,sS,iW,iV]
  rfl
 refine pure_ (i:=6) (N:=some 10) (v:=?_) (a':=?_) #[J,J,J,J,J,J,J,O,O,O,O,O,O,O,O,O] rfl rfl (any_of HT_.out (by kernel_rfl)) (fun _ _ _ h=>h) (Or.inl ⟨by rfl,?_⟩) ?_ ?_
 rotate_left
 ·intro w'
  go_simp
  with_reducible rfl
 rotate_left
 ·simp only [Act.put,sT,sZ,sS,iW,iV]
  rfl
 refine pure_ (i:=7) (N:=some 11) (v:=?_) (a':=?_) #[J,J,J,J,J,J,J,J,O,O,O,O,O,O,O,O] rfl rfl (any_of HT_.out (by kernel_rfl)) (fun _ _ _ h=>h) (Or.inl ⟨by rfl,?_⟩) ?_ ?_
 rotate_left
 ·intro w'
  go_simp
  with_reducible rfl
 rotate_left
 ·simp only [Act.put,sT,sZ,sS,iW,iV]
  rfl
 refine pure_ (i:=8) (N:=some 12) (v:=?_) (a':=?_) #[J,J,J,J,J,J,J,J,J,O,O,O,O,O,O,O] rfl rfl (any_of HT_.out (by kernel_rfl)) (fun _ _ _ h=>h) (Or.inl ⟨by rfl,?_⟩) ?_ ?_
 rotate_left
 ·intro w'
  go_simp
  with_reducible rfl
 rotate_left
 ·simp only [Act.put,sT,sZ,sS,iW,iV]
  rfl
 refine pure_ (i:=10) (N:=some 14) (v:=?_) (a':=?_) #[J,J,J,J,J,J,J,J,J,O,J,O,O,O,O,O] rfl rfl (any_of HT_.out (by kernel_rfl)) (fun _ _ _ h=>h) (Or.inl ⟨by rfl,?_⟩) ?_ ?_
 rotate_left
 ·intro w'
  go_simp
  with_reducible rfl
 rotate_left
 ·simp only [Act.put,sT,sZ,sS,iW,iV]
  rfl
 refine take_ (i:=11) (N:=some 15) (v:=?_) (a':=?_) #[J,J,J,J,J,J,J,J,J,O,J,J,O,O,O,O] rfl rfl (take_ofW HT_.out HW_.out (by kernel_rfl)) (fun _ _ _ h=>h) (Or.inl ⟨by rfl,?_⟩) hHeld ?_ ?_
 rotate_left
 ·rintro w' ⟨s0,s1,s2,s3,s4,s5⟩
  go_simp
  with_reducible rfl
 rotate_left
 ·simp only [Act.put,sT,sZ,sS,iW,iV]
  rfl
 refine one_ (i:=9) (N:=some 13) #[J,J,J,J,J,J,J,J,J,J,J,J,O,O,O,O] rfl rfl (one_of HT_.out (by kernel_rfl)) (by decide) (fun K hK=>?_)
 refine goes_ Tryd.func22 (by kernel_rfl) rfl #[] (by rfl) rfl rfl (by (try simp only [mT,mC,mN]);first|done|rfl|(simp only [lD,lT];rfl)) ?_
 with_reducible refine (book_names.calls  t103 t104 t105 t106 t107 t108 t109 t110 t111 _ A4.out).mono ?_
 rintro e w30 ⟨rfl,hb⟩
 refine ⟨_,rfl,?_⟩
 have n0_:=Am (blk_below (g:=gb102) (by (with_reducible repeat (first|refine bN ?_ _|refine bD ?_|refine bA ?_ _));exact BK102.out) hb)
 have n1_:=Am (below_step (by repeat (first|(with_reducible first|exact HB.out|apply bL|apply pN|apply bE|refine bS ?_ GE102.out)|exact HB.out)) hb)
 clear BK102
 clear HB
 have BK102:=n0_
 have HB:=n1_
 clear n0_ n1_
 have p6 : 0≤(a0_4 : Int):=of_decide_eq_true (by first|(with_reducible assumption)|assumption)
 have q6 : a0_4 < (9 : Int):=of_decide_eq_true (by first|(with_reducible assumption)|assumption)
 have hx6 : ∀ w_ : World,(Instr.index 50 (.agg #[.string t103,.string t104,.string t105,.string t106,.string t107,.string t108,.string t109,.string t110,.string t111]) (.int .i64 a0_4)).run Tryd.prog w_ = .ok (.string (rdOf ByteArray.empty ([t103,t104,t105,t106,t107,t108,t109,t110,t111] : List ByteArray) a0_4)) w_:=run_ix50 ([t103,t104,t105,t106,t107,t108,t109,t110,t111] : List ByteArray) rfl a0_4 p6 q6
 refine hK.out _ _ ⟨(bC BK102.out 0).trans rfl,(bC BK102.out 1).trans rfl,(bC BK102.out 2).trans rfl,(bC BK102.out 3).trans rfl,(bC BK102.out 4).trans rfl,(bC BK102.out 5).trans rfl⟩ (fun hHeld=>?_)
 clear hK K
 refine norm_ (a':=?_) ?_ ?_
 rotate_left
 ·show Act.put _ (some 13) _ = _
  simp only [Act.put,sT,sZ,sS,iW,iV]
  rfl
 refine take_ (i:=12) (N:=some 16) (v:=?_) (a':=?_) #[J,J,J,J,J,J,J,J,J,J,J,J,J,O,O,O] rfl rfl (take_ofW HT_.out HW_.out (by kernel_rfl)) (fun _ _ _ h=>h) (Or.inl ⟨by rfl,?_⟩) hHeld ?_ ?_
 rotate_left
 ·rintro w' ⟨s0,s1,s2,s3,s4,s5⟩
  go_simp
  with_reducible rfl
 rotate_left
 ·simp only [Act.put,sT,sZ,sS,iW,iV]
  rfl
 refine pure_ (i:=13) (N:=some 17) (v:=?_) (a':=?_) #[J,J,J,J,J,J,J,J,J,J,J,J,J,J,O,O] rfl rfl (any_of HT_.out (by kernel_rfl)) (fun _ _ _ h=>h) (Or.inl ⟨by rfl,?_⟩) ?_ ?_
 rotate_left
 ·intro w'
  go_simp
  with_reducible rfl
 rotate_left
 ·simp only [Act.put,sT,sZ,sS,iW,iV]
  rfl
 refine pure_ (i:=14) (N:=some 18) (v:=?_) (a':=?_) #[J,J,J,J,J,J,J,J,J,J,J,J,J,J,J,O] rfl rfl (any_of HT_.out (by kernel_rfl)) (fun _ _ _ h=>h) (Or.inl ⟨by rfl,?_⟩) ?_ ?_
 rotate_left
 ·intro w'
  go_simp
  with_reducible rfl
 rotate_left
 ·simp only [Act.put,sT,sZ,sS,iW,iV]
  rfl
 refine pure_ (i:=15) (N:=some 3) (v:=?_) (a':=?_) #[J,J,J,J,J,J,J,J,J,J,J,J,J,J,J,J] rfl rfl (any_of HT_.out (by kernel_rfl)) (fun _ _ _ h=>h) (Or.inl ⟨by rfl,?_⟩) ?_ ?_
 rotate_left
 ·intro w'
  go_simp
  with_reducible rfl
 rotate_left
 ·simp only [Act.put,sT,sZ,sS,iW,iV]
  rfl
 refine done_ (done_of HT_.out (by kernel_rfl)) ?_
 obtain ⟨X31_0,X31_1,X31_2,X31_3,X31_4,X31_5,Y31_0,Y31_1,Y31_2,Y31_3,Y31_4,Y31_5⟩:=kc6 (w:=w30) (g:=gb102) BK102.out
 try go_wp2_with (first|(go_at_call 26;(with_reducible refine (script_Name.calls a0_1 true _ ?side1 A8.out).mono ?_);(case side1=>exact Glob.below HG.out (by repeat (first|(with_reducible first|exact HB.out|apply bL|apply pN|apply bE|refine bS ?_ GE102.out)|exact HB.out)));rintro e w32 ⟨rfl,hb⟩;have n0_:=Am (blk_below (g:=gb102) (by (with_reducible repeat (first|refine bN ?_ _|refine bD ?_|refine bA ?_ _));exact BK102.out) hb);have n1_:=Am (below_step (by repeat (first|(with_reducible first|exact HB.out|apply bL|apply pN|apply bE|refine bS ?_ GE102.out)|exact HB.out)) hb);clear BK102;clear HB;have BK102:=n0_;have HB:=n1_;clear n0_ n1_;obtain ⟨X33_0,X33_1,X33_2,X33_3,X33_4,X33_5,Y33_0,Y33_1,Y33_2,Y33_3,Y33_4,Y33_5⟩:=kc6 (w:=w32) (g:=gb102) BK102.out))
 go_ret
 exact ⟨by first|rfl|(simp [errW_none,errW_some] <;> rfl)|(simp [*,errW_none,errW_some] <;> rfl),by repeat (first|(with_reducible first|exact HB.out|apply bL|apply pN|apply bE|refine bS ?_ GE102.out)|exact HB.out)⟩
end Go.Proofs.YtakdneopmojjdaaDoor.P
