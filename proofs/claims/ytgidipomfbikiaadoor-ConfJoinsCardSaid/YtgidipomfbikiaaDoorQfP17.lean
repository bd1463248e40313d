/- cut to what one law reaches -/
import Derived.Test.YtgidipomfbikiaaDoorQfShort
import Derived.Test.YtgidipomfbikiaaDoorQfP0
namespace Go.Proofs.YtgidipomfbikiaaDoor.P
open Go.RowKit Go.Proofs.YtgidipomfbikiaaDoorW.PrintWords Go.Proofs.YtgidipomfbikiaaDoorW.PrintLast Go.Proofs.YtgidipomfbikiaaDoorW.PrintMore
attribute [local go_sem] max2_int min2_int max_two min_two max_three min_three max_four min_four   -- for this text's walks alone
set_option linter.unusedVariables false
set_option linter.unusedSimpArgs false
attribute [local go_sem] isSome_setCell
def gangerref06_Digits.f : Nat→Int→Option (ByteArray)
 | 0,_=>none
 | k + 1,a0=>if a0 < 10 then (some (strOfNums (([(wrap64 (48 + a0)) % 256] : List Int)))) else ((gangerref06_Digits.f k (wrap64 (Int.tdiv a0 10))).bind fun t336=>((some (([(wrap64 (48 + (Int.tmod a0 10))) % 256] : List Int) : List Int)).bind fun y337=>(if t336.size + (strOfNums y337).size≤9223372036854775807 then (some (t336 ++ (strOfNums y337))) else (none))))
def gangerref06_Digits.T3 : Bool × List (List Nat × List Nat):=(true,[([],[]),([0],[0]),([1],[1]),([],[]),([3],[3]),([4],[4]),([5],[5]),([6],[6]),([7],[7]),([2,8],[2,8]),([9,2,0,1,2,3,4,5,6,7,8,9],[9])])
def gangerref06_Digits.B3 : List Nat:=[0,1,3,0,8,24,56,120,248,511,1023]
theorem gangerref06_Digits.tab3 : rtab .any (opsOf Tryd.f19 3) = gangerref06_Digits.T3:=by kernel_rfl
theorem gangerref06_Digits.bits3 : waitsOk gangerref06_Digits.T3.2 gangerref06_Digits.B3 = true:=by kernel_rfl
set_option maxHeartbeats 8000000 in
set_option maxRecDepth 100000 in
theorem gangerref06_Digits.calls (k : Nat) : ∀ (a0 : Int) (r : ByteArray) (w : World) (h : gangerref06_Digits.f k a0 = some r),
  Calls Tryd.prog 19 #[.int .i64 a0] w fun e w'=>e = .returned (.string r)∧Below w.heap.size w w':=by
 induction k using Nat.strongRecOn with
 | _ k ih =>
 intro a0 r w h
 cases k with
 | zero=>exact absurd h (by simp [gangerref06_Digits.f])
 | succ k =>
 simp only [gangerref06_Digits.f] at h
 have HB:=Am (Below.refl w.heap.size w)
 have H : (if a0 < 10 then (some (strOfNums (([(wrap64 (48 + a0)) % 256] : List Int)))) else ((gangerref06_Digits.f k (wrap64 (Int.tdiv a0 10))).bind fun t336=>((some (([(wrap64 (48 + (Int.tmod a0 10))) % 256] : List Int) : List Int)).bind fun y337=>(if t336.size + (strOfNums y337).size≤9223372036854775807 then (some (t336 ++ (strOfNums y337))) else (none))))) = some r:=h
 clear h
 by_cases c2 : a0 < 10
 ·rw [if_pos c2] at H
  have c2b0 : decide (a0 < 10) = true:=decide_eq_true c2
  clear c2
  obtain ⟨y333,hy333⟩ : ∃ y_ : List Int,y_ = (([(wrap64 (48 + a0)) % 256] : List Int)):=⟨_,rfl⟩
  replace H : (some (strOfNums y333)) = some r:=by first|(rw [hy333];with_reducible exact H)|(have H2_:=(Option.bind_some _ _).symm.trans H;rw [hy333];with_reducible exact H2_)|(have H2_:=(Option.bind_some _ _).symm.trans H;with_reducible exact H2_)|with_reducible exact H|(rw [hy333];exact H)|exact H
  have Ny333:=Am hy333
  clear hy333
  obtain rfl:=Option.some.inj H
  go_enter Tryd.func19,Tryd.ntmps19
  go_wp2_with (first|((with_reducible refine gD (N:=8) rfl ?_);refine Kd.R_lit (Kd.int .u8) _ 5 ?hg (N:=8) ?hd (xs:=([(wrap64 (48 + a0)) % 256] : List Int)) (inner:=[.int .u8 ((wrap64 (48 + a0)) % 256)]) (ok:=fun _=>True) (okp:=fun _=>True) ?hr ?hp (fun _ hk=>hk) trivial (Below.refl _ _) (Nat.le_refl _) (by simp) ?_;(case hd=>rfl);(case hg=>rfl);(case hr=>first|(go_simp;done)|(go_simp;rfl));(case hp=>exact (Reps.one (show Kd.M (Kd.int .u8) _ _ _ ((wrap64 (48 + a0)) % 256) [.int .u8 ((wrap64 (48 + a0)) % 256)] from rfl) (Reps.none _ _)));intro v334 w3 ho4 hb hg_ hnew_;clear hg_ hnew_;(first|rw [← Ny333.out] at ho4|(simp only [Int.reduceToNat] at ho4;rw [← Ny333.out] at ho4));have n0_:=Am (Kd.R_lower ho4 (bZ (by repeat (first|(with_reducible first|exact HB.out|apply bL|apply pN|apply bE)|exact HB.out))));have n1_:=Am (below_step (by repeat (first|(with_reducible first|exact HB.out|apply bL|apply pN|apply bE)|exact HB.out)) hb);clear HB;have HO335:=n0_;have HB:=n1_;clear n0_ n1_;clear hb ho4;have hcv5:=own_string (P:=Tryd.prog) Tryd.underlying75 Tryd.underlying5 Tryd.underlying9 (Kd.own_of_R HO335.out)))
  go_ret
  exact ⟨by first|rfl|(simp [errW_none,errW_some] <;> rfl)|(simp [*,errW_none,errW_some] <;> rfl),by repeat (first|(with_reducible first|exact HB.out|apply bL|apply pN|apply bE)|exact HB.out)⟩
 rw [if_neg c2] at H
 have c2b0 : decide (a0 < 10) = false:=decide_eq_false c2
 clear c2
 replace H:=oB H
 obtain ⟨t336,A60,H⟩:=H
 try dsimp only at H
 have A6:=Am A60
 clear A60
 obtain ⟨y337,hy337⟩ : ∃ y_ : List Int,y_ = (([(wrap64 (48 + (Int.tmod a0 10))) % 256] : List Int)):=⟨_,rfl⟩
 replace H : (if t336.size + (strOfNums y337).size≤9223372036854775807 then (some (t336 ++ (strOfNums y337))) else (none)) = some r:=by first|(rw [hy337];with_reducible exact H)|(have H2_:=(Option.bind_some _ _).symm.trans H;rw [hy337];with_reducible exact H2_)|(have H2_:=(Option.bind_some _ _).symm.trans H;with_reducible exact H2_)|with_reducible exact H|(rw [hy337];exact H)|exact H
 have Ny337:=Am hy337
 clear hy337
 by_cases c7 : t336.size + (strOfNums y337).size≤9223372036854775807
 rotate_left
 ·rw [if_neg c7] at H
  exact absurd H (by simp)
 rw [if_pos c7] at H
 have c7b0:=eq_true c7
 have c7b1 : decide (t336.size + (strOfNums y337).size≤9223372036854775807) = true:=decide_eq_true c7
 try have c7b2 : (9223372036854775807 < t336.size + (strOfNums y337).size) = False:=eq_false (Nat.not_lt.2 c7)
 try (have c7b3:=c7b2;simp only [ByteArray.size_append,size_lit1,size_lit0,Nat.add_zero] at c7b3)
 try (have c7b5:=c7b2;simp only [ByteArray.size_append,size_litA,List.size_toArray,List.length_cons,List.length_nil,Nat.zero_add,Nat.reduceAdd] at c7b5)
 obtain rfl:=Option.some.inj H
 go_enter Tryd.func19,Tryd.ntmps19
 try go_wp2
 have n0_:=Am (bE HB.out)
 clear HB
 have HB:=n0_
 clear n0_
 refine start_ (n:=11) (S:=fun w'=>True) (ds:=[]) #[O,O,O,O,O,O,O,O,O,O,O] (by kernel_rfl) rfl rfl trivial (fun hHeld=>?_);refine with_tabW gangerref06_Digits.tab3 gangerref06_Digits.bits3 (fun HT_ HW_=>?_)
 generalize w.drew = w8 at HB hHeld ⊢
 refine pure_ (i:=0) (N:=some 10) (v:=?_) (a':=?_) #[J,O,O,O,O,O,O,O,O,O,O] rfl rfl (any_of HT_.out (by kernel_rfl)) (fun _ _ _ h=>h) (Or.inl ⟨by rfl,?_⟩) ?_ ?_
 rotate_left
 ·intro w'
  go_simp
  with_reducible rfl
 rotate_left
 ·simp only [Act.put,sT,sZ,sS,iW,iV]
  rfl
 refine pure_ (i:=1) (N:=some 11) (v:=?_) (a':=?_) #[J,J,O,O,O,O,O,O,O,O,O] rfl rfl (any_of HT_.out (by kernel_rfl)) (fun _ _ _ h=>h) (Or.inl ⟨by rfl,?_⟩) ?_ ?_
 rotate_left
 ·intro w'
  go_simp
  with_reducible rfl
 rotate_left
 ·simp only [Act.put,sT,sZ,sS,iW,iV]
  rfl
 refine pure_ (i:=3) (N:=some 13) (v:=?_) (a':=?_) #[J,J,O,J,O,O,O,O,O,O,O] rfl rfl (any_of HT_.out (by kernel_rfl)) (fun _ _ _ h=>h) (Or.inl ⟨by rfl,?_⟩) ?_ ?_
 rotate_left
 ·intro w'
  go_simp
  with_reducible rfl
 rotate_left
 ·simp only [Act.put,sT,sZ,sS,iW,iV]
  rfl
 refine pure_ (i:=4) (N:=some 14) (v:=?_) (a':=?_) #[J,J,O,J,J,O,O,O,O,O,O] rfl rfl (any_of HT_.out (by kernel_rfl)) (fun _ _ _ h=>h) (Or.inl ⟨by rfl,?_⟩) ?_ ?_
 rotate_left
 ·intro w'
  go_simp
  with_reducible rfl
 rotate_left
 ·simp only [Act.put,sT,sZ,sS,iW,iV]
  rfl
 refine pure_ (i:=5) (N:=some 15) (v:=?_) (a':=?_) #[J,J,O,J,J,J,O,O,O,O,O] rfl rfl (any_of HT_.out (by kernel_rfl)) (fun _ _ _ h=>h) (Or.inl ⟨by rfl,?_⟩) ?_ ?_
 rotate_left
 ·intro w'
  go_simp
  with_reducible rfl
 rotate_left
 ·simp only [Act.put,sT,sZ,sS,iW,iV]
  rfl
 refine pure_ (i:=6) (N:=some 16) (v:=?_) (a':=?_) #[J,J,O,J,J,J,J,O,O,O,O] rfl rfl (any_of HT_.out (by kernel_rfl)) (fun _ _ _ h=>h) (Or.inl ⟨by rfl,?_⟩) ?_ ?_
 rotate_left
 ·intro w'
  go_simp
  with_reducible rfl
 rotate_left
 ·simp only [Act.put,sT,sZ,sS,iW,iV]
  rfl
 refine join_ (σ:=Value) 2 #[J,J,J,J,J,J,J,J,J,O,O] (fun s_=>[(12,.string t336),(17,s_),(18,.string (strOfNums y337))]) (fun s_ w'=>(Kd.R (Kd.int .u8) 5 w' w.heap.size (fun _=>True) s_ y337)∧(Below w.heap.size w w')) ?_ ?_
 rotate_left
 ·intro hCont
  refine two_ (i:=2) (j:=7) (Ni:=some 12) (Nj:=some 17) #[J,J,J,J,J,J,J,O,O,O,O] #[J,J,O,J,J,J,J,J,O,O,O] rfl rfl rfl rfl (two_of HT_.out (by kernel_rfl)) (by decide) (by decide) (fun K hK=>?_) (fun K hK=>?_)
  ·skip
   refine goes_ Tryd.func19 (by kernel_rfl) rfl #[.int .i64 (wrap64 (Int.tdiv a0 10))] (by rfl) rfl rfl (by (try simp only [mT,mC,mN]);first|done|rfl|(simp only [lD,lT];rfl)) ?_
   with_reducible refine (ih k (by omega) (wrap64 (Int.tdiv a0 10)) t336 _ A6.out).mono ?_
   rintro e w9 ⟨rfl,hb⟩
   refine ⟨_,rfl,?_⟩
   have n0_:=Am (below_step (by repeat (first|(with_reducible first|exact HB.out|apply bL|apply pN|apply bE)|exact HB.out)) hb)
   clear HB
   have HB:=n0_
   clear n0_
   refine hK.out _ _ trivial (fun hHeld=>?_)
   clear hK K
   refine norm_ (a':=?_) ?_ ?_
   rotate_left
   ·show Act.put _ (some 12) _ = _
    simp only [Act.put,sT,sZ,sS,iW,iV]
    rfl
   refine one_ (i:=7) (N:=some 17) #[J,J,J,J,J,J,J,J,O,O,O] rfl rfl (one_of HT_.out (by kernel_rfl)) (by decide) (fun K hK=>?_)
   refine Kd.R_lit_step (Kd.int .u8) _ 5 ?hg (N:=17) ?hd (xs:=([(wrap64 (48 + (Int.tmod a0 10))) % 256] : List Int)) (inner:=[.int .u8 ((wrap64 (48 + (Int.tmod a0 10))) % 256)]) (ok:=fun _=>True) (okp:=fun _=>True) ?hr ?hp (fun _ hk=>hk) trivial (Below.refl _ _) (Nat.le_refl _) (by simp) ?_;(case hd=>rfl);(case hg=>rfl);(case hr=>first|(go_simp;done)|(go_simp;rfl));(case hp=>exact (Reps.one (show Kd.M (Kd.int .u8) _ _ _ ((wrap64 (48 + (Int.tmod a0 10))) % 256) [.int .u8 ((wrap64 (48 + (Int.tmod a0 10))) % 256)] from rfl) (Reps.none _ _)))
   intro v338 w10 ho11 hb hg_ hnew_
   clear hg_ hnew_
   (first|rw [← Ny337.out] at ho11|(simp only [Int.reduceToNat] at ho11;rw [← Ny337.out] at ho11))
   have n0_:=Am (Kd.R_lower ho11 (bZ (by repeat (first|(with_reducible first|exact HB.out|apply bL|apply pN|apply bE)|exact HB.out))))
   have n1_:=Am (below_step (by repeat (first|(with_reducible first|exact HB.out|apply bL|apply pN|apply bE)|exact HB.out)) hb)
   clear HB
   have HO339:=n0_
   have HB:=n1_
   clear n0_ n1_
   clear hb ho11
   refine hK.out _ _ trivial (fun hHeld=>?_)
   clear hK K
   refine norm_ (a':=?_) ?_ ?_
   rotate_left
   ·show Act.put _ (some 17) _ = _
    simp only [Act.put,sT,sZ,sS,iW,iV]
    rfl
   refine one_ (i:=8) (N:=some 18) #[J,J,J,J,J,J,J,J,J,O,O] rfl rfl (one_of HT_.out (by kernel_rfl)) (by decide) (fun K hK=>?_)
   have hcv12:=own_string (P:=Tryd.prog) Tryd.underlying75 Tryd.underlying5 Tryd.underlying9 (Kd.own_of_R HO339.out)
   refine value_ (w1:=?_) (v:=?_) (by rfl) rfl ?_ ?_
   rotate_left 2
   ·go_simp
    constructor
    ·rfl
    ·rfl
   clear hcv12
   refine hK.out _ _ trivial (fun hHeld=>?_)
   clear hK K
   refine norm_ (a':=?_) ?_ ?_
   rotate_left
   ·show Act.put _ (some 18) _ = _
    simp only [Act.put,sT,sZ,sS,iW,iV]
    rfl
   exact norm_ (by simp only [putAll,Act.put,sT,sZ,sS]) (hCont (v338) _ ⟨(by (with_reducible repeat (first|apply Kd.R_alloc|apply Kd.R_drewN|apply Kd.R_drew));exact HO339.out),(by repeat (first|(with_reducible first|exact HB.out|apply bL|apply pN|apply bE)|exact HB.out))⟩)
  ·skip
   refine Kd.R_lit_step (Kd.int .u8) _ 5 ?hg (N:=17) ?hd (xs:=([(wrap64 (48 + (Int.tmod a0 10))) % 256] : List Int)) (inner:=[.int .u8 ((wrap64 (48 + (Int.tmod a0 10))) % 256)]) (ok:=fun _=>True) (okp:=fun _=>True) ?hr ?hp (fun _ hk=>hk) trivial (Below.refl _ _) (Nat.le_refl _) (by simp) ?_;(case hd=>rfl);(case hg=>rfl);(case hr=>first|(go_simp;done)|(go_simp;rfl));(case hp=>exact (Reps.one (show Kd.M (Kd.int .u8) _ _ _ ((wrap64 (48 + (Int.tmod a0 10))) % 256) [.int .u8 ((wrap64 (48 + (Int.tmod a0 10))) % 256)] from rfl) (Reps.none _ _)))
   intro v338 w9 ho10 hb hg_ hnew_
   clear hg_ hnew_
   (first|rw [← Ny337.out] at ho10|(simp only [Int.reduceToNat] at ho10;rw [← Ny337.out] at ho10))
   have n0_:=Am (Kd.R_lower ho10 (bZ (by repeat (first|(with_reducible first|exact HB.out|apply bL|apply pN|apply bE)|exact HB.out))))
   have n1_:=Am (below_step (by repeat (first|(with_reducible first|exact HB.out|apply bL|apply pN|apply bE)|exact HB.out)) hb)
   clear HB
   have HO339:=n0_
   have HB:=n1_
   clear n0_ n1_
   clear hb ho10
   refine hK.out _ _ trivial (fun hHeld=>?_)
   clear hK K
   refine norm_ (a':=?_) ?_ ?_
   rotate_left
   ·show Act.put _ (some 17) _ = _
    simp only [Act.put,sT,sZ,sS,iW,iV]
    rfl
   refine two_ (i:=2) (j:=8) (Ni:=some 12) (Nj:=some 18) #[J,J,J,J,J,J,J,J,O,O,O] #[J,J,O,J,J,J,J,J,J,O,O] rfl rfl rfl rfl (two_of HT_.out (by kernel_rfl)) (by decide) (by decide) (fun K hK=>?_) (fun K hK=>?_)
   ·skip
    refine goes_ Tryd.func19 (by kernel_rfl) rfl #[.int .i64 (wrap64 (Int.tdiv a0 10))] (by rfl) rfl rfl (by (try simp only [mT,mC,mN]);first|done|rfl|(simp only [lD,lT];rfl)) ?_
    with_reducible refine (ih k (by omega) (wrap64 (Int.tdiv a0 10)) t336 _ A6.out).mono ?_
    rintro e w11 ⟨rfl,hb⟩
    refine ⟨_,rfl,?_⟩
    have n0_:=Am (Kd.R_below (by (with_reducible repeat (first|apply Kd.R_alloc|apply Kd.R_drewN|apply Kd.R_drew));exact HO339.out) hb)
    have n1_:=Am (below_step (by repeat (first|(with_reducible first|exact HB.out|apply bL|apply pN|apply bE)|exact HB.out)) hb)
    clear HO339
    clear HB
    have HO339:=n0_
    have HB:=n1_
    clear n0_ n1_
    refine hK.out _ _ trivial (fun hHeld=>?_)
    clear hK K
    refine norm_ (a':=?_) ?_ ?_
    rotate_left
    ·show Act.put _ (some 12) _ = _
     simp only [Act.put,sT,sZ,sS,iW,iV]
     rfl
    refine one_ (i:=8) (N:=some 18) #[J,J,J,J,J,J,J,J,J,O,O] rfl rfl (one_of HT_.out (by kernel_rfl)) (by decide) (fun K hK=>?_)
    have hcv12:=own_string (P:=Tryd.prog) Tryd.underlying75 Tryd.underlying5 Tryd.underlying9 (Kd.own_of_R HO339.out)
    refine value_ (w1:=?_) (v:=?_) (by rfl) rfl ?_ ?_
    rotate_left 2
    ·go_simp
     constructor
     ·rfl
     ·rfl
    clear hcv12
    refine hK.out _ _ trivial (fun hHeld=>?_)
    clear hK K
    refine norm_ (a':=?_) ?_ ?_
    rotate_left
    ·show Act.put _ (some 18) _ = _
     simp only [Act.put,sT,sZ,sS,iW,iV]
     rfl
    exact norm_ (by simp only [putAll,Act.put,sT,sZ,sS]) (hCont (v338) _ ⟨(by (with_reducible repeat (first|apply Kd.R_alloc|apply Kd.R_drewN|apply Kd.R_drew));exact HO339.out),(by repeat (first|(with_reducible first|exact HB.out|apply bL|apply pN|apply bE)|exact HB.out))⟩)
   ·skip
    have hcv11:=own_string (P:=Tryd.prog) Tryd.underlying75 Tryd.underlying5 Tryd.underlying9 (Kd.own_of_R HO339.out)
    refine value_ (w1:=?_) (v:=?_) (by rfl) rfl ?_ ?_
    rotate_left 2
    ·go_simp
     constructor
     ·rfl
     ·rfl
    clear hcv11
    refine hK.out _ _ trivial (fun hHeld=>?_)
    clear hK K
    refine norm_ (a':=?_) ?_ ?_
    rotate_left
    ·show Act.put _ (some 18) _ = _
     simp only [Act.put,sT,sZ,sS,iW,iV]
     rfl
    refine one_ (i:=2) (N:=some 12) #[J,J,J,J,J,J,J,J,J,O,O] rfl rfl (one_of HT_.out (by kernel_rfl)) (by decide) (fun K hK=>?_)
    refine goes_ Tryd.func19 (by kernel_rfl) rfl #[.int .i64 (wrap64 (Int.tdiv a0 10))] (by rfl) rfl rfl (by (try simp only [mT,mC,mN]);first|done|rfl|(simp only [lD,lT];rfl)) ?_
    with_reducible refine (ih k (by omega) (wrap64 (Int.tdiv a0 10)) t336 _ A6.out).mono ?_
    rintro e w12 ⟨rfl,hb⟩
    refine ⟨_,rfl,?_⟩
    have n0_:=Am (Kd.R_below (by (with_reducible repeat (first|apply Kd.R_alloc|apply Kd.R_drewN|apply Kd.R_drew));exact HO339.out) hb)
    have n1_:=Am (below_step (by repeat (first|(with_reducible first|exact HB.out|apply bL|apply pN|apply bE)|exact HB.out)) hb)
    clear HO339
    clear HB
    have HO339:=n0_
    have HB:=n1_
    clear n0_ n1_
    refine hK.out _ _ trivial (fun hHeld=>?_)
    clear hK K
    refine norm_ (a':=?_) ?_ ?_
    rotate_left
    ·show Act.put _ (some 12) _ = _
     simp only [Act.put,sT,sZ,sS,iW,iV]
     rfl
    exact norm_ (by simp only [putAll,Act.put,sT,sZ,sS]) (hCont (v338) _ ⟨(by (with_reducible repeat (first|apply Kd.R_alloc|apply Kd.R_drewN|apply Kd.R_drew));exact HO339.out),(by repeat (first|(with_reducible first|exact HB.out|apply bL|apply pN|apply bE)|exact HB.out))⟩)
 rintro v338 w13 ⟨h0_,h1_⟩
 have n0_ : Aside0 (Kd.R (Kd.int .u8) 5 w13 w.heap.size (fun _=>True) v338 y337):=⟨h0_⟩
 have n1_ : Aside0 (Below w.heap.size w w13):=⟨h1_⟩
 clear HB
 clear h0_ h1_
 have HO339:=n0_
 have HB:=n1_
 clear n0_ n1_
 have hHeld:=trivial
 refine norm_ (a':=?_) ?_ ?_
 rotate_left
 ·simp only [putAll,Act.put,sT,sZ,sS]
  rfl
 refine pure_ (i:=9) (N:=some 19) (v:=?_) (a':=?_) #[J,J,J,J,J,J,J,J,J,J,O] rfl rfl (any_of HT_.out (by kernel_rfl)) (fun _ _ _ h=>h) (Or.inl ⟨by rfl,?_⟩) ?_ ?_
 rotate_left
 ·intro w'
  go_simp
  with_reducible rfl
 rotate_left
 ·simp only [Act.put,sT,sZ,sS,iW,iV]
  rfl
 refine pure_ (i:=10) (N:=some 2) (v:=?_) (a':=?_) #[J,J,J,J,J,J,J,J,J,J,J] rfl rfl (any_of HT_.out (by kernel_rfl)) (fun _ _ _ h=>h) (Or.inl ⟨by rfl,?_⟩) ?_ ?_
 rotate_left
 ·intro w'
  go_simp
  with_reducible rfl
 rotate_left
 ·simp only [Act.put,sT,sZ,sS,iW,iV]
  rfl
 refine done_ (done_of HT_.out (by kernel_rfl)) ?_
 try go_wp2
 go_ret
 exact ⟨by first|rfl|(simp [errW_none,errW_some] <;> rfl)|(simp [*,errW_none,errW_some] <;> rfl),by repeat (first|(with_reducible first|exact HB.out|apply bL|apply pN|apply bE)|exact HB.out)⟩
end Go.Proofs.YtgidipomfbikiaaDoor.P
