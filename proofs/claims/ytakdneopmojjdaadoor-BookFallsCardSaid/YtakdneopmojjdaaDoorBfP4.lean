/- cut to what one law reaches -/
import Derived.Test.YtakdneopmojjdaaDoorBfShort
import Derived.Test.YtakdneopmojjdaaDoorBfP0
import Derived.Test.YtakdneopmojjdaaDoorBfP2
import Derived.Test.YtakdneopmojjdaaDoorBfP3
namespace Go.Proofs.YtakdneopmojjdaaDoor.P
open Go.RowKit Go.Proofs.YtakdneopmojjdaaDoorW.PrintWords Go.Proofs.YtakdneopmojjdaaDoorW.PrintLast Go.Proofs.YtakdneopmojjdaaDoorW.PrintMore
attribute [local go_sem] max2_int min2_int max_two min_two max_three min_three max_four min_four   -- for this text's walks alone
set_option linter.unusedVariables false
set_option linter.unusedSimpArgs false
attribute [local go_sem] isSome_setCell
-- NOT PRINTED: function 62 (strconv_small)
-- NOT PRINTED: function 77 (strconv_log10Pow2)
def bits_Len64.f (a0 : Int) : Option (Int):=if 0≤a0 then (if a0≤18446744073709551615 then some ((Lib.bitLen a0.toNat : Nat) : Int) else none) else none
theorem bits_Len64.calls (a0 : Int) (r : Int) (w : World) (h : bits_Len64.f a0 = some r) :
  Calls Tryd.prog 78 #[.int .u64 a0] w fun e w'=>e = .returned (.int .i64 r)∧Drawn0 w w':=by
 unfold bits_Len64.f at h
 by_cases h0 : 0≤a0
 rotate_left
 ·rw [if_neg h0] at h;cases h
 rw [if_pos h0] at h
 by_cases h1 : a0≤18446744073709551615
 rotate_left
 ·rw [if_neg h1] at h;cases h
 rw [if_pos h1] at h
 injection h with h
 subst h
 refine (Tryd.bits_Len64 a0 w h0 h1).mono ?_
 rintro e w' ⟨rfl,rfl⟩
 exact ⟨rfl,Drawn0.refl _⟩
-- NOT PRINTED: function 79 (strconv_bool2_int)
-- NOT PRINTED: function 63 (strconv_numDigits)
-- NOT PRINTED: function 64 (strconv_formatBase10)
-- NOT PRINTED: function 80 (strconv_isPowerOfTwo)
-- NOT PRINTED: function 85 (bits_TrailingZeros32)
-- NOT PRINTED: function 86 (bits_TrailingZeros64)
-- NOT PRINTED: function 81 (bits_TrailingZeros)
-- NOT PRINTED: function 65 (strconv_formatBits)
-- NOT PRINTED: function 51 (strconv_FormatInt)
-- NOT PRINTED: function 34 (strconv_Itoa_34)
def strconv_Itoa_20.f (a0 : Int) : Option (ByteArray):=if -9223372036854775808≤a0 then (if a0≤9223372036854775807 then some (⟨(Lib.itoa a0).toArray⟩ : ByteArray) else none) else none
theorem strconv_Itoa_20.calls (a0 : Int) (r : ByteArray) (w : World) (hG : Glob w) (h : strconv_Itoa_20.f a0 = some r) :
  Calls Tryd.prog 20 #[.int .i64 a0] w fun e w'=>e = .returned (.string r)∧Below w.heap.size w w':=by
 unfold strconv_Itoa_20.f at h
 split at h
 ·split at h
  ·obtain rfl:=Option.some.inj h
   refine (Tryd.strconv_Itoa a0 (by assumption) (by assumption) w hG.tab).mono ?_
   rintro e w' ⟨rfl,k,os,rfl⟩
   exact ⟨rfl,Lib.below_grow _ w (Nat.le_refl _) k os⟩
  ·cases h
 ·cases h
-- NOT PRINTED: function 66 (abi_NoEscape)
-- NOT PRINTED: function 52 (strings_Builder_copyCheck)
-- NOT PRINTED: function 67 (bytealg_MakeNoZero)
-- NOT PRINTED: function 53 (strings_Builder_grow)
-- NOT PRINTED: function 35 (strings_Builder_Grow)
-- NOT PRINTED: function 36 (strings_Builder_WriteString)
-- NOT PRINTED: function 37 (strings_Builder_String)
def strings_Join.f (l0 : List ByteArray) (a1 : ByteArray) : Option ByteArray:=if l0.length≤140737488355328 then (if (Lib.join (l0.map (·.data.toList)) a1.data.toList).length≤140737488355328 then some (⟨(Lib.join (l0.map (·.data.toList)) a1.data.toList).toArray⟩ : ByteArray) else none) else none
theorem strings_Join.calls (P0_ : Nat→Prop) (u9000_ : Value) (l0 : List ByteArray) (a1 : ByteArray) (r : ByteArray) (w0 w : World) (hB : Below w0.heap.size w0 w) (ho0 : Kd.R Kd.string 9 w w0.heap.size P0_ u9000_ l0) (h : strings_Join.f l0 a1 = some r) :
  Calls Tryd.prog 21 #[u9000_,.string a1] w fun e w'=>e = .returned (.string r)∧Below w0.heap.size w0 w'∧Kept w w' (fun k_=>P0_ k_):=by
 unfold strings_Join.f at h
 split at h
 case isFalse=>cases h
 rename_i h1
 split at h
 case isFalse=>cases h
 rename_i h2
 obtain rfl:=Option.some.inj h
 have ho : w.ownsRow w0.heap.size 9 1 u9000_ l0.length (encs Value.string l0):=Kd.own_of_R ho0
 obtain ⟨hl,⟨rfl,hn⟩|⟨g,cap,cur,rfl,hbg,hg,hnc,hcm,hsz,hcs⟩⟩:=ho
 ·have e:=List.length_eq_zero_iff.1 hn
  subst e
  refine (Tryd.strings_Join_none none 0 a1 w).mono ?_
  rintro e w' ⟨rfl,rfl⟩
  exact ⟨rfl,hB,Kept.refl _ _⟩
 ·have hgw : g < w.heap.size:=(Array.getElem?_eq_some_iff.1 hg).1
  refine (Tryd.strings_Join g 0 cap l0 a1 w (fun j x hj=>?_) hgw h1 hnc h2).mono ?_
  ·have hjl:=(List.getElem?_eq_some_iff.1 hj).1
   have e : w.cell? ⟨g,0 + j,none⟩ = cur.toList[j]?:=by simp [World.cell?,hg]
   rw [e]
   have e2 : (cur.toList.take (l0.length * 1))[j]? = (encs Value.string l0)[j]?:=by rw [hcs]
   rw [List.getElem?_take,if_pos (by omega)] at e2
   rw [e2]
   simp [encs,hj]
  ·rintro e w' ⟨rfl,hb⟩
   exact ⟨rfl,below_step hB hb,Kept.of_below hb _⟩
def book_Line.f (a0_0 : Int) (a0_1 : ByteArray) (a0_2 : Int) (a0_3 : Int) (a0_4 : Int) (a0_5 : Int) : Option (ByteArray × Int):=(book_right.f a0_0 a0_1 a0_2 a0_3 a0_4 a0_5).bind fun t116=>(if t116 = true then ((strconv_Itoa_20.f a0_2).bind fun t117=>(if t117.size + 1≤9223372036854775807 then ((strconv_Itoa_20.f a0_3).bind fun t118=>(if (t117 ++ (⟨#[120]⟩ : ByteArray)).size + t118.size≤9223372036854775807 then ((strconv_Itoa_20.f (wrap64 (a0_0))).bind fun t119=>((book_names.f).bind fun bt120=>(if 0≤a0_4 then (if a0_4 < 9 then ((strconv_Itoa_20.f a0_5).bind fun t129=>((strings_Join.f (([t119,a0_1,(t117 ++ (⟨#[120]⟩ : ByteArray)) ++ t118,rdOf ByteArray.empty ([bt120.1,bt120.2.1,bt120.2.2.1,bt120.2.2.2.1,bt120.2.2.2.2.1,bt120.2.2.2.2.2.1,bt120.2.2.2.2.2.2.1,bt120.2.2.2.2.2.2.2.1,bt120.2.2.2.2.2.2.2.2] : List ByteArray) a0_4,t129] : List ByteArray)) (⟨#[32]⟩ : ByteArray)).bind fun t133=>(some (t133,0)))) else (none)) else (none)))) else (none))) else (none))) else (some ((⟨#[]⟩ : ByteArray),200)))
def book_Line.T3 : Bool × List (List Nat × List Nat):=(true,[([],[]),([0],[0]),([1],[1]),([2],[2]),([],[]),([4],[4]),([5,2],[5]),([3,6],[3,6]),([7,6,0,1,2,3,4,5,6,7],[7])])
def book_Line.B3 : List Nat:=[0,1,3,7,0,16,55,127,255]
theorem book_Line.tab3 : rtab .any (opsOf Tryd.f9 3) = book_Line.T3:=by kernel_rfl
theorem book_Line.bits3 : waitsOk book_Line.T3.2 book_Line.B3 = true:=by kernel_rfl
def book_Line.T4 : Bool × List (List Nat × List Nat):=(true,[([],[]),([0],[0]),([1],[1]),([2],[2]),([],[]),([4],[4]),([],[]),([3],[]),([],[]),([8],[8]),([7,9],[7,9]),([],[]),([11],[11]),([12,7],[12]),([3,5,6,10,13],[3,5,6,10,13]),([14,13],[14]),([15,15,0,1,2,3,4,5,6,7,8,9,10,11,12,13,14,15],[15]),([16,0,1,2,3,4,5,6,7,8,9,10,11,12,13,14,15,16],[])])
def book_Line.B4 : List Nat:=[0,1,3,7,0,16,0,15,0,256,911,0,2048,6287,16383,32767,65535,131071]
theorem book_Line.tab4 : rtab .any (opsOf Tryd.f9 4) = book_Line.T4:=by kernel_rfl
theorem book_Line.bits4 : waitsOk book_Line.T4.2 book_Line.B4 = true:=by kernel_rfl
set_option maxHeartbeats 8000000 in
set_option maxRecDepth 100000 in
theorem book_Line.calls (a0_0 : Int) (a0_1 : ByteArray) (a0_2 : Int) (a0_3 : Int) (a0_4 : Int) (a0_5 : Int) (r1 : ByteArray) (r2 : Int) (w : World) (hG : Glob w) (h : book_Line.f a0_0 a0_1 a0_2 a0_3 a0_4 a0_5 = some (r1,r2)) :
  Calls Tryd.prog 9 #[.agg #[.int .u32 a0_0,.string a0_1,.int .i64 a0_2,.int .i64 a0_3,.int .i64 a0_4,.int .i64 a0_5]] w fun e w'=>e = .returned (.tuple #[.string r1,.int .i64 r2])∧Below w.heap.size w w':=by
 have hu24:=Tryd.underlying24
 have HG:=Am hG
 clear hG
 have HB:=Am (Below.refl w.heap.size w)
 have H : ((book_right.f a0_0 a0_1 a0_2 a0_3 a0_4 a0_5).bind fun t116=>(if t116 = true then ((strconv_Itoa_20.f a0_2).bind fun t117=>(if t117.size + 1≤9223372036854775807 then ((strconv_Itoa_20.f a0_3).bind fun t118=>(if (t117 ++ (⟨#[120]⟩ : ByteArray)).size + t118.size≤9223372036854775807 then ((strconv_Itoa_20.f (wrap64 (a0_0))).bind fun t119=>((book_names.f).bind fun bt120=>(if 0≤a0_4 then (if a0_4 < 9 then ((strconv_Itoa_20.f a0_5).bind fun t129=>((strings_Join.f (([t119,a0_1,(t117 ++ (⟨#[120]⟩ : ByteArray)) ++ t118,rdOf ByteArray.empty ([bt120.1,bt120.2.1,bt120.2.2.1,bt120.2.2.2.1,bt120.2.2.2.2.1,bt120.2.2.2.2.2.1,bt120.2.2.2.2.2.2.1,bt120.2.2.2.2.2.2.2.1,bt120.2.2.2.2.2.2.2.2] : List ByteArray) a0_4,t129] : List ByteArray)) (⟨#[32]⟩ : ByteArray)).bind fun t133=>(some (t133,0)))) else (none)) else (none)))) else (none))) else (none))) else (some ((⟨#[]⟩ : ByteArray),200)))) = some (r1,r2):=h
 clear h
 replace H:=oB H
 obtain ⟨t116,A20,H⟩:=H
 try dsimp only at H
 have A2:=Am A20
 clear A20
 by_cases c3 : t116 = true
 rotate_left
 ·replace c3:=Bool.eq_false_iff.mpr c3
  subst c3
  have H1 : (some ((⟨#[]⟩ : ByteArray),200)) = some (r1,r2):=by rw [if_neg (show ¬ (false = true) by decide)] at H;exact H
  clear H
  have H:=H1
  clear H1
  simp only [Option.some.injEq,Prod.mk.injEq] at H
  obtain ⟨rfl,rfl⟩:=H
  go_enter Tryd.func9,Tryd.ntmps9
  go_wp2_with (first|((with_reducible refine gD (N:=1) rfl ?_);refine box_event ?hg (N:=1) ?hd (cs:=#[.int .u32 a0_0,.string a0_1,.int .i64 a0_2,.int .i64 a0_3,.int .i64 a0_4,.int .i64 a0_5]) (t:=24) ?hr ?_;(case hd=>rfl);(case hg=>rfl);(case hr=>first|(go_simp;done)|(go_simp;rfl));intro gb115 hg w29 hbox hb;have n0_:=Am (below_step (by repeat (first|(with_reducible first|exact HB.out|apply bL|apply pN|apply bE)|exact HB.out)) hb);have n1_:=Am (hbox);have n2_:=Am ((by rw [hg];exact (bZ (by repeat (first|(with_reducible first|exact HB.out|apply bL|apply pN|apply bE)|exact HB.out))) : w.heap.size≤gb115));have n3_:=n2_;clear HB;have HB:=n0_;have BK115:=n1_;have GW115:=n2_;have GE115:=n3_;clear n0_ n1_ n2_ n3_;clear hb hbox hg;obtain ⟨X30_0,X30_1,X30_2,X30_3,X30_4,X30_5,Y30_0,Y30_1,Y30_2,Y30_3,Y30_4,Y30_5⟩:=kc6 (w:=w29) (g:=gb115) BK115.out)|((with_reducible refine gC (f:=19) rfl ?_);refine goesL_ (some 6) rfl rfl Tryd.func19 (by kernel_rfl) rfl #[.agg #[.int .u32 a0_0,.string a0_1,.int .i64 a0_2,.int .i64 a0_3,.int .i64 a0_4,.int .i64 a0_5]] rfl (by (try simp only [mT,mC,mN]);first|done|rfl|(simp only [lD,lT];rfl)) ?_;(with_reducible refine (book_right.calls a0_0 a0_1 a0_2 a0_3 a0_4 a0_5 false _ ?side1 A2.out).mono ?_);(case side1=>exact Glob.below HG.out (by repeat (first|(with_reducible first|exact HB.out|apply bL|apply pN|apply bE|refine bS ?_ GE115.out)|exact HB.out)));rintro e w31 ⟨rfl,hb⟩;refine ⟨_,rfl,?_⟩;have n0_:=Am (blk_below (g:=gb115) (by (with_reducible repeat (first|refine bN ?_ _|refine bD ?_|refine bA ?_ _));exact BK115.out) hb);have n1_:=Am (below_step (by repeat (first|(with_reducible first|exact HB.out|apply bL|apply pN|apply bE|refine bS ?_ GE115.out)|exact HB.out)) hb);clear BK115;clear HB;have BK115:=n0_;have HB:=n1_;clear n0_ n1_))
  go_ret2
  exact ⟨by first|rfl|(simp [errW_none,errW_some] <;> rfl)|(simp [*,errW_none,errW_some] <;> rfl),by repeat (first|(with_reducible first|exact HB.out|apply bL|apply pN|apply bE|refine bS ?_ GE115.out)|exact HB.out)⟩
 subst c3
 have H1 : ((strconv_Itoa_20.f a0_2).bind fun t117=>(if t117.size + 1≤9223372036854775807 then ((strconv_Itoa_20.f a0_3).bind fun t118=>(if (t117 ++ (⟨#[120]⟩ : ByteArray)).size + t118.size≤9223372036854775807 then ((strconv_Itoa_20.f (wrap64 (a0_0))).bind fun t119=>((book_names.f).bind fun bt120=>(if 0≤a0_4 then (if a0_4 < 9 then ((strconv_Itoa_20.f a0_5).bind fun t129=>((strings_Join.f (([t119,a0_1,(t117 ++ (⟨#[120]⟩ : ByteArray)) ++ t118,rdOf ByteArray.empty ([bt120.1,bt120.2.1,bt120.2.2.1,bt120.2.2.2.1,bt120.2.2.2.2.1,bt120.2.2.2.2.2.1,bt120.2.2.2.2.2.2.1,bt120.2.2.2.2.2.2.2.1,bt120.2.2.2.2.2.2.2.2] : List ByteArray) a0_4,t129] : List ByteArray)) (⟨#[32]⟩ : ByteArray)).bind fun t133=>(some (t133,0)))) else (none)) else (none)))) else (none))) else (none))) = some (r1,r2):=by rw [if_pos rfl] at H;exact H
 clear H
 have H:=H1
 clear H1
 replace H:=oB H
 obtain ⟨t117,A40,H⟩:=H
 try dsimp only at H
 have A4:=Am A40
 clear A40
 by_cases c5 : t117.size + 1≤9223372036854775807
 rotate_left
 ·rw [if_neg c5] at H
  exact absurd H (by simp)
 rw [if_pos c5] at H
 have c5b0:=eq_true c5
 have c5b1 : decide (t117.size + 1≤9223372036854775807) = true:=decide_eq_true c5
 try have c5b2 : (9223372036854775807 < t117.size + 1) = False:=eq_false (Nat.not_lt.2 c5)
 try (have c5b3:=c5b2;simp only [ByteArray.size_append,size_lit1,size_lit0,Nat.add_zero] at c5b3)
 try (have c5b5:=c5b2;simp only [ByteArray.size_append,size_litA,List.size_toArray,List.length_cons,List.length_nil,Nat.zero_add,Nat.reduceAdd] at c5b5)
 replace H:=oB H
 obtain ⟨t118,A60,H⟩:=H
 try dsimp only at H
 have A6:=Am A60
 clear A60
 by_cases c7 : (t117 ++ (⟨#[120]⟩ : ByteArray)).size + t118.size≤9223372036854775807
 rotate_left
 ·rw [if_neg c7] at H
  exact absurd H (by simp)
 rw [if_pos c7] at H
 have c7b0:=eq_true c7
 have c7b1 : decide ((t117 ++ (⟨#[120]⟩ : ByteArray)).size + t118.size≤9223372036854775807) = true:=decide_eq_true c7
 try have c7b2 : (9223372036854775807 < (t117 ++ (⟨#[120]⟩ : ByteArray)).size + t118.size) = False:=eq_false (Nat.not_lt.2 c7)
 try (have c7b3:=c7b2;simp only [ByteArray.size_append,size_lit1,size_lit0,Nat.add_zero] at c7b3)
 try (have c7b5:=c7b2;simp only [ByteArray.size_append,size_litA,List.size_toArray,List.length_cons,List.length_nil,Nat.zero_add,Nat.reduceAdd] at c7b5)
 replace H:=oB H
 obtain ⟨t119,A80,H⟩:=H
 try dsimp only at H
 have A8:=Am A80
 clear A80
 replace H:=oB H
 obtain ⟨⟨t120,t121,t122,t123,t124,t125,t126,t127,t128⟩,A90,H⟩:=H
 replace H : (if 0≤a0_4 then (if a0_4 < 9 then ((strconv_Itoa_20.f a0_5).bind fun t129=>((strings_Join.f (([t119,a0_1,(t117 ++ (⟨#[120]⟩ : ByteArray)) ++ t118,rdOf ByteArray.empty ([t120,t121,t122,t123,t124,t125,t126,t127,t128] : List ByteArray) a0_4,t129] : List ByteArray)) (⟨#[32]⟩ : ByteArray)).bind fun t133=>(some (t133,0)))) else (none)) else (none)) = some (r1,r2):=H
 have A9:=Am A90
 clear A90
 by_cases c10 : 0≤a0_4
 rotate_left
 ·rw [if_neg c10] at H
  exact absurd H (by simp)
 rw [if_pos c10] at H
 have c10b0 : decide (0≤a0_4) = true:=decide_eq_true c10
 clear c10
 by_cases c11 : a0_4 < 9
 rotate_left
 ·rw [if_neg c11] at H
  exact absurd H (by simp)
 rw [if_pos c11] at H
 have c11b0 : decide (a0_4 < 9) = true:=decide_eq_true c11
 clear c11
 replace H:=oB H
 obtain ⟨t129,A130,H⟩:=H
 try dsimp only at H
 have A13:=Am A130
 clear A130
 obtain ⟨y130,hy130⟩ : ∃ y_ : List ByteArray,y_ = (([t119,a0_1,(t117 ++ (⟨#[120]⟩ : ByteArray)) ++ t118,rdOf ByteArray.empty ([t120,t121,t122,t123,t124,t125,t126,t127,t128] : List ByteArray) a0_4,t129] : List ByteArray)):=⟨_,rfl⟩
 replace H : ((strings_Join.f y130 (⟨#[32]⟩ : ByteArray)).bind fun t133=>(some (t133,0))) = some (r1,r2):=by first|(rw [hy130];with_reducible exact H)|(have H2_:=(Option.bind_some _ _).symm.trans H;rw [hy130];with_reducible exact H2_)|(have H2_:=(Option.bind_some _ _).symm.trans H;with_reducible exact H2_)|with_reducible exact H|(rw [hy130];exact H)|exact H
 have Ny130:=Am hy130
 clear hy130
 replace H:=oB H
 obtain ⟨t133,A140,H⟩:=H
 try dsimp only at H
 have A14:=Am A140
 clear A140
 simp only [Option.some.injEq,Prod.mk.injEq] at H
 obtain ⟨rfl,rfl⟩:=H
 go_enter Tryd.func9,Tryd.ntmps9
 try go_wp2_with (first|((with_reducible refine gD (N:=1) rfl ?_);refine box_event ?hg (N:=1) ?hd (cs:=#[.int .u32 a0_0,.string a0_1,.int .i64 a0_2,.int .i64 a0_3,.int .i64 a0_4,.int .i64 a0_5]) (t:=24) ?hr ?_;(case hd=>rfl);(case hg=>rfl);(case hr=>first|(go_simp;done)|(go_simp;rfl));intro gb115 hg w15 hbox hb;have n0_:=Am (below_step (by repeat (first|(with_reducible first|exact HB.out|apply bL|apply pN|apply bE)|exact HB.out)) hb);have n1_:=Am (hbox);have n2_:=Am ((by rw [hg];exact (bZ (by repeat (first|(with_reducible first|exact HB.out|apply bL|apply pN|apply bE)|exact HB.out))) : w.heap.size≤gb115));have n3_:=n2_;clear HB;have HB:=n0_;have BK115:=n1_;have GW115:=n2_;have GE115:=n3_;clear n0_ n1_ n2_ n3_;clear hb hbox hg;obtain ⟨X16_0,X16_1,X16_2,X16_3,X16_4,X16_5,Y16_0,Y16_1,Y16_2,Y16_3,Y16_4,Y16_5⟩:=kc6 (w:=w15) (g:=gb115) BK115.out)|((with_reducible refine gC (f:=19) rfl ?_);refine goesL_ (some 6) rfl rfl Tryd.func19 (by kernel_rfl) rfl #[.agg #[.int .u32 a0_0,.string a0_1,.int .i64 a0_2,.int .i64 a0_3,.int .i64 a0_4,.int .i64 a0_5]] rfl (by (try simp only [mT,mC,mN]);first|done|rfl|(simp only [lD,lT];rfl)) ?_;(with_reducible refine (book_right.calls a0_0 a0_1 a0_2 a0_3 a0_4 a0_5 true _ ?side1 A2.out).mono ?_);(case side1=>exact Glob.below HG.out (by repeat (first|(with_reducible first|exact HB.out|apply bL|apply pN|apply bE|refine bS ?_ GE115.out)|exact HB.out)));rintro e w17 ⟨rfl,hb⟩;refine ⟨_,rfl,?_⟩;have n0_:=Am (blk_below (g:=gb115) (by (with_reducible repeat (first|refine bN ?_ _|refine bD ?_|refine bA ?_ _));exact BK115.out) hb);have n1_:=Am (below_step (by repeat (first|(with_reducible first|exact HB.out|apply bL|apply pN|apply bE|refine bS ?_ GE115.out)|exact HB.out)) hb);clear BK115;clear HB;have BK115:=n0_;have HB:=n1_;clear n0_ n1_))
 have n0_:=Am (bD BK115.out)
 have n1_:=Am (bE HB.out)
 clear BK115
 clear HB
 have BK115:=n0_
 have HB:=n1_
 clear n0_ n1_
 refine start_ (n:=9) (S:=fun w'=>w'.cell? ⟨gb115,0,none⟩ = some (.int .u32 a0_0)∧w'.cell? ⟨gb115,1,none⟩ = some (.string a0_1)∧w'.cell? ⟨gb115,2,none⟩ = some (.int .i64 a0_2)∧w'.cell? ⟨gb115,3,none⟩ = some (.int .i64 a0_3)∧w'.cell? ⟨gb115,4,none⟩ = some (.int .i64 a0_4)∧w'.cell? ⟨gb115,5,none⟩ = some (.int .i64 a0_5)) (ds:=[]) #[O,O,O,O,O,O,O,O,O] (by kernel_rfl) rfl rfl ⟨(bC BK115.out 0).trans rfl,(bC BK115.out 1).trans rfl,(bC BK115.out 2).trans rfl,(bC BK115.out 3).trans rfl,(bC BK115.out 4).trans rfl,(bC BK115.out 5).trans rfl⟩ (fun hHeld=>?_);refine with_tabW book_Line.tab3 book_Line.bits3 (fun HT_ HW_=>?_)
 generalize w17.drew = w18 at BK115 HB hHeld ⊢
 refine pure_ (i:=0) (N:=some 8) (v:=?_) (a':=?_) #[J,O,O,O,O,O,O,O,O] rfl rfl (any_of HT_.out (by kernel_rfl)) (fun _ _ _ h=>h) (Or.inl ⟨by rfl,?_⟩) ?_ ?_
 rotate_left
 ·intro w'
  go_simp
  with_reducible rfl
 rotate_left
 ·simp only [Act.put,sT,sZ,sS,iW,iV]
  rfl
 refine pure_ (i:=4) (N:=some 12) (v:=?_) (a':=?_) #[J,O,O,O,J,O,O,O,O] rfl rfl (any_of HT_.out (by kernel_rfl)) (fun _ _ _ h=>h) (Or.inl ⟨by rfl,?_⟩) ?_ ?_
 rotate_left
 ·intro w'
  go_simp
  with_reducible rfl
 rotate_left
 ·simp only [Act.put,sT,sZ,sS,iW,iV]
  rfl
 refine take_ (i:=1) (N:=some 9) (v:=?_) (a':=?_) #[J,J,O,O,J,O,O,O,O] rfl rfl (take_ofW HT_.out HW_.out (by kernel_rfl)) (fun _ _ _ h=>h) (Or.inl ⟨by rfl,?_⟩) hHeld ?_ ?_
 rotate_left
 ·rintro w' ⟨s0,s1,s2,s3,s4,s5⟩
  go_simp
  with_reducible rfl
 rotate_left
 ·simp only [Act.put,sT,sZ,sS,iW,iV]
  rfl
 refine take_ (i:=5) (N:=some 13) (v:=?_) (a':=?_) #[J,J,O,O,J,J,O,O,O] rfl rfl (take_ofW HT_.out HW_.out (by kernel_rfl)) (fun _ _ _ h=>h) (Or.inl ⟨by rfl,?_⟩) hHeld ?_ ?_
 rotate_left
 ·rintro w' ⟨s0,s1,s2,s3,s4,s5⟩
  go_simp
  with_reducible rfl
 rotate_left
 ·simp only [Act.put,sT,sZ,sS,iW,iV]
  rfl
 refine one_ (i:=2) (N:=some 10) #[J,J,J,O,J,J,O,O,O] rfl rfl (one_of HT_.out (by kernel_rfl)) (by decide) (fun K hK=>?_)
 refine goes_ Tryd.func20 (by kernel_rfl) rfl #[.int .i64 a0_2] (by rfl) rfl rfl (by (try simp only [mT,mC,mN]);first|done|rfl|(simp only [lD,lT];rfl)) ?_
 with_reducible refine (strconv_Itoa_20.calls a0_2 t117 _ ?side1 A4.out).mono ?_
 (case side1=>exact Glob.below HG.out (by repeat (first|(with_reducible first|exact HB.out|apply bL|apply pN|apply bE|refine bS ?_ GE115.out)|exact HB.out)))
 rintro e w19 ⟨rfl,hb⟩
 refine ⟨_,rfl,?_⟩
 have n0_:=Am (blk_below (g:=gb115) (by (with_reducible repeat (first|refine bN ?_ _|refine bD ?_|refine bA ?_ _));exact BK115.out) hb)
 have n1_:=Am (below_step (by repeat (first|(with_reducible first|exact HB.out|apply bL|apply pN|apply bE|refine bS ?_ GE115.out)|exact HB.out)) hb)
 clear BK115
 clear HB
 have BK115:=n0_
 have HB:=n1_
 clear n0_ n1_
 refine hK.out _ _ ⟨(bC BK115.out 0).trans rfl,(bC BK115.out 1).trans rfl,(bC BK115.out 2).trans rfl,(bC BK115.out 3).trans rfl,(bC BK115.out 4).trans rfl,(bC BK115.out 5).trans rfl⟩ (fun hHeld=>?_)
 clear hK K
 refine norm_ (a':=?_) ?_ ?_
 rotate_left
 ·show Act.put _ (some 10) _ = _
  simp only [Act.put,sT,sZ,sS,iW,iV]
  rfl
 refine pure_ (i:=3) (N:=some 11) (v:=?_) (a':=?_) #[J,J,J,J,J,J,O,O,O] rfl rfl (any_of HT_.out (by kernel_rfl)) (fun _ _ _ h=>h) (Or.inl ⟨by rfl,?_⟩) ?_ ?_
 rotate_left
 ·intro w'
  go_simp
  with_reducible rfl
 rotate_left
 ·simp only [Act.put,sT,sZ,sS,iW,iV]
  rfl
 refine one_ (i:=6) (N:=some 14) #[J,J,J,J,J,J,J,O,O] rfl rfl (one_of HT_.out (by kernel_rfl)) (by decide) (fun K hK=>?_)
 refine goes_ Tryd.func20 (by kernel_rfl) rfl #[.int .i64 a0_3] (by rfl) rfl rfl (by (try simp only [mT,mC,mN]);first|done|rfl|(simp only [lD,lT];rfl)) ?_
 with_reducible refine (strconv_Itoa_20.calls a0_3 t118 _ ?side1 A6.out).mono ?_
 (case side1=>exact Glob.below HG.out (by repeat (first|(with_reducible first|exact HB.out|apply bL|apply pN|apply bE|refine bS ?_ GE115.out)|exact HB.out)))
 rintro e w20 ⟨rfl,hb⟩
 refine ⟨_,rfl,?_⟩
 have n0_:=Am (blk_below (g:=gb115) (by (with_reducible repeat (first|refine bN ?_ _|refine bD ?_|refine bA ?_ _));exact BK115.out) hb)
 have n1_:=Am (below_step (by repeat (first|(with_reducible first|exact HB.out|apply bL|apply pN|apply bE|refine bS ?_ GE115.out)|exact HB.out)) hb)
 clear BK115
 clear HB
 have BK115:=n0_
 have HB:=n1_
 clear n0_ n1_
 refine hK.out _ _ ⟨(bC BK115.out 0).trans rfl,(bC BK115.out 1).trans rfl,(bC BK115.out 2).trans rfl,(bC BK115.out 3).trans rfl,(bC BK115.out 4).trans rfl,(bC BK115.out 5).trans rfl⟩ (fun hHeld=>?_)
 clear hK K
 refine norm_ (a':=?_) ?_ ?_
 rotate_left
 ·show Act.put _ (some 14) _ = _
  simp only [Act.put,sT,sZ,sS,iW,iV]
  rfl
 refine pure_ (i:=7) (N:=some 15) (v:=?_) (a':=?_) #[J,J,J,J,J,J,J,J,O] rfl rfl (any_of HT_.out (by kernel_rfl)) (fun _ _ _ h=>h) (Or.inl ⟨by rfl,?_⟩) ?_ ?_
 rotate_left
 ·intro w'
  go_simp
  with_reducible rfl
 rotate_left
 ·simp only [Act.put,sT,sZ,sS,iW,iV]
  rfl
 refine pure_ (i:=8) (N:=some 4) (v:=?_) (a':=?_) #[J,J,J,J,J,J,J,J,J] rfl rfl (any_of HT_.out (by kernel_rfl)) (fun _ _ _ h=>h) (Or.inl ⟨by rfl,?_⟩) ?_ ?_
 rotate_left
 ·intro w'
  go_simp
  with_reducible rfl
 rotate_left
 ·simp only [Act.put,sT,sZ,sS,iW,iV]
  rfl
 refine done_ (done_of HT_.out (by kernel_rfl)) ?_
 try go_wp2
 have n0_:=Am (bD BK115.out)
 have n1_:=Am (bE HB.out)
 clear BK115
 clear HB
 have BK115:=n0_
 have HB:=n1_
 clear n0_ n1_
 refine start_ (n:=18) (S:=fun w'=>w'.cell? ⟨gb115,0,none⟩ = some (.int .u32 a0_0)∧w'.cell? ⟨gb115,1,none⟩ = some (.string a0_1)∧w'.cell? ⟨gb115,2,none⟩ = some (.int .i64 a0_2)∧w'.cell? ⟨gb115,3,none⟩ = some (.int .i64 a0_3)∧w'.cell? ⟨gb115,4,none⟩ = some (.int .i64 a0_4)∧w'.cell? ⟨gb115,5,none⟩ = some (.int .i64 a0_5)) (ds:=[]) #[O,O,O,O,O,O,O,O,O,O,O,O,O,O,O,O,O,O] (by kernel_rfl) rfl rfl ⟨(bC BK115.out 0).trans rfl,(bC BK115.out 1).trans rfl,(bC BK115.out 2).trans rfl,(bC BK115.out 3).trans rfl,(bC BK115.out 4).trans rfl,(bC BK115.out 5).trans rfl⟩ (fun hHeld=>?_);refine with_tabW book_Line.tab4 book_Line.bits4 (fun HT_ HW_=>?_)
 generalize w20.drew = w21 at BK115 HB hHeld ⊢
 refine pure_ (i:=0) (N:=some 16) (v:=?_) (a':=?_) #[J,O,O,O,O,O,O,O,O,O,O,O,O,O,O,O,O,O] rfl rfl (any_of HT_.out (by kernel_rfl)) (fun _ _ _ h=>h) (Or.inl ⟨by rfl,?_⟩) ?_ ?_
 rotate_left
 ·intro w'
  go_simp
  with_reducible rfl
 rotate_left
 ·simp only [Act.put,sT,sZ,sS,iW,iV]
  rfl
 refine pure_ (i:=4) (N:=some 20) (v:=?_) (a':=?_) #[J,O,O,O,J,O,O,O,O,O,O,O,O,O,O,O,O,O] rfl rfl (any_of HT_.out (by kernel_rfl)) (fun _ _ _ h=>h) (Or.inl ⟨by rfl,?_⟩) ?_ ?_
 rotate_left
 ·intro w'
  go_simp
  with_reducible rfl
 rotate_left
 ·simp only [Act.put,sT,sZ,sS,iW,iV]
  rfl
 refine pure_ (i:=6) (N:=some 22) (v:=?_) (a':=?_) #[J,O,O,O,J,O,J,O,O,O,O,O,O,O,O,O,O,O] rfl rfl (any_of HT_.out (by kernel_rfl)) (fun _ _ _ h=>h) (Or.inl ⟨by rfl,?_⟩) ?_ ?_
 rotate_left
 ·intro w'
  go_simp
  with_reducible rfl
 rotate_left
 ·simp only [Act.put,sT,sZ,sS,iW,iV]
  rfl
 refine pure_ (i:=8) (N:=some 24) (v:=?_) (a':=?_) #[J,O,O,O,J,O,J,O,J,O,O,O,O,O,O,O,O,O] rfl rfl (any_of HT_.out (by kernel_rfl)) (fun _ _ _ h=>h) (Or.inl ⟨by rfl,?_⟩) ?_ ?_
 rotate_left
 ·intro w'
  go_simp
  with_reducible rfl
 rotate_left
 ·simp only [Act.put,sT,sZ,sS,iW,iV]
  rfl
 refine pure_ (i:=11) (N:=some 27) (v:=?_) (a':=?_) #[J,O,O,O,J,O,J,O,J,O,O,J,O,O,O,O,O,O] rfl rfl (any_of HT_.out (by kernel_rfl)) (fun _ _ _ h=>h) (Or.inl ⟨by rfl,?_⟩) ?_ ?_
 rotate_left
 ·intro w'
  go_simp
  with_reducible rfl
 rotate_left
 ·simp only [Act.put,sT,sZ,sS,iW,iV]
  rfl
 refine take_ (i:=1) (N:=some 17) (v:=?_) (a':=?_) #[J,J,O,O,J,O,J,O,J,O,O,J,O,O,O,O,O,O] rfl rfl (take_ofW HT_.out HW_.out (by kernel_rfl)) (fun _ _ _ h=>h) (Or.inl ⟨by rfl,?_⟩) hHeld ?_ ?_
 rotate_left
 ·rintro w' ⟨s0,s1,s2,s3,s4,s5⟩
  go_simp
  with_reducible rfl
 rotate_left
 ·simp only [Act.put,sT,sZ,sS,iW,iV]
  rfl
 refine pure_ (i:=2) (N:=some 18) (v:=?_) (a':=?_) #[J,J,J,O,J,O,J,O,J,O,O,J,O,O,O,O,O,O] rfl rfl (any_of HT_.out (by kernel_rfl)) (fun _ _ _ h=>h) (Or.inl ⟨by rfl,?_⟩) ?_ ?_
 rotate_left
 ·intro w'
  go_simp
  with_reducible rfl
 rotate_left
 ·simp only [Act.put,sT,sZ,sS,iW,iV]
  rfl
 refine take_ (i:=5) (N:=some 21) (v:=?_) (a':=?_) #[J,J,J,O,J,J,J,O,J,O,O,J,O,O,O,O,O,O] rfl rfl (take_ofW HT_.out HW_.out (by kernel_rfl)) (fun _ _ _ h=>h) (Or.inl ⟨by rfl,?_⟩) hHeld ?_ ?_
 rotate_left
 ·rintro w' ⟨s0,s1,s2,s3,s4,s5⟩
  go_simp
  with_reducible rfl
 rotate_left
 ·simp only [Act.put,sT,sZ,sS,iW,iV]
  rfl
 refine take_ (i:=9) (N:=some 25) (v:=?_) (a':=?_) #[J,J,J,O,J,J,J,O,J,J,O,J,O,O,O,O,O,O] rfl rfl (take_ofW HT_.out HW_.out (by kernel_rfl)) (fun _ _ _ h=>h) (Or.inl ⟨by rfl,?_⟩) hHeld ?_ ?_
 rotate_left
 ·rintro w' ⟨s0,s1,s2,s3,s4,s5⟩
  go_simp
  with_reducible rfl
 rotate_left
 ·simp only [Act.put,sT,sZ,sS,iW,iV]
  rfl
 refine take_ (i:=12) (N:=some 28) (v:=?_) (a':=?_) #[J,J,J,O,J,J,J,O,J,J,O,J,J,O,O,O,O,O] rfl rfl (take_ofW HT_.out HW_.out (by kernel_rfl)) (fun _ _ _ h=>h) (Or.inl ⟨by rfl,?_⟩) hHeld ?_ ?_
 rotate_left
 ·rintro w' ⟨s0,s1,s2,s3,s4,s5⟩
  go_simp
  with_reducible rfl
 rotate_left
 ·simp only [Act.put,sT,sZ,sS,iW,iV]
  rfl
 refine one_ (i:=3) (N:=some 19) #[J,J,J,J,J,J,J,O,J,J,O,J,J,O,O,O,O,O] rfl rfl (one_of HT_.out (by kernel_rfl)) (by decide) (fun K hK=>?_)
 refine goes_ Tryd.func20 (by kernel_rfl) rfl #[.int .i64 (wrap64 (a0_0))] (by rfl) rfl rfl (by (try simp only [mT,mC,mN]);first|done|rfl|(simp only [lD,lT];rfl)) ?_
 with_reducible refine (strconv_Itoa_20.calls (wrap64 (a0_0)) t119 _ ?side1 A8.out).mono ?_
 (case side1=>exact Glob.below HG.out (by repeat (first|(with_reducible first|exact HB.out|apply bL|apply pN|apply bE|refine bS ?_ GE115.out)|exact HB.out)))
 rintro e w22 ⟨rfl,hb⟩
 refine ⟨_,rfl,?_⟩
 have n0_:=Am (blk_below (g:=gb115) (by (with_reducible repeat (first|refine bN ?_ _|refine bD ?_|refine bA ?_ _));exact BK115.out) hb)
 have n1_:=Am (below_step (by repeat (first|(with_reducible first|exact HB.out|apply bL|apply pN|apply bE|refine bS ?_ GE115.out)|exact HB.out)) hb)
 clear BK115
 clear HB
 have BK115:=n0_
 have HB:=n1_
 clear n0_ n1_
 refine hK.out _ _ ⟨(bC BK115.out 0).trans rfl,(bC BK115.out 1).trans rfl,(bC BK115.out 2).trans rfl,(bC BK115.out 3).trans rfl,(bC BK115.out 4).trans rfl,(bC BK115.out 5).trans rfl⟩ (fun hHeld=>?_)
 clear hK K
 refine norm_ (a':=?_) ?_ ?_
 rotate_left
 ·show Act.put _ (some 19) _ = _
  simp only [Act.put,sT,sZ,sS,iW,iV]
  rfl
 refine one_ (i:=7) (N:=some 23) #[J,J,J,J,J,J,J,J,J,J,O,J,J,O,O,O,O,O] rfl rfl (one_of HT_.out (by kernel_rfl)) (by decide) (fun K hK=>?_)
 refine goes_ Tryd.func22 (by kernel_rfl) rfl #[] (by rfl) rfl rfl (by (try simp only [mT,mC,mN]);first|done|rfl|(simp only [lD,lT];rfl)) ?_
 with_reducible refine (book_names.calls  t120 t121 t122 t123 t124 t125 t126 t127 t128 _ A9.out).mono ?_
 rintro e w23 ⟨rfl,hb⟩
 refine ⟨_,rfl,?_⟩
 have n0_:=Am (blk_below (g:=gb115) (by (with_reducible repeat (first|refine bN ?_ _|refine bD ?_|refine bA ?_ _));exact BK115.out) hb)
 have n1_:=Am (below_step (by repeat (first|(with_reducible first|exact HB.out|apply bL|apply pN|apply bE|refine bS ?_ GE115.out)|exact HB.out)) hb)
 clear BK115
 clear HB
 have BK115:=n0_
 have HB:=n1_
 clear n0_ n1_
 have p12 : 0≤(a0_4 : Int):=of_decide_eq_true (by first|(with_reducible assumption)|assumption)
 have q12 : a0_4 < (9 : Int):=of_decide_eq_true (by first|(with_reducible assumption)|assumption)
 have hx12 : ∀ w_ : World,(Instr.index 50 (.agg #[.string t120,.string t121,.string t122,.string t123,.string t124,.string t125,.string t126,.string t127,.string t128]) (.int .i64 a0_4)).run Tryd.prog w_ = .ok (.string (rdOf ByteArray.empty ([t120,t121,t122,t123,t124,t125,t126,t127,t128] : List ByteArray) a0_4)) w_:=run_ix50 ([t120,t121,t122,t123,t124,t125,t126,t127,t128] : List ByteArray) rfl a0_4 p12 q12
 refine hK.out _ _ ⟨(bC BK115.out 0).trans rfl,(bC BK115.out 1).trans rfl,(bC BK115.out 2).trans rfl,(bC BK115.out 3).trans rfl,(bC BK115.out 4).trans rfl,(bC BK115.out 5).trans rfl⟩ (fun hHeld=>?_)
 clear hK K
 refine norm_ (a':=?_) ?_ ?_
 rotate_left
 ·show Act.put _ (some 23) _ = _
  simp only [Act.put,sT,sZ,sS,iW,iV]
  rfl
 refine take_ (i:=10) (N:=some 26) (v:=?_) (a':=?_) #[J,J,J,J,J,J,J,J,J,J,J,J,J,O,O,O,O,O] rfl rfl (take_ofW HT_.out HW_.out (by kernel_rfl)) (fun _ _ _ h=>h) (Or.inl ⟨by rfl,?_⟩) hHeld ?_ ?_
 rotate_left
 ·rintro w' ⟨s0,s1,s2,s3,s4,s5⟩
  go_simp
  with_reducible rfl
 rotate_left
 ·simp only [Act.put,sT,sZ,sS,iW,iV]
  rfl
 refine one_ (i:=13) (N:=some 29) #[J,J,J,J,J,J,J,J,J,J,J,J,J,J,O,O,O,O] rfl rfl (one_of HT_.out (by kernel_rfl)) (by decide) (fun K hK=>?_)
 refine goes_ Tryd.func20 (by kernel_rfl) rfl #[.int .i64 a0_5] (by rfl) rfl rfl (by (try simp only [mT,mC,mN]);first|done|rfl|(simp only [lD,lT];rfl)) ?_
 with_reducible refine (strconv_Itoa_20.calls a0_5 t129 _ ?side1 A13.out).mono ?_
 (case side1=>exact Glob.below HG.out (by repeat (first|(with_reducible first|exact HB.out|apply bL|apply pN|apply bE|refine bS ?_ GE115.out)|exact HB.out)))
 rintro e w24 ⟨rfl,hb⟩
 refine ⟨_,rfl,?_⟩
 have n0_:=Am (blk_below (g:=gb115) (by (with_reducible repeat (first|refine bN ?_ _|refine bD ?_|refine bA ?_ _));exact BK115.out) hb)
 have n1_:=Am (below_step (by repeat (first|(with_reducible first|exact HB.out|apply bL|apply pN|apply bE|refine bS ?_ GE115.out)|exact HB.out)) hb)
 clear BK115
 clear HB
 have BK115:=n0_
 have HB:=n1_
 clear n0_ n1_
 refine hK.out _ _ ⟨(bC BK115.out 0).trans rfl,(bC BK115.out 1).trans rfl,(bC BK115.out 2).trans rfl,(bC BK115.out 3).trans rfl,(bC BK115.out 4).trans rfl,(bC BK115.out 5).trans rfl⟩ (fun hHeld=>?_)
 clear hK K
 refine norm_ (a':=?_) ?_ ?_
 rotate_left
 ·show Act.put _ (some 29) _ = _
  simp only [Act.put,sT,sZ,sS,iW,iV]
  rfl
 refine one_ (i:=14) (N:=some 30) #[J,J,J,J,J,J,J,J,J,J,J,J,J,J,J,O,O,O] rfl rfl (one_of HT_.out (by kernel_rfl)) (by decide) (fun K hK=>?_)
 refine Kd.R_lit_step Kd.string _ 9 ?hg (N:=30) ?hd (xs:=([t119,a0_1,(t117 ++ (⟨#[120]⟩ : ByteArray)) ++ t118,rdOf ByteArray.empty ([t120,t121,t122,t123,t124,t125,t126,t127,t128] : List ByteArray) a0_4,t129] : List ByteArray)) (inner:=[.string t119,.string a0_1,.string ((t117 ++ (⟨#[120]⟩ : ByteArray)) ++ t118),.string (rdOf ByteArray.empty ([t120,t121,t122,t123,t124,t125,t126,t127,t128] : List ByteArray) a0_4),.string t129]) (ok:=fun _=>True) (okp:=fun _=>True) ?hr ?hp (fun _ hk=>hk) trivial (Below.refl _ _) (Nat.le_refl _) (by simp) ?_;(case hd=>rfl);(case hg=>rfl);(case hr=>first|(go_simp;done)|(go_simp;rfl));(case hp=>exact (Reps.one (show Kd.M Kd.string _ _ _ t119 [.string t119] from rfl) (Reps.one (show Kd.M Kd.string _ _ _ a0_1 [.string a0_1] from rfl) (Reps.one (show Kd.M Kd.string _ _ _ ((t117 ++ (⟨#[120]⟩ : ByteArray)) ++ t118) [.string ((t117 ++ (⟨#[120]⟩ : ByteArray)) ++ t118)] from rfl) (Reps.one (show Kd.M Kd.string _ _ _ (rdOf ByteArray.empty ([t120,t121,t122,t123,t124,t125,t126,t127,t128] : List ByteArray) a0_4) [.string (rdOf ByteArray.empty ([t120,t121,t122,t123,t124,t125,t126,t127,t128] : List ByteArray) a0_4)] from rfl) (Reps.one (show Kd.M Kd.string _ _ _ t129 [.string t129] from rfl) (Reps.none _ _)))))))
 intro v131 w25 ho26 hb hg_ hnew_
 clear hg_ hnew_
 (first|rw [← Ny130.out] at ho26|(simp only [Int.reduceToNat] at ho26;rw [← Ny130.out] at ho26))
 have n0_:=Am (Kd.R_lower ho26 (bZ (by repeat (first|(with_reducible first|exact HB.out|apply bL|apply pN|apply bE|refine bS ?_ GE115.out)|exact HB.out))))
 have n1_:=Am (blk_below (g:=gb115) (by (with_reducible repeat (first|refine bN ?_ _|refine bD ?_|refine bA ?_ _));exact BK115.out) hb)
 have n2_:=Am (below_step (by repeat (first|(with_reducible first|exact HB.out|apply bL|apply pN|apply bE|refine bS ?_ GE115.out)|exact HB.out)) hb)
 clear BK115
 clear HB
 have HO132:=n0_
 have BK115:=n1_
 have HB:=n2_
 clear n0_ n1_ n2_
 clear hb ho26
 obtain ⟨Ao27,co27,eo27⟩:=Kd.R_slice HO132.out
 (first|subst eo27|(injection eo27 with f1_ f2_ f3_;have f4_:=f1_.symm;have f5_:=f3_.symm;clear f1_ f2_ f3_;subst f4_;subst f5_))
 refine hK.out _ _ ⟨(bC BK115.out 0).trans rfl,(bC BK115.out 1).trans rfl,(bC BK115.out 2).trans rfl,(bC BK115.out 3).trans rfl,(bC BK115.out 4).trans rfl,(bC BK115.out 5).trans rfl⟩ (fun hHeld=>?_)
 clear hK K
 refine norm_ (a':=?_) ?_ ?_
 rotate_left
 ·show Act.put _ (some 30) _ = _
  simp only [Act.put,sT,sZ,sS,iW,iV]
  rfl
 refine one_ (i:=15) (N:=some 31) #[J,J,J,J,J,J,J,J,J,J,J,J,J,J,J,J,O,O] rfl rfl (one_of HT_.out (by kernel_rfl)) (by decide) (fun K hK=>?_)
 refine goes_ Tryd.func21 (by kernel_rfl) rfl #[.slice Ao27 y130.length co27,.string (⟨#[32]⟩ : ByteArray)] (by rfl) rfl rfl (by (try simp only [mT,mC,mN]);first|done|rfl|(simp only [lD,lT];rfl)) ?_
 with_reducible refine (strings_Join.calls (fun k_=>some k_ = (.slice Ao27 y130.length co27 : Value).ownBlock) (.slice Ao27 y130.length co27) y130 (⟨#[32]⟩ : ByteArray) t133 w _ ?side1 ?side2 A14.out).mono ?_
 (case side1=>repeat (first|(with_reducible first|exact HB.out|apply bL|apply pN|apply bE|refine bS ?_ GE115.out)|exact HB.out))
 (case side2=>exact Kd.R_tight rfl HO132.out)
 rintro e w28 ⟨rfl,hb,hkp⟩
 refine ⟨_,rfl,?_⟩
 have n0_:=Am (blk_kept (by (with_reducible repeat (first|refine bN ?_ _|refine bD ?_|refine bA ?_ _));exact BK115.out) hkp (fun hs_=>(fun e_=>(Kd.R_ne HO132.out BK115.out (by decide)) e_) hs_))
 have n1_:=Am (hb)
 clear BK115
 clear HB
 clear HO132
 have BK115:=n0_
 have HB:=n1_
 clear n0_ n1_
 refine hK.out _ _ ⟨(bC BK115.out 0).trans rfl,(bC BK115.out 1).trans rfl,(bC BK115.out 2).trans rfl,(bC BK115.out 3).trans rfl,(bC BK115.out 4).trans rfl,(bC BK115.out 5).trans rfl⟩ (fun hHeld=>?_)
 clear hK K
 refine norm_ (a':=?_) ?_ ?_
 rotate_left
 ·show Act.put _ (some 31) _ = _
  simp only [Act.put,sT,sZ,sS,iW,iV]
  rfl
 refine pure_ (i:=16) (N:=some 2) (v:=?_) (a':=?_) #[J,J,J,J,J,J,J,J,J,J,J,J,J,J,J,J,J,O] rfl rfl (any_of HT_.out (by kernel_rfl)) (fun _ _ _ h=>h) (Or.inl ⟨by rfl,?_⟩) ?_ ?_
 rotate_left
 ·intro w'
  go_simp
  with_reducible rfl
 rotate_left
 ·simp only [Act.put,sT,sZ,sS,iW,iV]
  rfl
 refine pure_ (i:=17) (N:=some 3) (v:=?_) (a':=?_) #[J,J,J,J,J,J,J,J,J,J,J,J,J,J,J,J,J,J] rfl rfl (any_of HT_.out (by kernel_rfl)) (fun _ _ _ h=>h) (Or.inl ⟨by rfl,?_⟩) ?_ ?_
 rotate_left
 ·intro w'
  go_simp
  with_reducible rfl
 rotate_left
 ·simp only [Act.put,sT,sZ,sS,iW,iV]
  rfl
 refine done_ (done_of HT_.out (by kernel_rfl)) ?_
 try go_wp2
 go_ret2
 exact ⟨by first|rfl|(simp [errW_none,errW_some] <;> rfl)|(simp [*,errW_none,errW_some] <;> rfl),by repeat (first|(with_reducible first|exact HB.out|apply bL|apply pN|apply bE|refine bS ?_ GE115.out)|exact HB.out)⟩
-- NOT PRINTED: function 54 (strings_explode)
-- NOT PRINTED: function 82 (bytealg_IndexByteString)
-- NOT PRINTED: function 69 (stringslite_IndexByte)
-- NOT PRINTED: function 70 (bytealg_IndexString)
-- NOT PRINTED: function 71 (bytealg_Cutover)
-- NOT PRINTED: function 83 (bytealg_hashStr_string)
-- NOT PRINTED: function 72 (bytealg_IndexRabinKarp_string)
-- NOT PRINTED: function 57 (stringslite_Index)
-- NOT PRINTED: function 56 (strings_Index)
-- NOT PRINTED: function 68 (bytealg_CountString)
-- NOT PRINTED: function 38 (strings_genSplit)
def strings_Split.f (a0 a1 : ByteArray) : Option (List ByteArray):=if a0.size < 4294967281 then (if 1≤a1.size then some (Lib.splitB a1 0 (Lib.countB a0 a1) a0) else none) else none
theorem strings_Split.calls (a0 a1 : ByteArray) (r : List ByteArray) (w : World) (hG : Glob w) (h : strings_Split.f a0 a1 = some r) :
  Calls Tryd.prog 23 #[.string a0,.string a1] w fun e w'=>∃ v0_ : Value,e = .returned (v0_)∧Kd.R Kd.string 9 w' w.heap.size (fun _=>True) v0_ r∧Below w.heap.size w w':=by
 obtain ⟨m,hm⟩:=hG.maxlen
 unfold strings_Split.f at h
 split at h
 ·split at h
  ·rename_i hs h1
   obtain rfl:=Option.some.inj h
   have hlen:=Lib.splitB_all a1 h1 0 _ a0 rfl
   have hle:=Lib.countB_le a1 h1 a0.size a0 (Nat.le_refl _)
   refine (Tryd.strings_Split a0 a1 m w hs hm h1).mono ?_
   rintro e w' ⟨rfl,rfl⟩
   refine ⟨_,rfl,?_,bL (Below.refl _ _) _⟩
   have ho:=World.ownsRow_lit (base:=w.heap.size) (e:=9) (size:=1) w (((Lib.splitB a1 0 (Lib.countB a0 a1) a0).map Value.string).toArray) (Lib.splitB a1 0 (Lib.countB a0 a1) a0).length (Nat.le_refl _) (by rw [hlen];unfold maxLen;omega) (by simp)
   rw [← hlen]
   exact Kd.R_of_own (enc:=Value.string) (by simpa [encs] using ho) (fun _ _=>trivial)
  ·cases h
 ·cases h
-- NOT PRINTED: function 39 (stringslite_Cut)
def strings_Cut.f (a0 a1 : ByteArray) : Option (ByteArray × ByteArray × Bool):=if a0.size < 4294967281 then some ((⟨(Lib.cut a0.data.toList a1.data.toList).1.toArray⟩ : ByteArray),(⟨(Lib.cut a0.data.toList a1.data.toList).2.1.toArray⟩ : ByteArray),(Lib.cut a0.data.toList a1.data.toList).2.2) else none
theorem strings_Cut.calls (a0 a1 : ByteArray) (r1 r2 : ByteArray) (r3 : Bool) (w : World) (hG : Glob w) (h : strings_Cut.f a0 a1 = some (r1,r2,r3)) :
  Calls Tryd.prog 24 #[.string a0,.string a1] w fun e w'=>e = .returned (.tuple #[.string r1,.string r2,.bool r3])∧Below w.heap.size w w':=by
 obtain ⟨m,hm⟩:=hG.maxlen
 unfold strings_Cut.f at h
 split at h
 ·simp only [Option.some.injEq,Prod.mk.injEq] at h
  obtain ⟨rfl,rfl,rfl⟩:=h
  refine (Tryd.strings_Cut a0 a1 m w (by assumption) hm).mono ?_
  rintro e w' ⟨rfl,n,rfl⟩
  exact ⟨rfl,pN (Below.refl _ _) n⟩
 ·cases h
def slices_Index_string_string.l0 : Nat→List ByteArray→ByteArray→Int→Int→Option (Int)
 | 0,_,_,_,_=>none
 | k + 1,x0,x1,x7,x8=>if x8 < x7 then (if 0≤x8 then (if x8 < (x0.length : Int) then (if x1.toList = (rdOf ByteArray.empty x0 x8).toList then (some x8) else (slices_Index_string_string.l0 k x0 x1 x7 (wrap64 (x8 + 1)))) else (none)) else (none)) else (some (-1))
def slices_Index_string_string.f (k : Nat) (l0 : List ByteArray) (a1 : ByteArray) : Option (Int):=slices_Index_string_string.l0 k l0 a1 (l0.length : Int) 0
theorem slices_Index_string_string.mono_l : ∀ k,(∀ y0 y1 y2 y3,LeO (slices_Index_string_string.l0 k y0 y1 y2 y3) (slices_Index_string_string.l0 (k + 1) y0 y1 y2 y3))
 | 0=>fun _ _ _ _ r h=>by simp [slices_Index_string_string.l0] at h
 | k + 1=>by
  have ih0:=slices_Index_string_string.mono_l k
  ·intro y0 y1 y2 y3
   unfold slices_Index_string_string.l0
   repeat' first
   | (with_reducible exact ih0 _ _ _ _)
   | (with_reducible exact LeO.refl _)
   | (with_reducible exact LeO.none _)
   | (with_reducible refine LeO.ite ?_ ?_)
   | (with_reducible refine LeO.bind ?_ (fun _=>?_))
   | exact ih0 _ _ _ _
   | exact LeO.none _
   | refine LeO.ite ?_ ?_
   | refine LeO.bind ?_ (fun _=>?_)
theorem slices_Index_string_string.mono : ∀ a0 a1 k,LeO (slices_Index_string_string.f k a0 a1) (slices_Index_string_string.f (k + 1) a0 a1):=by
 intro a0 a1 k
 have ih0:=slices_Index_string_string.mono_l k
 unfold slices_Index_string_string.f
 repeat' first
   | (with_reducible exact ih0 _ _ _ _)
   | (with_reducible exact LeO.refl _)
   | (with_reducible exact LeO.none _)
   | (with_reducible refine LeO.ite ?_ ?_)
   | (with_reducible refine LeO.bind ?_ (fun _=>?_))
   | exact ih0 _ _ _ _
   | exact LeO.none _
   | refine LeO.ite ?_ ?_
   | refine LeO.bind ?_ (fun _=>?_)
set_option maxHeartbeats 8000000 in
set_option maxRecDepth 100000 in
theorem slices_Index_string_string.calls (k : Nat) (A0 : Option Addr) (c0 : Nat) (l0 : List ByteArray) (a1 : ByteArray) (r : Int) (w : World) (hr0 : Kd.C Kd.string w A0 l0.length l0) (hc0 : l0.length≤c0) (h : slices_Index_string_string.f k l0 a1 = some r) :
  Calls Tryd.prog 25 #[.slice A0 l0.length c0,.string a1] w fun e w'=>e = .returned (.int .i64 r)∧Drawn0 w w':=by
 have HR0:=Am hr0
 have HC0:=Am hc0
 clear hr0 hc0
 have H : (slices_Index_string_string.l0 k l0 a1 (l0.length : Int) 0) = some r:=h
 clear h
 have H':=Am H
 clear H
 go_enter Tryd.func25,Tryd.ntmps25
 go_wp2
 go_loopg [8] k (fun kq v8 w'=>∃ (x8_1 : Int),v8 = .int .i64 x8_1∧Aside0 (slices_Index_string_string.l0 kq l0 a1 (l0.length : Int) x8_1 = some r)∧Aside0 (kq≤k)∧Drawn0 w w')
 case atStart=>exact ⟨(0),(by first|rfl|(simp;done)|(simp [*];done)),H',⟨Nat.le_refl _⟩,by repeat (first|exact Drawn0.refl _|apply Drawn0.step)⟩
 case round =>
  clear H'
  obtain ⟨x8_1,rfl,HA,HK1,⟨m1,rfl⟩⟩:=hrel
  cases gk with
  | zero=>exact absurd HA.out (by simp [slices_Index_string_string.l0])
  | succ k1 =>
   have H:=HA.out
   clear HA
   simp only [slices_Index_string_string.l0] at H
   by_cases c3 : x8_1 < (l0.length : Int)
   rotate_left
   ·rw [if_neg c3] at H
    have c3b0 : decide (x8_1 < (l0.length : Int)) = false:=decide_eq_false c3
    clear c3
    obtain rfl:=Option.some.inj H
    go_wp2
    go_ret
    exact ⟨by first|rfl|(simp;done)|(simp [*];done),by repeat (first|exact Drawn0.refl _|apply Drawn0.step)⟩
   rw [if_pos c3] at H
   have c3b0 : decide (x8_1 < (l0.length : Int)) = true:=decide_eq_true c3
   clear c3
   by_cases c4 : 0≤x8_1
   rotate_left
   ·rw [if_neg c4] at H
    exact absurd H (by simp)
   rw [if_pos c4] at H
   have c4b0 : decide (0≤x8_1) = true:=decide_eq_true c4
   clear c4
   by_cases c5 : x8_1 < (l0.length : Int)
   rotate_left
   ·rw [if_neg c5] at H
    exact absurd H (by simp)
   rw [if_pos c5] at H
   have c5b0 : decide (x8_1 < (l0.length : Int)) = true:=decide_eq_true c5
   clear c5
   by_cases c6 : a1.toList = (rdOf ByteArray.empty l0 x8_1).toList
   ·rw [if_pos c6] at H
    have c6b0 : (a1.toList == (rdOf ByteArray.empty l0 x8_1).toList) = true:=beq_iff_eq.mpr c6
    have c6b1 : (a1.toList != (rdOf ByteArray.empty l0 x8_1).toList) = false:=bne_eq_false_iff_eq.mpr c6
    clear c6
    obtain rfl:=Option.some.inj H
    have p134 : 0≤(x8_1 : Int):=of_decide_eq_true (by first|(with_reducible assumption)|assumption)
    have q134 : x8_1 < (l0.length : Int):=of_decide_eq_true (by first|(with_reducible assumption)|assumption)
    obtain ⟨ad134,e134,hx134_0⟩:=Kd.at_string HR0.out x8_1 p134 q134
    cases e134
    replace p134:=eq_true p134
    replace q134:=eq_true q134
    go_wp2
    go_ret
    exact ⟨by first|rfl|(simp;done)|(simp [*];done),by repeat (first|exact Drawn0.refl _|apply Drawn0.step)⟩
   rw [if_neg c6] at H
   have c6b0 : (a1.toList == (rdOf ByteArray.empty l0 x8_1).toList) = false:=beq_eq_false_iff_ne.mpr c6
   have c6b1 : (a1.toList != (rdOf ByteArray.empty l0 x8_1).toList) = true:=bne_iff_ne.mpr c6
   have H':=Am H
   clear H
   have p134 : 0≤(x8_1 : Int):=of_decide_eq_true (by first|(with_reducible assumption)|assumption)
   have q134 : x8_1 < (l0.length : Int):=of_decide_eq_true (by first|(with_reducible assumption)|assumption)
   obtain ⟨ad134,e134,hx134_0⟩:=Kd.at_string HR0.out x8_1 p134 q134
   cases e134
   replace p134:=eq_true p134
   replace q134:=eq_true q134
   go_wp2
   go_roundg k1
   case measure=>have:=HK1.out;omega
   case rel=>exact ⟨(wrap64 (x8_1 + 1)),(by first|rfl|(simp;done)|(simp [*];done)),H',⟨by have:=HK1.out;omega⟩,by repeat (first|exact Drawn0.refl _|apply Drawn0.step)⟩
def digsT : Nat→ByteArray→Nat→Int→Option Int
 | 0,_,_,_=>none
 | k + 1,s,i,n=>if h : i < s.size then (if (s[i]'h).toNat < 48 ∨ 57 < (s[i]'h).toNat ∨ 13 < s.size then none else digsT k s (i + 1) (wrap64 (wrap64 (10 * n) + (((s[i]'h).toNat : Int) - 48)))) else some n
def book_number.f (a0 : ByteArray) : Option (Int × Bool):=match digsT (a0.size + 1) a0 0 0 with|none=>some (0,false)|some n=>(strconv_Itoa_20.f n).bind fun t=>some (n,a0.toList == t.toList)
set_option maxHeartbeats 4000000 in
set_option maxRecDepth 1000000 in
theorem book_number.calls (a0 : ByteArray) (r1 : Int) (r2 : Bool) (w : World) (hG : Glob w) (h : book_number.f a0 = some (r1,r2)) :
  Calls Tryd.prog 27 #[.string a0] w fun e w'=>e = .returned (.tuple #[.int .i64 r1,.bool r2])∧Below w.heap.size w w':=by
 have H : (match digsT (a0.size + 1) a0 0 0 with|none=>some (0,false)|some n=>(strconv_Itoa_20.f n).bind fun t=>some (n,a0.toList == t.toList)) = some (r1,r2):=h
 have HH:=Am H
 have HG:=Am hG
 clear H h hG
 have hres : ∀ pos,Below w.heap.size w (w.iter a0 pos):=fun pos=>bL (Below.refl _ _) _
 have HR:=Am hres
 clear hres
 go_enter Tryd.func27,Tryd.ntmps27
 go_wp2
 go_loopg [4] (a0.size + 1) (fun gk s2 wr=>∃ (pos : Nat) (n : Int),s2 = .int .i64 n∧wr = w.iter a0 pos∧pos≤a0.size∧a0.size + 1 = pos + gk∧Aside0 (digsT gk a0 pos n = digsT (a0.size + 1) a0 0 0))
 case atStart=>exact ⟨0,0,rfl,rfl,Nat.zero_le _,by omega,⟨rfl⟩⟩
 case round =>
  obtain ⟨pos,n,rfl,rfl,hp,hk,HD⟩:=hrel
  obtain ⟨k,rfl⟩ : ∃ k,gk = k + 1:=⟨gk - 1,by omega⟩
  by_cases hlt : pos < a0.size
  rotate_left
  ·have hnx : ∀ ty,(Instr.next (.pointer (some ⟨w.heap.size,0,none⟩)) true ty).run Tryd.prog (w.iter a0 pos) = _:=fun ty=>run_next_end w a0 pos ty hlt
   have hD:=HD.out
   rw [digsT,dif_neg hlt] at hD
   have HE:=HH.out
   rw [← hD] at HE
   have HE2:=oB HE
   obtain ⟨t,A10,HE3⟩:=HE2
   simp only [Option.some.injEq,Prod.mk.injEq] at HE3
   obtain ⟨rfl,hr2⟩:=HE3
   have A1:=Am A10
   have HB:=Am (HR.out pos)
   clear hD HE A10
   subst hr2
   go_wp2_with (first|(go_at_call 20;(with_reducible refine (strconv_Itoa_20.calls n t _ (Glob.below HG.out HB.out) A1.out).mono ?_);rintro e w2 ⟨rfl,hb⟩;have HB2:=Am (below_step HB.out hb);clear hb))
   go_ret2
   exact ⟨by first|rfl|simp [*],HB2.out⟩
  have hD:=HD.out
  rw [digsT,dif_pos hlt] at hD
  by_cases ha : (a0[pos]'hlt).toNat < 128
  rotate_left
  ·have hnx : ∀ ty,(Instr.next (.pointer (some ⟨w.heap.size,0,none⟩)) true ty).run Tryd.prog (w.iter a0 pos) = _:=fun ty=>run_next_any w a0 pos ty hlt
   have hh:=decode_high a0 pos hlt (by omega)
   obtain ⟨c,hc⟩ : ∃ c : Nat,(Utf8.decode a0 pos).1 = c:=⟨_,rfl⟩
   obtain ⟨p2,hp2⟩ : ∃ c : Nat,pos + (Utf8.decode a0 pos).2 = c:=⟨_,rfl⟩
   rw [hc,hp2] at hnx
   rw [hc] at hh
   rw [if_pos (by omega)] at hD
   have HE:=HH.out
   rw [← hD] at HE
   simp only [Option.some.injEq,Prod.mk.injEq] at HE
   obtain ⟨rfl,rfl⟩:=HE
   have hd1 : ¬ (c : Int) < 48:=by omega
   have hd2 : (57 : Int) < c:=by omega
   clear hD hc hp2 hh
   go_wp2
   go_ret2
   exact ⟨rfl,HR.out _⟩
  have hnx : ∀ ty,(Instr.next (.pointer (some ⟨w.heap.size,0,none⟩)) true ty).run Tryd.prog (w.iter a0 pos) = _:=fun ty=>run_next_ascii w a0 pos ty hlt ha
  obtain ⟨c,hc⟩ : ∃ c : Nat,(a0[pos]'hlt).toNat = c:=⟨_,rfl⟩
  rw [hc] at hD ha hnx
  clear hc
  by_cases hd : c < 48 ∨ 57 < c ∨ 13 < a0.size
  rotate_left
  ·rw [if_neg hd] at hD
   have HD2:=Am hD
   have hd1 : ¬ (c : Int) < 48:=by omega
   have hd2 : ¬ (57 : Int) < c:=by omega
   have hd3 : ¬ (13 : Int) < (a0.size : Int):=by omega
   have hw : IntKind.i32.wrap ((c : Int) - 48) = (c : Int) - 48:=by rw [IntKind.wrap_i32];omega
   clear hD
   go_wp2
   go_roundg k
   case measure=>omega
   case rel=>exact ⟨pos + 1,_,rfl,rfl,by omega,by omega,HD2⟩
  rw [if_pos hd] at hD
  have HE:=HH.out
  rw [← hD] at HE
  simp only [Option.some.injEq,Prod.mk.injEq] at HE
  obtain ⟨rfl,rfl⟩:=HE
  by_cases hd1 : (c : Int) < 48
  ·clear hD hd
   go_wp2
   go_ret2
   exact ⟨rfl,HR.out _⟩
  by_cases hd2 : (57 : Int) < c
  ·clear hD hd
   go_wp2
   go_ret2
   exact ⟨rfl,HR.out _⟩
  have hd3 : (13 : Int) < (a0.size : Int):=by omega
  clear hD hd
  go_wp2
  go_ret2
  exact ⟨rfl,HR.out _⟩
end Go.Proofs.YtakdneopmojjdaaDoor.P
