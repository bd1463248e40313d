/- cut to what one law reaches -/
import Derived.Test.YtgidipomfbikiaaDoorTwShort
import Derived.Test.YtgidipomfbikiaaDoorTwP0
import Derived.Test.YtgidipomfbikiaaDoorTwP6
namespace Go.Proofs.YtgidipomfbikiaaDoor.P
open Go.RowKit Go.Proofs.YtgidipomfbikiaaDoorW.PrintWords Go.Proofs.YtgidipomfbikiaaDoorW.PrintLast Go.Proofs.YtgidipomfbikiaaDoorW.PrintMore
attribute [local go_sem] max2_int min2_int max_two min_two max_three min_three max_four min_four   -- for this text's walks alone
set_option linter.unusedVariables false
set_option linter.unusedSimpArgs false
attribute [local go_sem] isSome_setCell
-- NOT PRINTED: function 80 (bytealg_IndexByteString)
-- NOT PRINTED: function 67 (stringslite_IndexByte)
-- NOT PRINTED: function 68 (bytealg_IndexString)
-- NOT PRINTED: function 69 (bytealg_Cutover)
-- NOT PRINTED: function 81 (bytealg_hashStr_string)
-- NOT PRINTED: function 70 (bytealg_IndexRabinKarp_string)
-- NOT PRINTED: function 56 (stringslite_Index)
-- NOT PRINTED: function 43 (stringslite_Cut)
def strings_Cut.f (a0 a1 : ByteArray) : Option (ByteArray × ByteArray × Bool):=if a0.size < 4294967281 then some ((⟨(Lib.cut a0.data.toList a1.data.toList).1.toArray⟩ : ByteArray),(⟨(Lib.cut a0.data.toList a1.data.toList).2.1.toArray⟩ : ByteArray),(Lib.cut a0.data.toList a1.data.toList).2.2) else none
theorem strings_Cut.calls (a0 a1 : ByteArray) (r1 r2 : ByteArray) (r3 : Bool) (w : World) (hG : Glob w) (h : strings_Cut.f a0 a1 = some (r1,r2,r3)) :
  Calls Tryd.prog 35 #[.string a0,.string a1] w fun e w'=>e = .returned (.tuple #[.string r1,.string r2,.bool r3])∧Below w.heap.size w w':=by
 obtain ⟨m,hm⟩:=hG.maxlen
 unfold strings_Cut.f at h
 split at h
 ·simp only [Option.some.injEq,Prod.mk.injEq] at h
  obtain ⟨rfl,rfl,rfl⟩:=h
  refine (Tryd.strings_Cut a0 a1 m w (by assumption) hm).mono ?_
  rintro e w' ⟨rfl,n,rfl⟩
  exact ⟨rfl,pN (Below.refl _ _) n⟩
 ·cases h
-- NOT PRINTED: function 44 (conf_first_1)
-- NOT PRINTED: function 45 (conf_first_2)
-- NOT PRINTED: function 46 (conf_first_3)
-- NOT PRINTED: function 47 (conf_first_4)
-- NOT PRINTED: function 82 (strings_explode)
-- NOT PRINTED: function 84 (strings_Index)
-- NOT PRINTED: function 87 (bytealg_CountString)
-- NOT PRINTED: function 71 (strings_genSplit)
def strings_Split.f (a0 a1 : ByteArray) : Option (List ByteArray):=if a0.size < 4294967281 then (if 1≤a1.size then some (Lib.splitB a1 0 (Lib.countB a0 a1) a0) else none) else none
theorem strings_Split.calls (a0 a1 : ByteArray) (r : List ByteArray) (w : World) (hG : Glob w) (h : strings_Split.f a0 a1 = some r) :
  Calls Tryd.prog 57 #[.string a0,.string a1] w fun e w'=>∃ v0_ : Value,e = .returned (v0_)∧Kd.R Kd.string 9 w' w.heap.size (fun _=>True) v0_ r∧Below w.heap.size w w':=by
 obtain ⟨m,hm⟩:=hG.maxlen
 unfold strings_Split.f at h
 split at h
 ·split at h
  ·rename_i hs h1
   obtain rfl:=Option.some.inj h
   have hlen:=Lib.splitB_all a1 h1 0 _ a0 rfl
   have hle:=Lib.countB_le a1 h1 a0.size a0 (Nat.le_refl _)
   refine (Tryd.strings_Split a0 a1 m w hs hm h1).mono ?_
   rintro e w' ⟨rfl,rfl⟩
   refine ⟨_,rfl,?_,bL (Below.refl _ _) _⟩
   have ho:=World.ownsRow_lit (base:=w.heap.size) (e:=9) (size:=1) w (((Lib.splitB a1 0 (Lib.countB a0 a1) a0).map Value.string).toArray) (Lib.splitB a1 0 (Lib.countB a0 a1) a0).length (Nat.le_refl _) (by rw [hlen];unfold maxLen;omega) (by simp)
   rw [← hlen]
   exact Kd.R_of_own (enc:=Value.string) (by simpa [encs] using ho) (fun _ _=>trivial)
  ·cases h
 ·cases h
def digsN : Nat→ByteArray→Nat→Int→Option Int
 | 0,_,_,_=>none
 | k + 1,s,i,n=>if h : i < s.size then (if (s[i]'h).toNat < 48 ∨ 57 < (s[i]'h).toNat ∨ 10 < s.size then none else digsN k s (i + 1) (wrap64 (wrap64 (10 * n) + (((s[i]'h).toNat : Int) - 48)))) else some n
def numB (s : ByteArray) : Bool:=if s.toList = [] then false else if s.toList = [48] then true else !decide (s.toList[0]? = some 48)
def conf_number.f (a0 : ByteArray) : Option (Int × Bool):=some (match digsN (a0.size + 1) a0 0 0 with|none=>(0,false)|some n=>(n,numB a0))
set_option maxHeartbeats 4000000 in
set_option maxRecDepth 1000000 in
theorem conf_number.calls (a0 : ByteArray) (r1 : Int) (r2 : Bool) (w : World) (h : conf_number.f a0 = some (r1,r2)) :
  Calls Tryd.prog 58 #[.string a0] w fun e w'=>e = .returned (.tuple #[.int .i64 r1,.bool r2])∧Below w.heap.size w w':=by
 have H : (match digsN (a0.size + 1) a0 0 0 with|none=>(0,false)|some n=>(n,numB a0)) = (r1,r2):=by injection h
 have HH:=Am H
 clear H h
 have hres : ∀ pos,Below w.heap.size w (w.iter a0 pos):=fun pos=>bL (Below.refl _ _) _
 have HR:=Am hres
 clear hres
 go_enter Tryd.func58,Tryd.ntmps58
 go_wp2
 go_loopg [2] (a0.size + 1) (fun gk s2 wr=>∃ (pos : Nat) (n : Int),s2 = .int .i64 n∧wr = w.iter a0 pos∧pos≤a0.size∧a0.size + 1 = pos + gk∧Aside0 (digsN gk a0 pos n = digsN (a0.size + 1) a0 0 0))
 case atStart=>exact ⟨0,0,rfl,rfl,Nat.zero_le _,by omega,⟨rfl⟩⟩
 case round =>
  obtain ⟨pos,n,rfl,rfl,hp,hk,HD⟩:=hrel
  obtain ⟨k,rfl⟩ : ∃ k,gk = k + 1:=⟨gk - 1,by omega⟩
  by_cases hlt : pos < a0.size
  rotate_left
  ·have hnx : ∀ ty,(Instr.next (.pointer (some ⟨w.heap.size,0,none⟩)) true ty).run Tryd.prog (w.iter a0 pos) = _:=fun ty=>run_next_end w a0 pos ty hlt
   have hD:=HD.out
   rw [digsN,dif_neg hlt] at hD
   have HE:=HH.out
   rw [← hD] at HE
   simp only [Prod.mk.injEq] at HE
   obtain ⟨rfl,hr2⟩:=HE
   clear hD
   unfold numB at hr2
   by_cases g0 : a0.toList = []
   ·have e0 : a0.toList.isEmpty = true:=by rw [g0];rfl
    rw [if_pos g0] at hr2
    subst hr2
    clear g0
    go_wp2
    go_ret2
    exact ⟨by first|rfl|simp [*],HR.out _⟩
   have e0 : a0.toList.isEmpty = false:=by
    cases hl : a0.toList with
    | nil=>exact absurd hl g0
    | cons _ _=>rfl
   rw [if_neg g0] at hr2
   by_cases g1 : a0.toList = [48]
   ·have e1 : (a0.toList == [48]) = true:=by rw [g1];rfl
    rw [if_pos g1] at hr2
    subst hr2
    clear g0 g1
    go_wp2
    go_ret2
    exact ⟨by first|rfl|simp [*],HR.out _⟩
   have e1 : (a0.toList == [48]) = false:=by simpa using g1
   rw [if_neg g1] at hr2
   have hs : 0 < a0.size:=by
    rcases Nat.eq_zero_or_pos a0.size with q|q
    ·exfalso;apply g0
     rw [ByteArray.toList_eq]
     exact List.length_eq_zero_iff.1 (by rw [Array.length_toList];exact q)
    ·exact q
   have e2 : (((a0[0]'hs).toNat : Int) != 48) = !decide (a0.toList[0]? = some 48):=by
    have e3 : a0.toList[0]? = some (a0[0]'hs):=by
     rw [ByteArray.toList_eq,Array.getElem?_toList]
     exact Array.getElem?_eq_getElem hs
    rw [e3]
    by_cases q : a0[0]'hs = 48
    ·rw [q];rfl
    rw [decide_eq_false (by simpa using q)]
    rw [bne_iff_ne.2];rfl
    intro z;apply q
    apply UInt8.toNat_inj.1
    show (a0[0]'hs).toNat = 48
    omega
   clear g0 g1
   obtain ⟨b,hb⟩ : ∃ b,(((a0[0]'hs).toNat : Int) != 48) = b:=⟨_,rfl⟩
   rw [← e2,hb] at hr2
   subst hr2
   clear e2
   go_wp2
   go_ret2
   exact ⟨by first|rfl|simp [*],HR.out _⟩
  have hD:=HD.out
  rw [digsN,dif_pos hlt] at hD
  by_cases ha : (a0[pos]'hlt).toNat < 128
  rotate_left
  ·have hnx : ∀ ty,(Instr.next (.pointer (some ⟨w.heap.size,0,none⟩)) true ty).run Tryd.prog (w.iter a0 pos) = _:=fun ty=>run_next_any w a0 pos ty hlt
   have hh:=decode_high a0 pos hlt (by omega)
   obtain ⟨c,hc⟩ : ∃ c : Nat,(Utf8.decode a0 pos).1 = c:=⟨_,rfl⟩
   obtain ⟨p2,hp2⟩ : ∃ c : Nat,pos + (Utf8.decode a0 pos).2 = c:=⟨_,rfl⟩
   rw [hc,hp2] at hnx
   rw [hc] at hh
   rw [if_pos (by omega)] at hD
   have HE:=HH.out
   rw [← hD] at HE
   simp only [Prod.mk.injEq] at HE
   obtain ⟨rfl,rfl⟩:=HE
   have hd1 : ¬ (c : Int) < 48:=by omega
   have hd2 : (57 : Int) < c:=by omega
   clear hD hc hp2 hh
   go_wp2
   go_ret2
   exact ⟨rfl,HR.out _⟩
  have hnx : ∀ ty,(Instr.next (.pointer (some ⟨w.heap.size,0,none⟩)) true ty).run Tryd.prog (w.iter a0 pos) = _:=fun ty=>run_next_ascii w a0 pos ty hlt ha
  obtain ⟨c,hc⟩ : ∃ c : Nat,(a0[pos]'hlt).toNat = c:=⟨_,rfl⟩
  rw [hc] at hD ha hnx
  clear hc
  by_cases hd : c < 48 ∨ 57 < c ∨ 10 < a0.size
  rotate_left
  ·rw [if_neg hd] at hD
   have HD2:=Am hD
   have hd1 : ¬ (c : Int) < 48:=by omega
   have hd2 : ¬ (57 : Int) < c:=by omega
   have hd3 : ¬ (10 : Int) < (a0.size : Int):=by omega
   have hw : IntKind.i32.wrap ((c : Int) - 48) = (c : Int) - 48:=by rw [IntKind.wrap_i32];omega
   clear hD
   go_wp2
   go_roundg k
   case measure=>omega
   case rel=>exact ⟨pos + 1,_,rfl,rfl,by omega,by omega,HD2⟩
  rw [if_pos hd] at hD
  have HE:=HH.out
  rw [← hD] at HE
  simp only [Prod.mk.injEq] at HE
  obtain ⟨rfl,rfl⟩:=HE
  by_cases hd1 : (c : Int) < 48
  ·clear hD hd
   go_wp2
   go_ret2
   exact ⟨rfl,HR.out _⟩
  by_cases hd2 : (57 : Int) < c
  ·clear hD hd
   go_wp2
   go_ret2
   exact ⟨rfl,HR.out _⟩
  have hd3 : (10 : Int) < (a0.size : Int):=by omega
  clear hD hd
  go_wp2
  go_ret2
  exact ⟨rfl,HR.out _⟩
def conf_form.l0 : Nat→List ByteArray→List Int→List ByteArray→List ByteArray→Int→Int→Option (List Int × List ByteArray × Bool)
 | 0,_,_,_,_,_,_=>none
 | k + 1,x8,x9,x10,x24,x25,x26=>if x26 < x25 then (if 0≤x26 then (if x26 < (x24.length : Int) then (if x26 < (x8.length : Int) then (if (rdOf ByteArray.empty x8 x26).toList = ([35] : List UInt8) then ((conf_number.f (rdOf ByteArray.empty x24 x26)).bind fun bt219=>(if bt219.2 = true then (if x9.length < 17592186044416 then (conf_form.l0 k x8 (x9 ++ [bt219.1]) x10 x24 x25 (wrap64 (x26 + 1))) else (none)) else (some (([] : List Int),([] : List ByteArray),false)))) else (if (rdOf ByteArray.empty x8 x26).toList = ([64] : List UInt8) then ((script_Name.f (rdOf ByteArray.empty x24 x26)).bind fun t224=>(if t224 = true then (if x10.length < 8796093022208 then (conf_form.l0 k x8 x9 (x10 ++ [rdOf ByteArray.empty x24 x26]) x24 x25 (wrap64 (x26 + 1))) else (none)) else (some (([] : List Int),([] : List ByteArray),false)))) else (if (rdOf ByteArray.empty x24 x26).toList = (rdOf ByteArray.empty x8 x26).toList then (conf_form.l0 k x8 x9 x10 x24 x25 (wrap64 (x26 + 1))) else (some (([] : List Int),([] : List ByteArray),false))))) else (none)) else (none)) else (none)) else (some (x9,x10,true))
def conf_form.f (k : Nat) (a0 : ByteArray) (a1 : ByteArray) : Option (List Int × List ByteArray × Bool):=(strings_Split.f a0 (⟨#[32]⟩ : ByteArray)).bind fun t211=>((strings_Split.f a1 (⟨#[32]⟩ : ByteArray)).bind fun t214=>(if (t211.length : Int) = (t214.length : Int) then (conf_form.l0 k t214 ([] : List Int) ([] : List ByteArray) t211 (t211.length : Int) 0) else (some (([] : List Int),([] : List ByteArray),false))))
theorem conf_form.mono_l : ∀ k,(∀ y0 y1 y2 y3 y4 y5,LeO (conf_form.l0 k y0 y1 y2 y3 y4 y5) (conf_form.l0 (k + 1) y0 y1 y2 y3 y4 y5))
 | 0=>fun _ _ _ _ _ _ r h=>by simp [conf_form.l0] at h
 | k + 1=>by
  have ih0:=conf_form.mono_l k
  ·intro y0 y1 y2 y3 y4 y5
   unfold conf_form.l0
   repeat' first
   | (with_reducible exact ih0 _ _ _ _ _ _)
   | (with_reducible exact LeO.refl _)
   | (with_reducible exact LeO.none _)
   | (with_reducible refine LeO.ite ?_ ?_)
   | (with_reducible refine LeO.bind ?_ (fun _=>?_))
   | exact ih0 _ _ _ _ _ _
   | exact LeO.none _
   | refine LeO.ite ?_ ?_
   | refine LeO.bind ?_ (fun _=>?_)
theorem conf_form.mono : ∀ a0 a1 k,LeO (conf_form.f k a0 a1) (conf_form.f (k + 1) a0 a1):=by
 intro a0 a1 k
 have ih0:=conf_form.mono_l k
 unfold conf_form.f
 repeat' first
   | (with_reducible exact ih0 _ _ _ _ _ _)
   | (with_reducible exact LeO.refl _)
   | (with_reducible exact LeO.none _)
   | (with_reducible refine LeO.ite ?_ ?_)
   | (with_reducible refine LeO.bind ?_ (fun _=>?_))
   | exact ih0 _ _ _ _ _ _
   | exact LeO.none _
   | refine LeO.ite ?_ ?_
   | refine LeO.bind ?_ (fun _=>?_)
set_option maxHeartbeats 8000000 in
set_option maxRecDepth 100000 in
theorem conf_form.calls (k : Nat) (a0 : ByteArray) (a1 : ByteArray) (r1 : List Int) (r2 : List ByteArray) (r3 : Bool) (w : World) (hG : Glob w) (h : conf_form.f k a0 a1 = some (r1,r2,r3)) :
  Calls Tryd.prog 48 #[.string a0,.string a1] w fun e w'=>∃ v0_ v1_ : Value,e = .returned (.tuple #[v0_,v1_,.bool r3])∧Kd.R (Kd.int .i64) 3 w' w.heap.size (fun _=>True) v0_ r1∧Kd.R Kd.string 9 w' w.heap.size (fun _=>True) v1_ r2∧Below w.heap.size w w':=by
 have HG:=Am hG
 clear hG
 have HB:=Am (Below.refl w.heap.size w)
 have H : ((strings_Split.f a0 (⟨#[32]⟩ : ByteArray)).bind fun t211=>((strings_Split.f a1 (⟨#[32]⟩ : ByteArray)).bind fun t214=>(if (t211.length : Int) = (t214.length : Int) then (conf_form.l0 k t214 ([] : List Int) ([] : List ByteArray) t211 (t211.length : Int) 0) else (some (([] : List Int),([] : List ByteArray),false))))) = some (r1,r2,r3):=h
 clear h
 replace H:=oB H
 obtain ⟨t211,A30,H⟩:=H
 try dsimp only at H
 have A3:=Am A30
 clear A30
 replace H:=oB H
 obtain ⟨t214,A40,H⟩:=H
 try dsimp only at H
 have A4:=Am A40
 clear A40
 by_cases c5 : (t211.length : Int) = (t214.length : Int)
 rotate_left
 ·rw [if_neg c5] at H
  have c5b0 : ((t211.length : Int) == (t214.length : Int)) = false:=beq_eq_false_iff_ne.mpr c5
  have c5b1 : ((t211.length : Int) != (t214.length : Int)) = true:=bne_iff_ne.mpr c5
  have c5b2 : (t211.length == t214.length) = false:=by first|simpa using c5|(simp at c5 ⊢;omega)
  simp only [Option.some.injEq,Prod.mk.injEq] at H
  obtain ⟨rfl,rfl,rfl⟩:=H
  go_enter Tryd.func48,Tryd.ntmps48
  go_wp2_with (first|((with_reducible refine gC (f:=57) rfl ?_);refine goesL_ (some 16) rfl rfl Tryd.func57 (by kernel_rfl) rfl #[.string a0,.string (⟨#[32]⟩ : ByteArray)] rfl (by (try simp only [mT,mC,mN]);first|done|rfl|(simp only [lD,lT];rfl)) ?_;(with_reducible refine (strings_Split.calls a0 (⟨#[32]⟩ : ByteArray) t211 _ ?side1 A3.out).mono ?_);(case side1=>exact Glob.below HG.out (by repeat (first|(with_reducible first|exact HB.out|apply bL|apply pN|apply bE)|exact HB.out)));rintro e w29 ⟨v212,rfl,ho0,hb⟩;refine ⟨_,rfl,?_⟩;have n0_:=Am (Kd.R_lower ho0 (bZ (by repeat (first|(with_reducible first|exact HB.out|apply bL|apply pN|apply bE)|exact HB.out))));have n1_:=Am (below_step (by repeat (first|(with_reducible first|exact HB.out|apply bL|apply pN|apply bE)|exact HB.out)) hb);clear HB;have HO213:=n0_;have HB:=n1_;clear n0_ n1_)|((with_reducible refine gC (f:=57) rfl ?_);refine goesL_ (some 18) rfl rfl Tryd.func57 (by kernel_rfl) rfl #[.string a1,.string (⟨#[32]⟩ : ByteArray)] rfl (by (try simp only [mT,mC,mN]);first|done|rfl|(simp only [lD,lT];rfl)) ?_;(with_reducible refine (strings_Split.calls a1 (⟨#[32]⟩ : ByteArray) t214 _ ?side1 A4.out).mono ?_);(case side1=>exact Glob.below HG.out (by repeat (first|(with_reducible first|exact HB.out|apply bL|apply pN|apply bE)|exact HB.out)));rintro e w30 ⟨v215,rfl,ho0,hb⟩;refine ⟨_,rfl,?_⟩;have n0_:=Am (Kd.R_elder' (by (with_reducible repeat (first|apply Kd.R_alloc|apply Kd.R_drewN|apply Kd.R_drew));exact HO213.out) (Kd.R_base ho0) hb);have n1_:=Am (Kd.R_lower (Kd.R_new' ho0 (Kd.R_lt (by (with_reducible repeat (first|apply Kd.R_alloc|apply Kd.R_drewN|apply Kd.R_drew));exact HO213.out))) (bZ (by repeat (first|(with_reducible first|exact HB.out|apply bL|apply pN|apply bE)|exact HB.out))));have n2_:=Am (below_step (by repeat (first|(with_reducible first|exact HB.out|apply bL|apply pN|apply bE)|exact HB.out)) hb);clear HO213;clear HB;have HO213:=n0_;have HO216:=n1_;have HB:=n2_;clear n0_ n1_ n2_;obtain ⟨Ao31,co31,eo31⟩:=Kd.R_slice HO213.out;subst eo31;obtain ⟨Ao32,co32,eo32⟩:=Kd.R_slice HO216.out;subst eo32))
  go_ret3
  exact ⟨_,_,by first|rfl|(simp [errW_none,errW_some] <;> rfl)|(simp [*,errW_none,errW_some] <;> rfl),by first|exact Kd.R_nil _ _ _ _ _|exact Kd.N_nil _ _ _ _ _|exact Kd.V_nil _ _ _ _ _|exact Kd.Q_nil _ _ _ _ _|exact Kd.S_nil _ _ _ _ _,by first|exact Kd.R_nil _ _ _ _ _|exact Kd.N_nil _ _ _ _ _|exact Kd.V_nil _ _ _ _ _|exact Kd.Q_nil _ _ _ _ _|exact Kd.S_nil _ _ _ _ _,by repeat (first|(with_reducible first|exact HB.out|apply bL|apply pN|apply bE)|exact HB.out)⟩
 rw [if_pos c5] at H
 have c5b0 : ((t211.length : Int) == (t214.length : Int)) = true:=beq_iff_eq.mpr c5
 have c5b1 : ((t211.length : Int) != (t214.length : Int)) = false:=bne_eq_false_iff_eq.mpr c5
 have c5b2 : (t211.length == t214.length) = true:=by first|simpa using c5|(simp at c5 ⊢;omega)
 clear c5
 have H':=Am H
 clear H
 go_enter Tryd.func48,Tryd.ntmps48
 go_wp2_with (first|((with_reducible refine gC (f:=57) rfl ?_);refine goesL_ (some 16) rfl rfl Tryd.func57 (by kernel_rfl) rfl #[.string a0,.string (⟨#[32]⟩ : ByteArray)] rfl (by (try simp only [mT,mC,mN]);first|done|rfl|(simp only [lD,lT];rfl)) ?_;(with_reducible refine (strings_Split.calls a0 (⟨#[32]⟩ : ByteArray) t211 _ ?side1 A3.out).mono ?_);(case side1=>exact Glob.below HG.out (by repeat (first|(with_reducible first|exact HB.out|apply bL|apply pN|apply bE)|exact HB.out)));rintro e w6 ⟨v212,rfl,ho0,hb⟩;refine ⟨_,rfl,?_⟩;have n0_:=Am (Kd.R_lower ho0 (bZ (by repeat (first|(with_reducible first|exact HB.out|apply bL|apply pN|apply bE)|exact HB.out))));have n1_:=Am (below_step (by repeat (first|(with_reducible first|exact HB.out|apply bL|apply pN|apply bE)|exact HB.out)) hb);clear HB;have HO213:=n0_;have HB:=n1_;clear n0_ n1_)|((with_reducible refine gC (f:=57) rfl ?_);refine goesL_ (some 18) rfl rfl Tryd.func57 (by kernel_rfl) rfl #[.string a1,.string (⟨#[32]⟩ : ByteArray)] rfl (by (try simp only [mT,mC,mN]);first|done|rfl|(simp only [lD,lT];rfl)) ?_;(with_reducible refine (strings_Split.calls a1 (⟨#[32]⟩ : ByteArray) t214 _ ?side1 A4.out).mono ?_);(case side1=>exact Glob.below HG.out (by repeat (first|(with_reducible first|exact HB.out|apply bL|apply pN|apply bE)|exact HB.out)));rintro e w7 ⟨v215,rfl,ho0,hb⟩;refine ⟨_,rfl,?_⟩;have n0_:=Am (Kd.R_elder' (by (with_reducible repeat (first|apply Kd.R_alloc|apply Kd.R_drewN|apply Kd.R_drew));exact HO213.out) (Kd.R_base ho0) hb);have n1_:=Am (Kd.R_lower (Kd.R_new' ho0 (Kd.R_lt (by (with_reducible repeat (first|apply Kd.R_alloc|apply Kd.R_drewN|apply Kd.R_drew));exact HO213.out))) (bZ (by repeat (first|(with_reducible first|exact HB.out|apply bL|apply pN|apply bE)|exact HB.out))));have n2_:=Am (below_step (by repeat (first|(with_reducible first|exact HB.out|apply bL|apply pN|apply bE)|exact HB.out)) hb);clear HO213;clear HB;have HO213:=n0_;have HO216:=n1_;have HB:=n2_;clear n0_ n1_ n2_;obtain ⟨Ao8,co8,eo8⟩:=Kd.R_slice HO213.out;subst eo8;obtain ⟨Ao9,co9,eo9⟩:=Kd.R_slice HO216.out;subst eo9))
 go_loopg [9,10,26] k (fun kq v9 v10 v26 w'=>∃ (x9_1 : List Int) (x10_1 : List ByteArray) (x26_1 : Int),v26 = .int .i64 x26_1∧Aside0 (conf_form.l0 kq t214 x9_1 x10_1 t211 (t211.length : Int) x26_1 = some (r1,r2,r3))∧Aside0 (kq≤k)∧Aside0 (Kd.R Kd.string 9 w' w.heap.size (fun k_=>some k_ ≠ (v10 : Value).ownBlock∧some k_ ≠ ((.slice Ao8 t211.length co8) : Value).ownBlock) (.slice Ao9 t214.length co9) t214)∧Aside0 (Kd.R (Kd.int .i64) 3 w' w.heap.size (fun _=>True) v9 x9_1)∧Aside0 (Kd.R Kd.string 9 w' w.heap.size (fun k_=>some k_ ≠ ((.slice Ao9 t214.length co9) : Value).ownBlock∧some k_ ≠ ((.slice Ao8 t211.length co8) : Value).ownBlock) v10 x10_1)∧Aside0 (Kd.R Kd.string 9 w' w.heap.size (fun k_=>some k_ ≠ ((.slice Ao9 t214.length co9) : Value).ownBlock∧some k_ ≠ (v10 : Value).ownBlock) (.slice Ao8 t211.length co8) t211)∧Aside0 (Below w.heap.size w w'))
 case atStart=>exact ⟨(([] : List Int)),(([] : List ByteArray)),(0),(by first|rfl|(simp;done)|(simp [*];done)),H',⟨Nat.le_refl _⟩,⟨by (with_reducible repeat (first|apply Kd.R_alloc|apply Kd.R_drewN|apply Kd.R_drew));exact Kd.R_mono HO216.out (fun _ hk=>⟨(by simp [Value.ownBlock]),hk.2⟩)⟩,⟨by first|exact Kd.R_nil _ _ _ _ _|exact Kd.N_nil _ _ _ _ _|exact Kd.V_nil _ _ _ _ _|exact Kd.Q_nil _ _ _ _ _|exact Kd.S_nil _ _ _ _ _⟩,⟨by first|exact Kd.R_nil _ _ _ _ _|exact Kd.N_nil _ _ _ _ _|exact Kd.V_nil _ _ _ _ _|exact Kd.Q_nil _ _ _ _ _|exact Kd.S_nil _ _ _ _ _⟩,⟨by (with_reducible repeat (first|apply Kd.R_alloc|apply Kd.R_drewN|apply Kd.R_drew));exact Kd.R_mono HO213.out (fun _ hk=>⟨hk.2,(by simp [Value.ownBlock])⟩)⟩,⟨by repeat (first|(with_reducible first|exact HB.out|apply bL|apply pN|apply bE)|exact HB.out)⟩⟩
 case round =>
  clear H'
  obtain ⟨x9_1,x10_1,x26_1,rfl,HA,HK1,HO_8,HO_9,HO_10,HO_24,HB⟩:=hrel
  cases gk with
  | zero=>exact absurd HA.out (by simp [conf_form.l0])
  | succ k1 =>
   have H:=HA.out
   clear HA
   simp only [conf_form.l0] at H
   by_cases c10 : x26_1 < (t211.length : Int)
   rotate_left
   ·rw [if_neg c10] at H
    have c10b0 : decide (x26_1 < (t211.length : Int)) = false:=decide_eq_false c10
    clear c10
    simp only [Option.some.injEq,Prod.mk.injEq] at H
    obtain ⟨rfl,rfl,rfl⟩:=H
    go_wp2
    go_ret3
    exact ⟨_,_,by first|rfl|(simp [errW_none,errW_some] <;> rfl)|(simp [*,errW_none,errW_some] <;> rfl),by (with_reducible repeat (first|apply Kd.R_alloc|apply Kd.R_drewN|apply Kd.R_drew));exact HO_9.out,by (with_reducible repeat (first|apply Kd.R_alloc|apply Kd.R_drewN|apply Kd.R_drew));exact Kd.R_mono HO_10.out (fun _ hk=>trivial),by repeat (first|(with_reducible first|exact HB.out|apply bL|apply pN|apply bE)|exact HB.out)⟩
   rw [if_pos c10] at H
   have c10b0 : decide (x26_1 < (t211.length : Int)) = true:=decide_eq_true c10
   clear c10
   by_cases c11 : 0≤x26_1
   rotate_left
   ·rw [if_neg c11] at H
    exact absurd H (by simp)
   rw [if_pos c11] at H
   have c11b0 : decide (0≤x26_1) = true:=decide_eq_true c11
   clear c11
   by_cases c12 : x26_1 < (t211.length : Int)
   rotate_left
   ·rw [if_neg c12] at H
    exact absurd H (by simp)
   rw [if_pos c12] at H
   have c12b0 : decide (x26_1 < (t211.length : Int)) = true:=decide_eq_true c12
   clear c12
   by_cases c13 : x26_1 < (t214.length : Int)
   rotate_left
   ·rw [if_neg c13] at H
    exact absurd H (by simp)
   rw [if_pos c13] at H
   have c13b0 : decide (x26_1 < (t214.length : Int)) = true:=decide_eq_true c13
   clear c13
   by_cases c14 : (rdOf ByteArray.empty t214 x26_1).toList = ([35] : List UInt8)
   ·rw [if_pos c14] at H
    have c14b0 : ((rdOf ByteArray.empty t214 x26_1).toList == ([35] : List UInt8)) = true:=beq_iff_eq.mpr c14
    have c14b1 : ((rdOf ByteArray.empty t214 x26_1).toList != ([35] : List UInt8)) = false:=bne_eq_false_iff_eq.mpr c14
    clear c14
    replace H:=oB H
    obtain ⟨⟨t219,t220⟩,A150,H⟩:=H
    replace H : (if t220 = true then (if x9_1.length < 17592186044416 then (conf_form.l0 k1 t214 (x9_1 ++ [t219]) x10_1 t211 (t211.length : Int) (wrap64 (x26_1 + 1))) else (none)) else (some (([] : List Int),([] : List ByteArray),false))) = some (r1,r2,r3):=H
    have A15:=Am A150
    clear A150
    by_cases c16 : t220 = true
    rotate_left
    ·replace c16:=Bool.eq_false_iff.mpr c16
     subst c16
     have H1 : (some (([] : List Int),([] : List ByteArray),false)) = some (r1,r2,r3):=by rw [if_neg (show ¬ (false = true) by decide)] at H;exact H
     clear H
     have H:=H1
     clear H1
     simp only [Option.some.injEq,Prod.mk.injEq] at H
     obtain ⟨rfl,rfl,rfl⟩:=H
     have p217 : 0≤(x26_1 : Int):=of_decide_eq_true (by first|(with_reducible assumption)|assumption)
     have q217 : x26_1 < (t211.length : Int):=of_decide_eq_true (by first|(with_reducible assumption)|assumption)
     obtain ⟨ad217,e217,hx217_0⟩:=Kd.at_string (Kd.R_reads' HO_24.out).2.2 x26_1 p217 q217
     cases e217
     replace p217:=eq_true p217
     replace q217:=eq_true q217
     have p218 : 0≤(x26_1 : Int):=of_decide_eq_true (by first|(with_reducible assumption)|assumption)
     have q218 : x26_1 < (t214.length : Int):=of_decide_eq_true (by first|(with_reducible assumption)|assumption)
     obtain ⟨ad218,e218,hx218_0⟩:=Kd.at_string (Kd.R_reads' HO_8.out).2.2 x26_1 p218 q218
     cases e218
     replace p218:=eq_true p218
     replace q218:=eq_true q218
     go_wp2_with (first|((with_reducible refine gC (f:=58) rfl ?_);refine goesL_ (some 45) rfl rfl Tryd.func58 (by kernel_rfl) rfl #[.string (rdOf ByteArray.empty t211 x26_1)] rfl (by (try simp only [mT,mC,mN]);first|done|rfl|(simp only [lD,lT];rfl)) ?_;(with_reducible refine (conf_number.calls (rdOf ByteArray.empty t211 x26_1) t219 false _ A15.out).mono ?_);rintro e w20 ⟨rfl,hb⟩;refine ⟨_,rfl,?_⟩;have n0_:=Am (Kd.R_below (by (with_reducible repeat (first|apply Kd.R_alloc|apply Kd.R_drewN|apply Kd.R_drew));exact HO_8.out) hb);have n1_:=Am (Kd.R_below (by (with_reducible repeat (first|apply Kd.R_alloc|apply Kd.R_drewN|apply Kd.R_drew));exact HO_9.out) hb);have n2_:=Am (Kd.R_below (by (with_reducible repeat (first|apply Kd.R_alloc|apply Kd.R_drewN|apply Kd.R_drew));exact HO_10.out) hb);have n3_:=Am (Kd.R_below (by (with_reducible repeat (first|apply Kd.R_alloc|apply Kd.R_drewN|apply Kd.R_drew));exact HO_24.out) hb);have n4_:=Am (below_step (by repeat (first|(with_reducible first|exact HB.out|apply bL|apply pN|apply bE)|exact HB.out)) hb);clear HO_8;clear HO_9;clear HO_10;clear HO_24;clear HB;have HO_8:=n0_;have HO_9:=n1_;have HO_10:=n2_;have HO_24:=n3_;have HB:=n4_;clear n0_ n1_ n2_ n3_ n4_))
     go_ret3
     exact ⟨_,_,by first|rfl|(simp [errW_none,errW_some] <;> rfl)|(simp [*,errW_none,errW_some] <;> rfl),by first|exact Kd.R_nil _ _ _ _ _|exact Kd.N_nil _ _ _ _ _|exact Kd.V_nil _ _ _ _ _|exact Kd.Q_nil _ _ _ _ _|exact Kd.S_nil _ _ _ _ _,by first|exact Kd.R_nil _ _ _ _ _|exact Kd.N_nil _ _ _ _ _|exact Kd.V_nil _ _ _ _ _|exact Kd.Q_nil _ _ _ _ _|exact Kd.S_nil _ _ _ _ _,by repeat (first|(with_reducible first|exact HB.out|apply bL|apply pN|apply bE)|exact HB.out)⟩
    subst c16
    have H1 : (if x9_1.length < 17592186044416 then (conf_form.l0 k1 t214 (x9_1 ++ [t219]) x10_1 t211 (t211.length : Int) (wrap64 (x26_1 + 1))) else (none)) = some (r1,r2,r3):=by rw [if_pos rfl] at H;exact H
    clear H
    have H:=H1
    clear H1
    by_cases c17 : x9_1.length < 17592186044416
    rotate_left
    ·rw [if_neg c17] at H
     exact absurd H (by simp)
    rw [if_pos c17] at H
    have LMc17:=Am c17
    clear c17
    obtain ⟨y221,hy221⟩ : ∃ y_ : List Int,y_ = (x9_1 ++ [t219]):=⟨_,rfl⟩
    replace H : (conf_form.l0 k1 t214 y221 x10_1 t211 (t211.length : Int) (wrap64 (x26_1 + 1))) = some (r1,r2,r3):=by first|(rw [hy221];with_reducible exact H)|(have H2_:=(Option.bind_some _ _).symm.trans H;rw [hy221];with_reducible exact H2_)|(have H2_:=(Option.bind_some _ _).symm.trans H;with_reducible exact H2_)|with_reducible exact H|(rw [hy221];exact H)|exact H
    have Ny221:=Am hy221
    clear hy221
    have H':=Am H
    clear H
    have p217 : 0≤(x26_1 : Int):=of_decide_eq_true (by first|(with_reducible assumption)|assumption)
    have q217 : x26_1 < (t211.length : Int):=of_decide_eq_true (by first|(with_reducible assumption)|assumption)
    obtain ⟨ad217,e217,hx217_0⟩:=Kd.at_string (Kd.R_reads' HO_24.out).2.2 x26_1 p217 q217
    cases e217
    replace p217:=eq_true p217
    replace q217:=eq_true q217
    have p218 : 0≤(x26_1 : Int):=of_decide_eq_true (by first|(with_reducible assumption)|assumption)
    have q218 : x26_1 < (t214.length : Int):=of_decide_eq_true (by first|(with_reducible assumption)|assumption)
    obtain ⟨ad218,e218,hx218_0⟩:=Kd.at_string (Kd.R_reads' HO_8.out).2.2 x26_1 p218 q218
    cases e218
    replace p218:=eq_true p218
    replace q218:=eq_true q218
    go_wp2_with (first|((with_reducible refine gC (f:=58) rfl ?_);refine goesL_ (some 45) rfl rfl Tryd.func58 (by kernel_rfl) rfl #[.string (rdOf ByteArray.empty t211 x26_1)] rfl (by (try simp only [mT,mC,mN]);first|done|rfl|(simp only [lD,lT];rfl)) ?_;(with_reducible refine (conf_number.calls (rdOf ByteArray.empty t211 x26_1) t219 true _ A15.out).mono ?_);rintro e w18 ⟨rfl,hb⟩;refine ⟨_,rfl,?_⟩;have n0_:=Am (Kd.R_below (by (with_reducible repeat (first|apply Kd.R_alloc|apply Kd.R_drewN|apply Kd.R_drew));exact HO_8.out) hb);have n1_:=Am (Kd.R_below (by (with_reducible repeat (first|apply Kd.R_alloc|apply Kd.R_drewN|apply Kd.R_drew));exact HO_9.out) hb);have n2_:=Am (Kd.R_below (by (with_reducible repeat (first|apply Kd.R_alloc|apply Kd.R_drewN|apply Kd.R_drew));exact HO_10.out) hb);have n3_:=Am (Kd.R_below (by (with_reducible repeat (first|apply Kd.R_alloc|apply Kd.R_drewN|apply Kd.R_drew));exact HO_24.out) hb);have n4_:=Am (below_step (by repeat (first|(with_reducible first|exact HB.out|apply bL|apply pN|apply bE)|exact HB.out)) hb);clear HO_8;clear HO_9;clear HO_10;clear HO_24;clear HB;have HO_8:=n0_;have HO_9:=n1_;have HO_10:=n2_;have HO_24:=n3_;have HB:=n4_;clear n0_ n1_ n2_ n3_ n4_)|((with_reducible refine gate_builtin (b:=.append) (xs:=#[.tmp 50,.tmp 52]) rfl ?_);at_builtin;refine Kd.R_append (Kd.int .i64) (w0:=w) w.heap.size rfl (.tmp 50) (.tmp 52) 43 3 (.int .i64 0) 8 rfl Tryd.underlying43 info3 rfl (by decide) (by omega) u9 x9_1 t219 [.int .i64 t219] (fun _=>True) (fun _=>False) rfl rfl ?aP (fun _ hk=>hk.elim) ?aF ?aO ?aB ?aS ?aL ?_;(case aP=>exact rfl);(case aB=>exact (by repeat (first|(with_reducible first|exact HB.out|apply bL|apply pN|apply bE)|exact HB.out)));(case aF=>exact (fun _ _=>trivial));(case aO=>exact (by (with_reducible repeat (first|apply Kd.R_alloc|apply Kd.R_drewN|apply Kd.R_drew));exact HO_9.out));(case aS=>exact (bZ (by repeat (first|(with_reducible first|exact HB.out|apply bL|apply pN|apply bE)|exact HB.out))));(case aL=>have:=LMc17.out;omega);intro v222 w19 ho hb hg hat;rw [← Ny221.out] at ho;have n0_:=Am (Kd.R_over' (by (with_reducible repeat (first|apply Kd.R_alloc|apply Kd.R_drewN|apply Kd.R_drew));exact HO_8.out) (Kd.R_typed (by (with_reducible repeat (first|apply Kd.R_alloc|apply Kd.R_drewN|apply Kd.R_drew));exact HO_9.out)) (by decide) hg);have n1_:=Am (Kd.R_over' (by (with_reducible repeat (first|apply Kd.R_alloc|apply Kd.R_drewN|apply Kd.R_drew));exact HO_10.out) (Kd.R_typed (by (with_reducible repeat (first|apply Kd.R_alloc|apply Kd.R_drewN|apply Kd.R_drew));exact HO_9.out)) (by decide) hg);have n2_:=Am (Kd.R_over' (by (with_reducible repeat (first|apply Kd.R_alloc|apply Kd.R_drewN|apply Kd.R_drew));exact HO_24.out) (Kd.R_typed (by (with_reducible repeat (first|apply Kd.R_alloc|apply Kd.R_drewN|apply Kd.R_drew));exact HO_9.out)) (by decide) hg);have n3_:=Am (hb);have n4_:=Am (ho);clear HO_8;clear HO_10;clear HO_24;clear HB;clear HO_9;have HO_8:=n0_;have HO_10:=n1_;have HO_24:=n2_;have HB:=n3_;have HO223:=n4_;clear n0_ n1_ n2_ n3_ n4_;clear ho hb hg hat))
    go_roundg k1
    case measure=>have:=HK1.out;omega
    case rel=>exact ⟨(y221),(x10_1),(wrap64 (x26_1 + 1)),(by first|rfl|(simp;done)|(simp [*];done)),H',⟨by have:=HK1.out;omega⟩,⟨by (with_reducible repeat (first|apply Kd.R_alloc|apply Kd.R_drewN|apply Kd.R_drew));exact HO_8.out⟩,⟨by (with_reducible repeat (first|apply Kd.R_alloc|apply Kd.R_drewN|apply Kd.R_drew));exact HO223.out⟩,⟨by (with_reducible repeat (first|apply Kd.R_alloc|apply Kd.R_drewN|apply Kd.R_drew));exact HO_10.out⟩,⟨by (with_reducible repeat (first|apply Kd.R_alloc|apply Kd.R_drewN|apply Kd.R_drew));exact HO_24.out⟩,⟨by repeat (first|(with_reducible first|exact HB.out|apply bL|apply pN|apply bE)|exact HB.out)⟩⟩
   rw [if_neg c14] at H
   have c14b0 : ((rdOf ByteArray.empty t214 x26_1).toList == ([35] : List UInt8)) = false:=beq_eq_false_iff_ne.mpr c14
   have c14b1 : ((rdOf ByteArray.empty t214 x26_1).toList != ([35] : List UInt8)) = true:=bne_iff_ne.mpr c14
   by_cases c21 : (rdOf ByteArray.empty t214 x26_1).toList = ([64] : List UInt8)
   rotate_left
   ·rw [if_neg c21] at H
    have c21b0 : ((rdOf ByteArray.empty t214 x26_1).toList == ([64] : List UInt8)) = false:=beq_eq_false_iff_ne.mpr c21
    have c21b1 : ((rdOf ByteArray.empty t214 x26_1).toList != ([64] : List UInt8)) = true:=bne_iff_ne.mpr c21
    by_cases c28 : (rdOf ByteArray.empty t211 x26_1).toList = (rdOf ByteArray.empty t214 x26_1).toList
    rotate_left
    ·rw [if_neg c28] at H
     have c28b0 : ((rdOf ByteArray.empty t211 x26_1).toList == (rdOf ByteArray.empty t214 x26_1).toList) = false:=beq_eq_false_iff_ne.mpr c28
     have c28b1 : ((rdOf ByteArray.empty t211 x26_1).toList != (rdOf ByteArray.empty t214 x26_1).toList) = true:=bne_iff_ne.mpr c28
     simp only [Option.some.injEq,Prod.mk.injEq] at H
     obtain ⟨rfl,rfl,rfl⟩:=H
     have p217 : 0≤(x26_1 : Int):=of_decide_eq_true (by first|(with_reducible assumption)|assumption)
     have q217 : x26_1 < (t211.length : Int):=of_decide_eq_true (by first|(with_reducible assumption)|assumption)
     obtain ⟨ad217,e217,hx217_0⟩:=Kd.at_string (Kd.R_reads' HO_24.out).2.2 x26_1 p217 q217
     cases e217
     replace p217:=eq_true p217
     replace q217:=eq_true q217
     have p218 : 0≤(x26_1 : Int):=of_decide_eq_true (by first|(with_reducible assumption)|assumption)
     have q218 : x26_1 < (t214.length : Int):=of_decide_eq_true (by first|(with_reducible assumption)|assumption)
     obtain ⟨ad218,e218,hx218_0⟩:=Kd.at_string (Kd.R_reads' HO_8.out).2.2 x26_1 p218 q218
     cases e218
     replace p218:=eq_true p218
     replace q218:=eq_true q218
     have p228 : 0≤(x26_1 : Int):=of_decide_eq_true (by first|(with_reducible assumption)|assumption)
     have q228 : x26_1 < (t214.length : Int):=of_decide_eq_true (by first|(with_reducible assumption)|assumption)
     obtain ⟨ad228,e228,hx228_0⟩:=Kd.at_string (Kd.R_reads' HO_8.out).2.2 x26_1 p228 q228
     obtain rfl : ad218 = ad228:=(by injection e228)
     replace p228:=eq_true p228
     replace q228:=eq_true q228
     go_wp2
     go_ret3
     exact ⟨_,_,by first|rfl|(simp [errW_none,errW_some] <;> rfl)|(simp [*,errW_none,errW_some] <;> rfl),by first|exact Kd.R_nil _ _ _ _ _|exact Kd.N_nil _ _ _ _ _|exact Kd.V_nil _ _ _ _ _|exact Kd.Q_nil _ _ _ _ _|exact Kd.S_nil _ _ _ _ _,by first|exact Kd.R_nil _ _ _ _ _|exact Kd.N_nil _ _ _ _ _|exact Kd.V_nil _ _ _ _ _|exact Kd.Q_nil _ _ _ _ _|exact Kd.S_nil _ _ _ _ _,by repeat (first|(with_reducible first|exact HB.out|apply bL|apply pN|apply bE)|exact HB.out)⟩
    rw [if_pos c28] at H
    have c28b0 : ((rdOf ByteArray.empty t211 x26_1).toList == (rdOf ByteArray.empty t214 x26_1).toList) = true:=beq_iff_eq.mpr c28
    have c28b1 : ((rdOf ByteArray.empty t211 x26_1).toList != (rdOf ByteArray.empty t214 x26_1).toList) = false:=bne_eq_false_iff_eq.mpr c28
    clear c28
    have H':=Am H
    clear H
    have p217 : 0≤(x26_1 : Int):=of_decide_eq_true (by first|(with_reducible assumption)|assumption)
    have q217 : x26_1 < (t211.length : Int):=of_decide_eq_true (by first|(with_reducible assumption)|assumption)
    obtain ⟨ad217,e217,hx217_0⟩:=Kd.at_string (Kd.R_reads' HO_24.out).2.2 x26_1 p217 q217
    cases e217
    replace p217:=eq_true p217
    replace q217:=eq_true q217
    have p218 : 0≤(x26_1 : Int):=of_decide_eq_true (by first|(with_reducible assumption)|assumption)
    have q218 : x26_1 < (t214.length : Int):=of_decide_eq_true (by first|(with_reducible assumption)|assumption)
    obtain ⟨ad218,e218,hx218_0⟩:=Kd.at_string (Kd.R_reads' HO_8.out).2.2 x26_1 p218 q218
    cases e218
    replace p218:=eq_true p218
    replace q218:=eq_true q218
    have p228 : 0≤(x26_1 : Int):=of_decide_eq_true (by first|(with_reducible assumption)|assumption)
    have q228 : x26_1 < (t214.length : Int):=of_decide_eq_true (by first|(with_reducible assumption)|assumption)
    obtain ⟨ad228,e228,hx228_0⟩:=Kd.at_string (Kd.R_reads' HO_8.out).2.2 x26_1 p228 q228
    obtain rfl : ad218 = ad228:=(by injection e228)
    replace p228:=eq_true p228
    replace q228:=eq_true q228
    go_wp2
    go_roundg k1
    case measure=>have:=HK1.out;omega
    case rel=>exact ⟨(x9_1),(x10_1),(wrap64 (x26_1 + 1)),(by first|rfl|(simp;done)|(simp [*];done)),H',⟨by have:=HK1.out;omega⟩,⟨by (with_reducible repeat (first|apply Kd.R_alloc|apply Kd.R_drewN|apply Kd.R_drew));exact HO_8.out⟩,⟨by (with_reducible repeat (first|apply Kd.R_alloc|apply Kd.R_drewN|apply Kd.R_drew));exact HO_9.out⟩,⟨by (with_reducible repeat (first|apply Kd.R_alloc|apply Kd.R_drewN|apply Kd.R_drew));exact HO_10.out⟩,⟨by (with_reducible repeat (first|apply Kd.R_alloc|apply Kd.R_drewN|apply Kd.R_drew));exact HO_24.out⟩,⟨by repeat (first|(with_reducible first|exact HB.out|apply bL|apply pN|apply bE)|exact HB.out)⟩⟩
   rw [if_pos c21] at H
   have c21b0 : ((rdOf ByteArray.empty t214 x26_1).toList == ([64] : List UInt8)) = true:=beq_iff_eq.mpr c21
   have c21b1 : ((rdOf ByteArray.empty t214 x26_1).toList != ([64] : List UInt8)) = false:=bne_eq_false_iff_eq.mpr c21
   clear c21
   replace H:=oB H
   obtain ⟨t224,A220,H⟩:=H
   try dsimp only at H
   have A22:=Am A220
   clear A220
   by_cases c23 : t224 = true
   rotate_left
   ·replace c23:=Bool.eq_false_iff.mpr c23
    subst c23
    have H1 : (some (([] : List Int),([] : List ByteArray),false)) = some (r1,r2,r3):=by rw [if_neg (show ¬ (false = true) by decide)] at H;exact H
    clear H
    have H:=H1
    clear H1
    simp only [Option.some.injEq,Prod.mk.injEq] at H
    obtain ⟨rfl,rfl,rfl⟩:=H
    have p217 : 0≤(x26_1 : Int):=of_decide_eq_true (by first|(with_reducible assumption)|assumption)
    have q217 : x26_1 < (t211.length : Int):=of_decide_eq_true (by first|(with_reducible assumption)|assumption)
    obtain ⟨ad217,e217,hx217_0⟩:=Kd.at_string (Kd.R_reads' HO_24.out).2.2 x26_1 p217 q217
    cases e217
    replace p217:=eq_true p217
    replace q217:=eq_true q217
    have p218 : 0≤(x26_1 : Int):=of_decide_eq_true (by first|(with_reducible assumption)|assumption)
    have q218 : x26_1 < (t214.length : Int):=of_decide_eq_true (by first|(with_reducible assumption)|assumption)
    obtain ⟨ad218,e218,hx218_0⟩:=Kd.at_string (Kd.R_reads' HO_8.out).2.2 x26_1 p218 q218
    cases e218
    replace p218:=eq_true p218
    replace q218:=eq_true q218
    go_wp2_with (first|((with_reducible refine gC (f:=50) rfl ?_);refine goesL_ (some 57) rfl rfl Tryd.func50 (by kernel_rfl) rfl #[.string (rdOf ByteArray.empty t211 x26_1)] rfl (by (try simp only [mT,mC,mN]);first|done|rfl|(simp only [lD,lT];rfl)) ?_;(with_reducible refine (script_Name.calls (rdOf ByteArray.empty t211 x26_1) false _ ?side1 A22.out).mono ?_);(case side1=>exact Glob.below HG.out (by repeat (first|(with_reducible first|exact HB.out|apply bL|apply pN|apply bE)|exact HB.out)));rintro e w27 ⟨rfl,hb⟩;refine ⟨_,rfl,?_⟩;have n0_:=Am (Kd.R_below (by (with_reducible repeat (first|apply Kd.R_alloc|apply Kd.R_drewN|apply Kd.R_drew));exact HO_8.out) hb);have n1_:=Am (Kd.R_below (by (with_reducible repeat (first|apply Kd.R_alloc|apply Kd.R_drewN|apply Kd.R_drew));exact HO_9.out) hb);have n2_:=Am (Kd.R_below (by (with_reducible repeat (first|apply Kd.R_alloc|apply Kd.R_drewN|apply Kd.R_drew));exact HO_10.out) hb);have n3_:=Am (Kd.R_below (by (with_reducible repeat (first|apply Kd.R_alloc|apply Kd.R_drewN|apply Kd.R_drew));exact HO_24.out) hb);have n4_:=Am (below_step (by repeat (first|(with_reducible first|exact HB.out|apply bL|apply pN|apply bE)|exact HB.out)) hb);clear HO_8;clear HO_9;clear HO_10;clear HO_24;clear HB;have HO_8:=n0_;have HO_9:=n1_;have HO_10:=n2_;have HO_24:=n3_;have HB:=n4_;clear n0_ n1_ n2_ n3_ n4_))
    go_ret3
    exact ⟨_,_,by first|rfl|(simp [errW_none,errW_some] <;> rfl)|(simp [*,errW_none,errW_some] <;> rfl),by first|exact Kd.R_nil _ _ _ _ _|exact Kd.N_nil _ _ _ _ _|exact Kd.V_nil _ _ _ _ _|exact Kd.Q_nil _ _ _ _ _|exact Kd.S_nil _ _ _ _ _,by first|exact Kd.R_nil _ _ _ _ _|exact Kd.N_nil _ _ _ _ _|exact Kd.V_nil _ _ _ _ _|exact Kd.Q_nil _ _ _ _ _|exact Kd.S_nil _ _ _ _ _,by repeat (first|(with_reducible first|exact HB.out|apply bL|apply pN|apply bE)|exact HB.out)⟩
   subst c23
   have H1 : (if x10_1.length < 8796093022208 then (conf_form.l0 k1 t214 x9_1 (x10_1 ++ [rdOf ByteArray.empty t211 x26_1]) t211 (t211.length : Int) (wrap64 (x26_1 + 1))) else (none)) = some (r1,r2,r3):=by rw [if_pos rfl] at H;exact H
   clear H
   have H:=H1
   clear H1
   by_cases c24 : x10_1.length < 8796093022208
   rotate_left
   ·rw [if_neg c24] at H
    exact absurd H (by simp)
   rw [if_pos c24] at H
   have LMc24:=Am c24
   clear c24
   obtain ⟨y225,hy225⟩ : ∃ y_ : List ByteArray,y_ = (x10_1 ++ [rdOf ByteArray.empty t211 x26_1]):=⟨_,rfl⟩
   replace H : (conf_form.l0 k1 t214 x9_1 y225 t211 (t211.length : Int) (wrap64 (x26_1 + 1))) = some (r1,r2,r3):=by first|(rw [hy225];with_reducible exact H)|(have H2_:=(Option.bind_some _ _).symm.trans H;rw [hy225];with_reducible exact H2_)|(have H2_:=(Option.bind_some _ _).symm.trans H;with_reducible exact H2_)|with_reducible exact H|(rw [hy225];exact H)|exact H
   have Ny225:=Am hy225
   clear hy225
   have H':=Am H
   clear H
   have p217 : 0≤(x26_1 : Int):=of_decide_eq_true (by first|(with_reducible assumption)|assumption)
   have q217 : x26_1 < (t211.length : Int):=of_decide_eq_true (by first|(with_reducible assumption)|assumption)
   obtain ⟨ad217,e217,hx217_0⟩:=Kd.at_string (Kd.R_reads' HO_24.out).2.2 x26_1 p217 q217
   cases e217
   replace p217:=eq_true p217
   replace q217:=eq_true q217
   have p218 : 0≤(x26_1 : Int):=of_decide_eq_true (by first|(with_reducible assumption)|assumption)
   have q218 : x26_1 < (t214.length : Int):=of_decide_eq_true (by first|(with_reducible assumption)|assumption)
   obtain ⟨ad218,e218,hx218_0⟩:=Kd.at_string (Kd.R_reads' HO_8.out).2.2 x26_1 p218 q218
   cases e218
   replace p218:=eq_true p218
   replace q218:=eq_true q218
   go_wp2_with (first|((with_reducible refine gC (f:=50) rfl ?_);refine goesL_ (some 57) rfl rfl Tryd.func50 (by kernel_rfl) rfl #[.string (rdOf ByteArray.empty t211 x26_1)] rfl (by (try simp only [mT,mC,mN]);first|done|rfl|(simp only [lD,lT];rfl)) ?_;(with_reducible refine (script_Name.calls (rdOf ByteArray.empty t211 x26_1) true _ ?side1 A22.out).mono ?_);(case side1=>exact Glob.below HG.out (by repeat (first|(with_reducible first|exact HB.out|apply bL|apply pN|apply bE)|exact HB.out)));rintro e w25 ⟨rfl,hb⟩;refine ⟨_,rfl,?_⟩;have n0_:=Am (Kd.R_below (by (with_reducible repeat (first|apply Kd.R_alloc|apply Kd.R_drewN|apply Kd.R_drew));exact HO_8.out) hb);have n1_:=Am (Kd.R_below (by (with_reducible repeat (first|apply Kd.R_alloc|apply Kd.R_drewN|apply Kd.R_drew));exact HO_9.out) hb);have n2_:=Am (Kd.R_below (by (with_reducible repeat (first|apply Kd.R_alloc|apply Kd.R_drewN|apply Kd.R_drew));exact HO_10.out) hb);have n3_:=Am (Kd.R_below (by (with_reducible repeat (first|apply Kd.R_alloc|apply Kd.R_drewN|apply Kd.R_drew));exact HO_24.out) hb);have n4_:=Am (below_step (by repeat (first|(with_reducible first|exact HB.out|apply bL|apply pN|apply bE)|exact HB.out)) hb);clear HO_8;clear HO_9;clear HO_10;clear HO_24;clear HB;have HO_8:=n0_;have HO_9:=n1_;have HO_10:=n2_;have HO_24:=n3_;have HB:=n4_;clear n0_ n1_ n2_ n3_ n4_)|((with_reducible refine gate_builtin (b:=.append) (xs:=#[.tmp 59,.tmp 61]) rfl ?_);at_builtin;refine Kd.R_append Kd.string (w0:=w) w.heap.size rfl (.tmp 59) (.tmp 61) 58 9 (.string ⟨#[]⟩) 16 rfl Tryd.underlying58 info9 rfl (by decide) (by omega) u10 x10_1 (rdOf ByteArray.empty t211 x26_1) [.string (rdOf ByteArray.empty t211 x26_1)] (fun k_=>some k_ ≠ (.slice (some ad218) t214.length co9 : Value).ownBlock∧some k_ ≠ (.slice (some ad217) t211.length co8 : Value).ownBlock) (fun _=>False) rfl rfl ?aP (fun _ hk=>hk.elim) ?aF ?aO ?aB ?aS ?aL ?_;(case aP=>exact rfl);(case aB=>exact (by repeat (first|(with_reducible first|exact HB.out|apply bL|apply pN|apply bE)|exact HB.out)));(case aF=>exact (fun k_ hk=>⟨Kd.fresh' (Kd.R_lt (by (with_reducible repeat (first|apply Kd.R_alloc|apply Kd.R_drewN|apply Kd.R_drew));exact HO_8.out)) k_ hk,Kd.fresh' (Kd.R_lt (by (with_reducible repeat (first|apply Kd.R_alloc|apply Kd.R_drewN|apply Kd.R_drew));exact HO_24.out)) k_ hk⟩));(case aO=>exact (by (with_reducible repeat (first|apply Kd.R_alloc|apply Kd.R_drewN|apply Kd.R_drew));exact HO_10.out));(case aS=>exact (bZ (by repeat (first|(with_reducible first|exact HB.out|apply bL|apply pN|apply bE)|exact HB.out))));(case aL=>have:=LMc24.out;omega);intro v226 w26 ho hb hg hat;rw [← Ny225.out] at ho;have n0_:=Am (Kd.R_after (ok:=(fun k_=>some k_ ≠ (.slice (some ad217) t211.length co8 : Value).ownBlock)) (by (with_reducible repeat (first|apply Kd.R_alloc|apply Kd.R_drewN|apply Kd.R_drew));exact Kd.R_mono HO_8.out (fun _ hk=>⟨hk.2,hk.1⟩)) hg hat);have n1_:=Am (Kd.R_over' (by (with_reducible repeat (first|apply Kd.R_alloc|apply Kd.R_drewN|apply Kd.R_drew));exact HO_9.out) (Kd.R_typed (by (with_reducible repeat (first|apply Kd.R_alloc|apply Kd.R_drewN|apply Kd.R_drew));exact HO_10.out)) (by decide) hg);have n2_:=Am (Kd.R_after (ok:=(fun k_=>some k_ ≠ (.slice (some ad218) t214.length co9 : Value).ownBlock)) (by (with_reducible repeat (first|apply Kd.R_alloc|apply Kd.R_drewN|apply Kd.R_drew));exact HO_24.out) hg hat);have n3_:=Am (hb);have n4_:=Am (ho);clear HO_8;clear HO_9;clear HO_24;clear HB;clear HO_10;have HO_8:=n0_;have HO_9:=n1_;have HO_24:=n2_;have HB:=n3_;have HO227:=n4_;clear n0_ n1_ n2_ n3_ n4_;clear ho hb hg hat))
   go_roundg k1
   case measure=>have:=HK1.out;omega
   case rel=>exact ⟨(x9_1),(y225),(wrap64 (x26_1 + 1)),(by first|rfl|(simp;done)|(simp [*];done)),H',⟨by have:=HK1.out;omega⟩,⟨by (with_reducible repeat (first|apply Kd.R_alloc|apply Kd.R_drewN|apply Kd.R_drew));exact Kd.R_mono HO_8.out (fun _ hk=>⟨hk.2,hk.1⟩)⟩,⟨by (with_reducible repeat (first|apply Kd.R_alloc|apply Kd.R_drewN|apply Kd.R_drew));exact HO_9.out⟩,⟨by (with_reducible repeat (first|apply Kd.R_alloc|apply Kd.R_drewN|apply Kd.R_drew));exact HO227.out⟩,⟨by (with_reducible repeat (first|apply Kd.R_alloc|apply Kd.R_drewN|apply Kd.R_drew));exact HO_24.out⟩,⟨by repeat (first|(with_reducible first|exact HB.out|apply bL|apply pN|apply bE)|exact HB.out)⟩⟩
end Go.Proofs.YtgidipomfbikiaaDoor.P
