/- cut to what one law reaches -/
import Derived.Test.YtgidipomfbikiaaDoorTwShort
import Derived.Test.YtgidipomfbikiaaDoorTwP0
namespace Go.Proofs.YtgidipomfbikiaaDoor.P
open Go.RowKit Go.Proofs.YtgidipomfbikiaaDoorW.PrintWords Go.Proofs.YtgidipomfbikiaaDoorW.PrintLast Go.Proofs.YtgidipomfbikiaaDoorW.PrintMore
attribute [local go_sem] max2_int min2_int max_two min_two max_three min_three max_four min_four   -- for this text's walks alone
set_option linter.unusedVariables false
set_option linter.unusedSimpArgs false
attribute [local go_sem] isSome_setCell
def conf_in.f (a0 : Int) (a1 : Int) (a2 : Int) : Option (Bool):=if a0 ≥ a1 then (some (decide (a0≤a2))) else (some false)
set_option maxHeartbeats 8000000 in
set_option maxRecDepth 100000 in
theorem conf_in.calls (a0 : Int) (a1 : Int) (a2 : Int) (r : Bool) (w : World) (h : conf_in.f a0 a1 a2 = some r) :
  Calls Tryd.prog 24 #[.int .i64 a0,.int .i64 a1,.int .i64 a2] w fun e w'=>e = .returned (.bool r)∧Drawn0 w w':=by
 have H : (if a0 ≥ a1 then (some (decide (a0≤a2))) else (some false)) = some r:=h
 clear h
 by_cases c4 : a0 ≥ a1
 ·rw [if_pos c4] at H
  have c4b0 : decide (a1≤a0) = true:=decide_eq_true c4
  clear c4
  obtain rfl:=Option.some.inj H
  go_enter Tryd.func24,Tryd.ntmps24
  go_wp2
  go_ret
  exact ⟨by first|rfl|(simp;done)|(simp [*];done),by repeat (first|exact Drawn0.refl _|apply Drawn0.step)⟩
 rw [if_neg c4] at H
 have c4b0 : decide (a1≤a0) = false:=decide_eq_false c4
 clear c4
 obtain rfl:=Option.some.inj H
 go_enter Tryd.func24,Tryd.ntmps24
 go_wp2
 go_ret
 exact ⟨by first|rfl|(simp;done)|(simp [*];done),by repeat (first|exact Drawn0.refl _|apply Drawn0.step)⟩
def slices_Index_string_string.l0 : Nat→List ByteArray→ByteArray→Int→Int→Option (Int)
 | 0,_,_,_,_=>none
 | k + 1,x0,x1,x7,x8=>if x8 < x7 then (if 0≤x8 then (if x8 < (x0.length : Int) then (if x1.toList = (rdOf ByteArray.empty x0 x8).toList then (some x8) else (slices_Index_string_string.l0 k x0 x1 x7 (wrap64 (x8 + 1)))) else (none)) else (none)) else (some (-1))
def slices_Index_string_string.f (k : Nat) (l0 : List ByteArray) (a1 : ByteArray) : Option (Int):=slices_Index_string_string.l0 k l0 a1 (l0.length : Int) 0
theorem slices_Index_string_string.mono_l : ∀ k,(∀ y0 y1 y2 y3,LeO (slices_Index_string_string.l0 k y0 y1 y2 y3) (slices_Index_string_string.l0 (k + 1) y0 y1 y2 y3))
 | 0=>fun _ _ _ _ r h=>by simp [slices_Index_string_string.l0] at h
 | k + 1=>by
  have ih0:=slices_Index_string_string.mono_l k
  ·intro y0 y1 y2 y3
   unfold slices_Index_string_string.l0
   repeat' first
   | (with_reducible exact ih0 _ _ _ _)
   | (with_reducible exact LeO.refl _)
   | (with_reducible exact LeO.none _)
   | (with_reducible refine LeO.ite ?_ ?_)
   | (with_reducible refine LeO.bind ?_ (fun _=>?_))
   | exact ih0 _ _ _ _
   | exact LeO.none _
   | refine LeO.ite ?_ ?_
   | refine LeO.bind ?_ (fun _=>?_)
theorem slices_Index_string_string.mono : ∀ a0 a1 k,LeO (slices_Index_string_string.f k a0 a1) (slices_Index_string_string.f (k + 1) a0 a1):=by
 intro a0 a1 k
 have ih0:=slices_Index_string_string.mono_l k
 unfold slices_Index_string_string.f
 repeat' first
   | (with_reducible exact ih0 _ _ _ _)
   | (with_reducible exact LeO.refl _)
   | (with_reducible exact LeO.none _)
   | (with_reducible refine LeO.ite ?_ ?_)
   | (with_reducible refine LeO.bind ?_ (fun _=>?_))
   | exact ih0 _ _ _ _
   | exact LeO.none _
   | refine LeO.ite ?_ ?_
   | refine LeO.bind ?_ (fun _=>?_)
set_option maxHeartbeats 8000000 in
set_option maxRecDepth 100000 in
theorem slices_Index_string_string.calls (k : Nat) (A0 : Option Addr) (c0 : Nat) (l0 : List ByteArray) (a1 : ByteArray) (r : Int) (w : World) (hr0 : Kd.C Kd.string w A0 l0.length l0) (hc0 : l0.length≤c0) (h : slices_Index_string_string.f k l0 a1 = some r) :
  Calls Tryd.prog 51 #[.slice A0 l0.length c0,.string a1] w fun e w'=>e = .returned (.int .i64 r)∧Drawn0 w w':=by
 have HR0:=Am hr0
 have HC0:=Am hc0
 clear hr0 hc0
 have H : (slices_Index_string_string.l0 k l0 a1 (l0.length : Int) 0) = some r:=h
 clear h
 have H':=Am H
 clear H
 go_enter Tryd.func51,Tryd.ntmps51
 go_wp2
 go_loopg [8] k (fun kq v8 w'=>∃ (x8_1 : Int),v8 = .int .i64 x8_1∧Aside0 (slices_Index_string_string.l0 kq l0 a1 (l0.length : Int) x8_1 = some r)∧Aside0 (kq≤k)∧Drawn0 w w')
 case atStart=>exact ⟨(0),(by first|rfl|(simp;done)|(simp [*];done)),H',⟨Nat.le_refl _⟩,by repeat (first|exact Drawn0.refl _|apply Drawn0.step)⟩
 case round =>
  clear H'
  obtain ⟨x8_1,rfl,HA,HK1,⟨m1,rfl⟩⟩:=hrel
  cases gk with
  | zero=>exact absurd HA.out (by simp [slices_Index_string_string.l0])
  | succ k1 =>
   have H:=HA.out
   clear HA
   simp only [slices_Index_string_string.l0] at H
   by_cases c3 : x8_1 < (l0.length : Int)
   rotate_left
   ·rw [if_neg c3] at H
    have c3b0 : decide (x8_1 < (l0.length : Int)) = false:=decide_eq_false c3
    clear c3
    obtain rfl:=Option.some.inj H
    go_wp2
    go_ret
    exact ⟨by first|rfl|(simp;done)|(simp [*];done),by repeat (first|exact Drawn0.refl _|apply Drawn0.step)⟩
   rw [if_pos c3] at H
   have c3b0 : decide (x8_1 < (l0.length : Int)) = true:=decide_eq_true c3
   clear c3
   by_cases c4 : 0≤x8_1
   rotate_left
   ·rw [if_neg c4] at H
    exact absurd H (by simp)
   rw [if_pos c4] at H
   have c4b0 : decide (0≤x8_1) = true:=decide_eq_true c4
   clear c4
   by_cases c5 : x8_1 < (l0.length : Int)
   rotate_left
   ·rw [if_neg c5] at H
    exact absurd H (by simp)
   rw [if_pos c5] at H
   have c5b0 : decide (x8_1 < (l0.length : Int)) = true:=decide_eq_true c5
   clear c5
   by_cases c6 : a1.toList = (rdOf ByteArray.empty l0 x8_1).toList
   ·rw [if_pos c6] at H
    have c6b0 : (a1.toList == (rdOf ByteArray.empty l0 x8_1).toList) = true:=beq_iff_eq.mpr c6
    have c6b1 : (a1.toList != (rdOf ByteArray.empty l0 x8_1).toList) = false:=bne_eq_false_iff_eq.mpr c6
    clear c6
    obtain rfl:=Option.some.inj H
    have p106 : 0≤(x8_1 : Int):=of_decide_eq_true (by first|(with_reducible assumption)|assumption)
    have q106 : x8_1 < (l0.length : Int):=of_decide_eq_true (by first|(with_reducible assumption)|assumption)
    obtain ⟨ad106,e106,hx106_0⟩:=Kd.at_string HR0.out x8_1 p106 q106
    cases e106
    replace p106:=eq_true p106
    replace q106:=eq_true q106
    go_wp2
    go_ret
    exact ⟨by first|rfl|(simp;done)|(simp [*];done),by repeat (first|exact Drawn0.refl _|apply Drawn0.step)⟩
   rw [if_neg c6] at H
   have c6b0 : (a1.toList == (rdOf ByteArray.empty l0 x8_1).toList) = false:=beq_eq_false_iff_ne.mpr c6
   have c6b1 : (a1.toList != (rdOf ByteArray.empty l0 x8_1).toList) = true:=bne_iff_ne.mpr c6
   have H':=Am H
   clear H
   have p106 : 0≤(x8_1 : Int):=of_decide_eq_true (by first|(with_reducible assumption)|assumption)
   have q106 : x8_1 < (l0.length : Int):=of_decide_eq_true (by first|(with_reducible assumption)|assumption)
   obtain ⟨ad106,e106,hx106_0⟩:=Kd.at_string HR0.out x8_1 p106 q106
   cases e106
   replace p106:=eq_true p106
   replace q106:=eq_true q106
   go_wp2
   go_roundg k1
   case measure=>have:=HK1.out;omega
   case rel=>exact ⟨(wrap64 (x8_1 + 1)),(by first|rfl|(simp;done)|(simp [*];done)),H',⟨by have:=HK1.out;omega⟩,by repeat (first|exact Drawn0.refl _|apply Drawn0.step)⟩
def slices_Contains_string_string.f (k : Nat) (l0 : List ByteArray) (a1 : ByteArray) : Option (Bool):=(slices_Index_string_string.f k l0 a1).bind fun t107=>(some (decide (t107 ≥ 0)))
theorem slices_Contains_string_string.mono : ∀ a0 a1 k,LeO (slices_Contains_string_string.f k a0 a1) (slices_Contains_string_string.f (k + 1) a0 a1):=by
 intro a0 a1 k
 unfold slices_Contains_string_string.f
 repeat' first
   | (with_reducible exact slices_Index_string_string.mono _ _ _)
   | (with_reducible exact LeO.refl _)
   | (with_reducible exact LeO.none _)
   | (with_reducible refine LeO.ite ?_ ?_)
   | (with_reducible refine LeO.bind ?_ (fun _=>?_))
   | exact slices_Index_string_string.mono _ _ _
   | exact LeO.none _
   | refine LeO.ite ?_ ?_
   | refine LeO.bind ?_ (fun _=>?_)
set_option maxHeartbeats 8000000 in
set_option maxRecDepth 100000 in
theorem slices_Contains_string_string.calls (k : Nat) (A0 : Option Addr) (c0 : Nat) (l0 : List ByteArray) (a1 : ByteArray) (r : Bool) (w : World) (hr0 : Kd.C Kd.string w A0 l0.length l0) (hc0 : l0.length≤c0) (h : slices_Contains_string_string.f k l0 a1 = some r) :
  Calls Tryd.prog 40 #[.slice A0 l0.length c0,.string a1] w fun e w'=>e = .returned (.bool r)∧Drawn0 w w':=by
 have HR0:=Am hr0
 have HC0:=Am hc0
 clear hr0 hc0
 have H : ((slices_Index_string_string.f k l0 a1).bind fun t107=>(some (decide (t107 ≥ 0)))) = some r:=h
 clear h
 replace H:=oB H
 obtain ⟨t107,A30,H⟩:=H
 try dsimp only at H
 have A3:=Am A30
 clear A30
 obtain rfl:=Option.some.inj H
 go_enter Tryd.func40,Tryd.ntmps40
 go_wp2_with (first|((with_reducible refine gC (f:=51) rfl ?_);refine goesL_ (some 7) rfl rfl Tryd.func51 (by kernel_rfl) rfl #[.slice A0 l0.length c0,.string a1] rfl (by (try simp only [mT,mC,mN]);first|done|rfl|(simp only [lD,lT];rfl)) ?_;(with_reducible refine (slices_Index_string_string.calls k _ _ l0 a1 t107 _ ?side1 ?side2 A3.out).mono ?_);(case side1=>repeat (first|exact HR0.out|(with_reducible refine Kd.C_alloc ?_ _)|(with_reducible refine Kd.C_drewN ?_ _)|(with_reducible refine Kd.C_drew ?_)));(case side2=>exact HC0.out);rintro e w' ⟨rfl,⟨nd,rfl⟩⟩;refine ⟨_,rfl,?_⟩))
 go_ret
 exact ⟨by first|rfl|(simp;done)|(simp [*];done),by repeat (first|exact Drawn0.refl _|apply Drawn0.step)⟩
-- NOT PRINTED: function 72 (utf8_decodeRuneInStringSlow)
-- NOT PRINTED: function 59 (utf8_DecodeRuneInString)
-- NOT PRINTED: function 60 (utf8_RuneCountInString)
def okRune (c : Nat) : Bool:=(decide (97≤c) && decide (c≤122)) || (decide (65≤c) && decide (c≤90)) || (decide (48≤c) && decide (c≤57)) || c == 45 || c == 95 || c == 46 || decide (160 < c)
def nameAt : Nat→ByteArray→Nat→Bool
 | 0,_,_=>false
 | k + 1,s,pos=>if pos < s.size then
   (if (Utf8.decode s pos).1 = 65533∧(Lib.decodeGo (s.extract pos s.size)).2 = 1 then false else if okRune (Utf8.decode s pos).1 = true then nameAt k s (pos + (Utf8.decode s pos).2) else false)
  else !s.toList.isEmpty && decide (Lib.runeCount s≤32)
def script_Name.f (a0 : ByteArray) : Option Bool:=if a0.size≤140737488351232 then some (nameAt (a0.size + 1) a0 0) else none
theorem below_then {B : Nat} {w0 w3 w4 : World} (h : Below B w0 w3) (k : Below w3.heap.size w3 w4) (hB : B≤w3.heap.size) : Below B w0 w4 :=
 ⟨k.os.trans h.os,k.tape.trans h.tape,k.output.trans h.output,Nat.le_trans h.size k.size,fun i hi=>(k.block i (by omega)).trans (h.block i hi)⟩
theorem decode_pos (s : ByteArray) (pos : Nat) (h : pos < s.size) : 1≤(Utf8.decode s pos).2:=by
 by_cases ha : (s[pos]'h).toNat < 128
 rotate_left
 ·exact (decode_high s pos h (by omega)).2
 rw [decode_ascii s pos h ha];exact Nat.le_refl _
theorem okRune_cases (c : Nat) : (okRune c = true∧((97≤c∧c≤122) ∨ (65≤c∧c≤90∧c < 97) ∨ (48≤c∧c≤57∧c < 65) ∨ c = 45 ∨ c = 95 ∨ c = 46 ∨ 160 < c)) ∨ (okRune c = false∧((c < 48∧c ≠ 45∧c ≠ 46) ∨ (57 < c∧c < 65) ∨ (90 < c∧c < 97∧c ≠ 95) ∨ (122 < c∧c≤160))):=by
 cases h : okRune c with
 | true=>refine Or.inl ⟨rfl,?_⟩;simp [okRune] at h;omega
 | false=>refine Or.inr ⟨rfl,?_⟩;simp [okRune] at h;omega
set_option maxHeartbeats 8000000 in
set_option maxRecDepth 1000000 in
theorem script_Name.calls (a0 : ByteArray) (r : Bool) (w : World) (hG : Glob w) (h : script_Name.f a0 = some r) :
  Calls Tryd.prog 50 #[.string a0] w fun e w'=>e = .returned (.bool r)∧Below w.heap.size w w':=by
 unfold script_Name.f at h
 by_cases hsz : a0.size≤140737488351232
 case neg=>rw [if_neg hsz] at h;cases h
 rw [if_pos hsz] at h
 have HH:=Am (Option.some.inj h)
 clear h
 have HG:=Am hG
 clear hG
 go_enter Tryd.func50,Tryd.ntmps50
 go_wp2
 go_loopg [] (a0.size + 1) (fun gk wr=>∃ pos : Nat,wr.heap[w.heap.size]? = some (Obj.stringIter a0 pos)∧1≤gk∧a0.size < pos + gk∧Aside0 (nameAt gk a0 pos = r)∧Aside0 (Below w.heap.size w wr))
 case atStart=>exact ⟨0,World.iter_heap w a0 0,by omega,by omega,HH,⟨bL (Below.refl _ _) _⟩⟩
 case round =>
  obtain ⟨pos,hit,hk1,hk,HD,HB⟩:=hrel
  have hkb : w.heap.size < wr.heap.size:=blk_lt hit
  have hGw : Glob wr:=Glob.below HG.out HB.out
  by_cases hlt : pos < a0.size
  rotate_left
  ·have hnx : ∀ ty,(Instr.next (.pointer (some ⟨w.heap.size,0,none⟩)) true ty).run Tryd.prog wr = _:=fun ty=>Lib.run_next_end_at wr w.heap.size a0 pos ty hit hlt
   obtain ⟨k,rfl⟩ : ∃ k,gk = k + 1:=⟨gk - 1,by omega⟩
   have hD:=HD.out
   rw [nameAt,if_neg hlt] at hD
   have HC:=Am (Tryd.utf8_RuneCountInString a0 wr (by omega))
   have KB:=HB
   clear HB hit
   cases he : a0.toList.isEmpty with
   | true =>
    rw [he] at hD
    have hr : r = false:=by rw [← hD];simp
    subst hr
    have hse : (a0.toList == []) = true:=by
     cases hl : a0.toList with
     | nil=>rfl
     | cons x y=>rw [hl] at he;cases he
    clear hD
    go_wp2
    go_ret
    exact ⟨rfl,KB.out⟩
   | false =>
    rw [he] at hD
    have hr : r = decide (Lib.runeCount a0≤32):=by rw [← hD];simp
    have hlc : ((Lib.runeCount a0 : Nat) : Int)≤32 ↔ Lib.runeCount a0≤32:=by omega
    clear hD
    go_wp2_with (first|(go_at_call 60;(with_reducible refine HC.out.mono ?_);rintro e w2 ⟨rfl,p2,rfl⟩))
    go_ret
    refine ⟨?_,below_then KB.out (bL (Below.refl _ _) _) KB.out.size⟩
    rw [hr]
    simp [hlc]
  obtain ⟨k,rfl⟩ : ∃ k,gk = k + 1:=⟨gk - 1,by omega⟩
  have hD:=HD.out
  rw [nameAt,if_pos hlt] at hD
  have hnx : ∀ ty,(Instr.next (.pointer (some ⟨w.heap.size,0,none⟩)) true ty).run Tryd.prog wr = _:=fun ty=>Lib.run_next_any_at wr w.heap.size a0 pos ty hit hlt
  have hpos:=decode_pos a0 pos hlt
  have hle:=decode_le a0 pos
  obtain ⟨q,hq⟩ : ∃ q : Nat,pos + (Utf8.decode a0 pos).2 = q:=⟨_,rfl⟩
  obtain ⟨c,hc⟩ : ∃ c : Nat,(Utf8.decode a0 pos).1 = c:=⟨_,rfl⟩
  obtain ⟨d,hd⟩ : ∃ d : Nat × Nat,Lib.decodeGo (a0.extract pos a0.size) = d:=⟨_,rfl⟩
  obtain ⟨d1,d2⟩:=d
  have hNit:=Lib.iterAt_heap wr w.heap.size a0 pos q hit
  have hNB:=Lib.below_iterAt HB.out (k:=w.heap.size) (Nat.le_refl _) a0 q
  have hNG : Glob (wr.iterAt w.heap.size a0 q):=Glob.below HG.out hNB
  have hC:=Tryd.utf8_DecodeRuneInString (a0.extract pos a0.size) (wr.iterAt w.heap.size a0 q) hNG.utf8
  have hqp : pos < q:=by omega
  rw [hq,hc] at hnx
  rw [hq,hc,hd] at hD
  rw [hd] at hC
  rw [hc] at hle
  have HC:=Am hC
  have KB:=Am hNB
  have KI:=Am hNit
  have lo : (pos : Int)≤(a0.size : Int):=by omega
  have lo0 : (0 : Int)≤(pos : Int):=by omega
  clear hC hNB hNit hNG hGw HB hit hq hc hd hpos
  have KI2 : w.heap.size < (wr.iterAt w.heap.size a0 q).heap.size∧(wr.iterAt w.heap.size a0 q).heap[w.heap.size]? = some (Obj.stringIter a0 q):=⟨blk_lt KI.out,KI.out⟩
  clear KI
  have KI:=Am KI2
  clear KI2
  by_cases hbad : c = 65533∧d2 = 1
  ·rw [if_pos hbad] at hD
   obtain ⟨rfl,rfl⟩:=hbad
   subst hD
   go_wp2_with (first|(go_at_call 59;(with_reducible refine HC.out.mono ?_);rintro e w2 ⟨rfl,gb1⟩;have G1:=Am (below_then KB.out gb1 KB.out.size);have G2:=Am ((gb1.block w.heap.size KI.out.1).trans KI.out.2);clear gb1))
   go_ret
   exact ⟨rfl,G1.out⟩
  rw [if_neg hbad] at hD
  have hnb : (((c : Int) == 65533) = true∧((d2 : Int) == 1) = false) ∨ ((c : Int) == 65533) = false:=by
   by_cases e : c = 65533
   rotate_left
   ·exact Or.inr (beq_eq_false_iff_ne.2 (by omega))
   exact Or.inl ⟨by rw [e];rfl,beq_eq_false_iff_ne.2 (fun q=>hbad ⟨e,by omega⟩)⟩
  clear hbad
  rcases okRune_cases c with ⟨hok,hcl⟩|⟨hok,hcl⟩
  ·rw [if_pos hok] at hD
   have HD2:=Am hD
   clear hD hok
   rcases hnb with ⟨n1,n2⟩|n1
   ·have e : c = 65533:=by have:=eq_of_beq n1;omega
    subst e
    clear hcl n1
    go_wp2_with (first|(go_at_call 59;(with_reducible refine HC.out.mono ?_);rintro e w2 ⟨rfl,gb1⟩;have G1:=Am (below_then KB.out gb1 KB.out.size);have G2:=Am ((gb1.block w.heap.size KI.out.1).trans KI.out.2);clear gb1))
    go_roundg k
    case measure=>exact Nat.lt_succ_self _
    case rel=>exact ⟨q,G2.out,by omega,by omega,HD2,G1⟩
   ·rcases hcl with ⟨f1,f2⟩|⟨f1,f2,f3⟩|⟨f1,f2,f3⟩|rfl|rfl|rfl|f1
    ·have g1 : (97 : Int)≤(c : Int):=by omega
     have g2 : (c : Int)≤122:=by omega
     clear f1 f2
     go_wp2_with (first|(go_at_call 59;(with_reducible refine HC.out.mono ?_);rintro e w2 ⟨rfl,gb1⟩;have G1:=Am (below_then KB.out gb1 KB.out.size);have G2:=Am ((gb1.block w.heap.size KI.out.1).trans KI.out.2);clear gb1))
     go_roundg k
     case measure=>exact Nat.lt_succ_self _
     case rel=>exact ⟨q,G2.out,by omega,by omega,HD2,G1⟩
    ·have g1 : (65 : Int)≤(c : Int):=by omega
     have g2 : (c : Int)≤90:=by omega
     have g3 : decide ((97 : Int)≤(c : Int)) = false:=decide_eq_false (by omega)
     clear f1 f2 f3
     go_wp2_with (first|(go_at_call 59;(with_reducible refine HC.out.mono ?_);rintro e w2 ⟨rfl,gb1⟩;have G1:=Am (below_then KB.out gb1 KB.out.size);have G2:=Am ((gb1.block w.heap.size KI.out.1).trans KI.out.2);clear gb1))
     go_roundg k
     case measure=>exact Nat.lt_succ_self _
     case rel=>exact ⟨q,G2.out,by omega,by omega,HD2,G1⟩
    ·have g1 : (48 : Int)≤(c : Int):=by omega
     have g2 : (c : Int)≤57:=by omega
     have g3 : decide ((97 : Int)≤(c : Int)) = false:=decide_eq_false (by omega)
     have g4 : decide ((65 : Int)≤(c : Int)) = false:=decide_eq_false (by omega)
     clear f1 f2 f3
     go_wp2_with (first|(go_at_call 59;(with_reducible refine HC.out.mono ?_);rintro e w2 ⟨rfl,gb1⟩;have G1:=Am (below_then KB.out gb1 KB.out.size);have G2:=Am ((gb1.block w.heap.size KI.out.1).trans KI.out.2);clear gb1))
     go_roundg k
     case measure=>exact Nat.lt_succ_self _
     case rel=>exact ⟨q,G2.out,by omega,by omega,HD2,G1⟩
    ·go_wp2_with (first|(go_at_call 59;(with_reducible refine HC.out.mono ?_);rintro e w2 ⟨rfl,gb1⟩;have G1:=Am (below_then KB.out gb1 KB.out.size);have G2:=Am ((gb1.block w.heap.size KI.out.1).trans KI.out.2);clear gb1))
     go_roundg k
     case measure=>exact Nat.lt_succ_self _
     case rel=>exact ⟨q,G2.out,by omega,by omega,HD2,G1⟩
    ·go_wp2_with (first|(go_at_call 59;(with_reducible refine HC.out.mono ?_);rintro e w2 ⟨rfl,gb1⟩;have G1:=Am (below_then KB.out gb1 KB.out.size);have G2:=Am ((gb1.block w.heap.size KI.out.1).trans KI.out.2);clear gb1))
     go_roundg k
     case measure=>exact Nat.lt_succ_self _
     case rel=>exact ⟨q,G2.out,by omega,by omega,HD2,G1⟩
    ·go_wp2_with (first|(go_at_call 59;(with_reducible refine HC.out.mono ?_);rintro e w2 ⟨rfl,gb1⟩;have G1:=Am (below_then KB.out gb1 KB.out.size);have G2:=Am ((gb1.block w.heap.size KI.out.1).trans KI.out.2);clear gb1))
     go_roundg k
     case measure=>exact Nat.lt_succ_self _
     case rel=>exact ⟨q,G2.out,by omega,by omega,HD2,G1⟩
    ·have g1 : (97 : Int)≤(c : Int):=by omega
     have g2 : decide ((c : Int)≤122) = false:=decide_eq_false (by omega)
     have g3 : (65 : Int)≤(c : Int):=by omega
     have g4 : decide ((c : Int)≤90) = false:=decide_eq_false (by omega)
     have g5 : (48 : Int)≤(c : Int):=by omega
     have g6 : decide ((c : Int)≤57) = false:=decide_eq_false (by omega)
     have g7 : ((c : Int) != 45) = true:=bne_iff_ne.2 (by omega)
     have g7b : ((c : Int) == 45) = false:=beq_eq_false_iff_ne.2 (by omega)
     have g7c : ((c : Int) = 45) = False:=eq_false (by omega)
     have g8 : ((c : Int) != 95) = true:=bne_iff_ne.2 (by omega)
     have g8b : ((c : Int) == 95) = false:=beq_eq_false_iff_ne.2 (by omega)
     have g8c : ((c : Int) = 95) = False:=eq_false (by omega)
     have g9 : ((c : Int) != 46) = true:=bne_iff_ne.2 (by omega)
     have g9b : ((c : Int) == 46) = false:=beq_eq_false_iff_ne.2 (by omega)
     have g9c : ((c : Int) = 46) = False:=eq_false (by omega)
     have g10 : decide ((c : Int)≤160) = false:=decide_eq_false (by omega)
     clear f1
     go_wp2_with (first|(go_at_call 59;(with_reducible refine HC.out.mono ?_);rintro e w2 ⟨rfl,gb1⟩;have G1:=Am (below_then KB.out gb1 KB.out.size);have G2:=Am ((gb1.block w.heap.size KI.out.1).trans KI.out.2);clear gb1))
     go_roundg k
     case measure=>exact Nat.lt_succ_self _
     case rel=>exact ⟨q,G2.out,by omega,by omega,HD2,G1⟩
  ·rw [if_neg (by rw [hok];simp)] at hD
   subst hD
   clear hok
   have n1 : ((c : Int) == 65533) = false:=by
    rcases hnb with ⟨n1,_⟩|n1
    ·have:=eq_of_beq n1;omega
    ·exact n1
   clear hnb
   have g7 : ((c : Int) != 45) = true:=bne_iff_ne.2 (by omega)
   have g7b : ((c : Int) == 45) = false:=beq_eq_false_iff_ne.2 (by omega)
   have g7c : ((c : Int) = 45) = False:=eq_false (by omega)
   have g8 : ((c : Int) != 95) = true:=bne_iff_ne.2 (by omega)
   have g8b : ((c : Int) == 95) = false:=beq_eq_false_iff_ne.2 (by omega)
   have g8c : ((c : Int) = 95) = False:=eq_false (by omega)
   have g9 : ((c : Int) != 46) = true:=bne_iff_ne.2 (by omega)
   have g9b : ((c : Int) == 46) = false:=beq_eq_false_iff_ne.2 (by omega)
   have g9c : ((c : Int) = 46) = False:=eq_false (by omega)
   have g10 : (c : Int)≤160:=by omega
   have g10b : decide ((c : Int)≤160) = true:=decide_eq_true g10
   rcases hcl with ⟨f1,f2,f3⟩|⟨f1,f2⟩|⟨f1,f2,f3⟩|⟨f1,f2⟩
   ·have g1 : decide ((97 : Int)≤(c : Int)) = false:=decide_eq_false (by omega)
    have g2 : decide ((65 : Int)≤(c : Int)) = false:=decide_eq_false (by omega)
    have g3 : decide ((48 : Int)≤(c : Int)) = false:=decide_eq_false (by omega)
    clear f1 f2 f3
    go_wp2_with (first|(go_at_call 59;(with_reducible refine HC.out.mono ?_);rintro e w2 ⟨rfl,gb1⟩;have G1:=Am (below_then KB.out gb1 KB.out.size);have G2:=Am ((gb1.block w.heap.size KI.out.1).trans KI.out.2);clear gb1))
    go_ret
    exact ⟨rfl,G1.out⟩
   ·have g1 : decide ((97 : Int)≤(c : Int)) = false:=decide_eq_false (by omega)
    have g2 : decide ((65 : Int)≤(c : Int)) = false:=decide_eq_false (by omega)
    have g3 : (48 : Int)≤(c : Int):=by omega
    have g4 : decide ((c : Int)≤57) = false:=decide_eq_false (by omega)
    clear f1 f2
    go_wp2_with (first|(go_at_call 59;(with_reducible refine HC.out.mono ?_);rintro e w2 ⟨rfl,gb1⟩;have G1:=Am (below_then KB.out gb1 KB.out.size);have G2:=Am ((gb1.block w.heap.size KI.out.1).trans KI.out.2);clear gb1))
    go_ret
    exact ⟨rfl,G1.out⟩
   ·have g1 : decide ((97 : Int)≤(c : Int)) = false:=decide_eq_false (by omega)
    have g2 : (65 : Int)≤(c : Int):=by omega
    have g3 : (48 : Int)≤(c : Int):=by omega
    have g4 : decide ((c : Int)≤57) = false:=decide_eq_false (by omega)
    have g5 : decide ((c : Int)≤90) = false:=decide_eq_false (by omega)
    clear f1 f2 f3
    go_wp2_with (first|(go_at_call 59;(with_reducible refine HC.out.mono ?_);rintro e w2 ⟨rfl,gb1⟩;have G1:=Am (below_then KB.out gb1 KB.out.size);have G2:=Am ((gb1.block w.heap.size KI.out.1).trans KI.out.2);clear gb1))
    go_ret
    exact ⟨rfl,G1.out⟩
   ·have g1 : (97 : Int)≤(c : Int):=by omega
    have g2 : (65 : Int)≤(c : Int):=by omega
    have g3 : (48 : Int)≤(c : Int):=by omega
    have g4 : decide ((c : Int)≤57) = false:=decide_eq_false (by omega)
    have g5 : decide ((c : Int)≤90) = false:=decide_eq_false (by omega)
    have g6 : decide ((c : Int)≤122) = false:=decide_eq_false (by omega)
    clear f1 f2
    go_wp2_with (first|(go_at_call 59;(with_reducible refine HC.out.mono ?_);rintro e w2 ⟨rfl,gb1⟩;have G1:=Am (below_then KB.out gb1 KB.out.size);have G2:=Am ((gb1.block w.heap.size KI.out.1).trans KI.out.2);clear gb1))
    go_ret
    exact ⟨rfl,G1.out⟩
def conf_names.l0 : Nat→List ByteArray→List ByteArray→Int→Int→Option (Bool)
 | 0,_,_,_,_=>none
 | k + 1,x0,x5,x6,x7=>if x7 < x6 then (if 0≤x7 then (if x7 < (x5.length : Int) then ((script_Name.f (rdOf ByteArray.empty x5 x7)).bind fun t109=>(if t109 = true then (if x7≤(x0.length : Int) then ((slices_Contains_string_string.f k (x0.take (x7 : Int).toNat) (rdOf ByteArray.empty x5 x7)).bind fun t111=>(if t111 = true then (some false) else (conf_names.l0 k x0 x5 x6 (wrap64 (x7 + 1))))) else (none)) else (some false))) else (none)) else (none)) else (some true)
def conf_names.f (k : Nat) (l0 : List ByteArray) : Option (Bool):=conf_names.l0 k l0 l0 (l0.length : Int) 0
theorem conf_names.mono_l : ∀ k,(∀ y0 y1 y2 y3,LeO (conf_names.l0 k y0 y1 y2 y3) (conf_names.l0 (k + 1) y0 y1 y2 y3))
 | 0=>fun _ _ _ _ r h=>by simp [conf_names.l0] at h
 | k + 1=>by
  have ih0:=conf_names.mono_l k
  ·intro y0 y1 y2 y3
   unfold conf_names.l0
   repeat' first
   | (with_reducible exact ih0 _ _ _ _)
   | (with_reducible exact slices_Contains_string_string.mono _ _ _)
   | (with_reducible exact LeO.refl _)
   | (with_reducible exact LeO.none _)
   | (with_reducible refine LeO.ite ?_ ?_)
   | (with_reducible refine LeO.bind ?_ (fun _=>?_))
   | exact ih0 _ _ _ _
   | exact slices_Contains_string_string.mono _ _ _
   | exact LeO.none _
   | refine LeO.ite ?_ ?_
   | refine LeO.bind ?_ (fun _=>?_)
theorem conf_names.mono : ∀ a0 k,LeO (conf_names.f k a0) (conf_names.f (k + 1) a0):=by
 intro a0 k
 have ih0:=conf_names.mono_l k
 unfold conf_names.f
 repeat' first
   | (with_reducible exact ih0 _ _ _ _)
   | (with_reducible exact slices_Contains_string_string.mono _ _ _)
   | (with_reducible exact LeO.refl _)
   | (with_reducible exact LeO.none _)
   | (with_reducible refine LeO.ite ?_ ?_)
   | (with_reducible refine LeO.bind ?_ (fun _=>?_))
   | exact ih0 _ _ _ _
   | exact slices_Contains_string_string.mono _ _ _
   | exact LeO.none _
   | refine LeO.ite ?_ ?_
   | refine LeO.bind ?_ (fun _=>?_)
set_option maxHeartbeats 8000000 in
set_option maxRecDepth 100000 in
theorem conf_names.calls (k : Nat) (A0 : Option Addr) (c0 : Nat) (l0 : List ByteArray) (r : Bool) (w : World) (hG : Glob w) (hr0 : Kd.C Kd.string w A0 l0.length l0) (hc0 : l0.length≤c0) (h : conf_names.f k l0 = some r) :
  Calls Tryd.prog 39 #[.slice A0 l0.length c0] w fun e w'=>e = .returned (.bool r)∧Below w.heap.size w w':=by
 have HG:=Am hG
 clear hG
 have HR0:=Am hr0
 have HC0:=Am hc0
 clear hr0 hc0
 have HB:=Am (Below.refl w.heap.size w)
 have H : (conf_names.l0 k l0 l0 (l0.length : Int) 0) = some r:=h
 clear h
 have H':=Am H
 clear H
 go_enter Tryd.func39,Tryd.ntmps39
 go_wp2
 go_loopg [7] k (fun kq v7 w'=>∃ (x7_1 : Int),v7 = .int .i64 x7_1∧Aside0 (conf_names.l0 kq l0 l0 (l0.length : Int) x7_1 = some r)∧Aside0 (kq≤k)∧Aside0 (Below w.heap.size w w'))
 case atStart=>exact ⟨(0),(by first|rfl|(simp;done)|(simp [*];done)),H',⟨Nat.le_refl _⟩,⟨by repeat (first|(with_reducible first|exact HB.out|apply bL|apply pN|apply bE)|exact HB.out)⟩⟩
 case round =>
  clear H'
  obtain ⟨x7_1,rfl,HA,HK1,HB⟩:=hrel
  cases gk with
  | zero=>exact absurd HA.out (by simp [conf_names.l0])
  | succ k1 =>
   have H:=HA.out
   clear HA
   simp only [conf_names.l0] at H
   by_cases c2 : x7_1 < (l0.length : Int)
   rotate_left
   ·rw [if_neg c2] at H
    have c2b0 : decide (x7_1 < (l0.length : Int)) = false:=decide_eq_false c2
    clear c2
    obtain rfl:=Option.some.inj H
    go_wp2
    go_ret
    exact ⟨by first|rfl|(simp [errW_none,errW_some] <;> rfl)|(simp [*,errW_none,errW_some] <;> rfl),by repeat (first|(with_reducible first|exact HB.out|apply bL|apply pN|apply bE)|exact HB.out)⟩
   rw [if_pos c2] at H
   have c2b0 : decide (x7_1 < (l0.length : Int)) = true:=decide_eq_true c2
   clear c2
   by_cases c3 : 0≤x7_1
   rotate_left
   ·rw [if_neg c3] at H
    exact absurd H (by simp)
   rw [if_pos c3] at H
   have c3b0 : decide (0≤x7_1) = true:=decide_eq_true c3
   clear c3
   by_cases c4 : x7_1 < (l0.length : Int)
   rotate_left
   ·rw [if_neg c4] at H
    exact absurd H (by simp)
   rw [if_pos c4] at H
   have c4b0 : decide (x7_1 < (l0.length : Int)) = true:=decide_eq_true c4
   clear c4
   replace H:=oB H
   obtain ⟨t109,A50,H⟩:=H
   try dsimp only at H
   have A5:=Am A50
   clear A50
   by_cases c6 : t109 = true
   rotate_left
   ·replace c6:=Bool.eq_false_iff.mpr c6
    subst c6
    have H1 : (some false) = some r:=by rw [if_neg (show ¬ (false = true) by decide)] at H;exact H
    clear H
    have H:=H1
    clear H1
    obtain rfl:=Option.some.inj H
    have p108 : 0≤(x7_1 : Int):=of_decide_eq_true (by first|(with_reducible assumption)|assumption)
    have q108 : x7_1 < (l0.length : Int):=of_decide_eq_true (by first|(with_reducible assumption)|assumption)
    obtain ⟨ad108,e108,hx108_0⟩:=Kd.at_string HR0.out x7_1 p108 q108
    cases e108
    replace hx108_0:=(HB.out.cell (wB w _ hx108_0)).trans hx108_0
    replace p108:=eq_true p108
    replace q108:=eq_true q108
    go_wp2_with (first|((with_reducible refine gC (f:=50) rfl ?_);refine goesL_ (some 13) rfl rfl Tryd.func50 (by kernel_rfl) rfl #[.string (rdOf ByteArray.empty l0 x7_1)] rfl (by (try simp only [mT,mC,mN]);first|done|rfl|(simp only [lD,lT];rfl)) ?_;(with_reducible refine (script_Name.calls (rdOf ByteArray.empty l0 x7_1) false _ ?side1 A5.out).mono ?_);(case side1=>exact Glob.below HG.out (by repeat (first|(with_reducible first|exact HB.out|apply bL|apply pN|apply bE)|exact HB.out)));rintro e w15 ⟨rfl,hb⟩;refine ⟨_,rfl,?_⟩;have n0_:=Am (below_step (by repeat (first|(with_reducible first|exact HB.out|apply bL|apply pN|apply bE)|exact HB.out)) hb);clear HB;have HB:=n0_;clear n0_))
    go_ret
    exact ⟨by first|rfl|(simp [errW_none,errW_some] <;> rfl)|(simp [*,errW_none,errW_some] <;> rfl),by repeat (first|(with_reducible first|exact HB.out|apply bL|apply pN|apply bE)|exact HB.out)⟩
   subst c6
   have H1 : (if x7_1≤(l0.length : Int) then ((slices_Contains_string_string.f k1 (l0.take (x7_1 : Int).toNat) (rdOf ByteArray.empty l0 x7_1)).bind fun t111=>(if t111 = true then (some false) else (conf_names.l0 k1 l0 l0 (l0.length : Int) (wrap64 (x7_1 + 1))))) else (none)) = some r:=by rw [if_pos rfl] at H;exact H
   clear H
   have H:=H1
   clear H1
   have c7b0:=eq_true (of_decide_eq_true (by first|(with_reducible assumption)|assumption) : 0≤x7_1)
   by_cases c8 : x7_1≤(l0.length : Int)
   rotate_left
   ·rw [if_neg c8] at H
    exact absurd H (by simp)
   rw [if_pos c8] at H
   have c8b0:=eq_true c8
   have c8b1 : decide (x7_1≤(l0.length : Int)) = true:=decide_eq_true c8
   clear c8
   replace H:=oB H
   obtain ⟨t111,A90,H⟩:=H
   try dsimp only at H
   have A9:=Am A90
   clear A90
   by_cases c10 : t111 = true
   ·subst c10
    have H1 : (some false) = some r:=by rw [if_pos rfl] at H;exact H
    clear H
    have H:=H1
    clear H1
    obtain rfl:=Option.some.inj H
    have p108 : 0≤(x7_1 : Int):=of_decide_eq_true (by first|(with_reducible assumption)|assumption)
    have q108 : x7_1 < (l0.length : Int):=of_decide_eq_true (by first|(with_reducible assumption)|assumption)
    obtain ⟨ad108,e108,hx108_0⟩:=Kd.at_string HR0.out x7_1 p108 q108
    cases e108
    replace hx108_0:=(HB.out.cell (wB w _ hx108_0)).trans hx108_0
    replace p108:=eq_true p108
    replace q108:=eq_true q108
    go_wp2_with (first|((with_reducible refine gC (f:=50) rfl ?_);refine goesL_ (some 13) rfl rfl Tryd.func50 (by kernel_rfl) rfl #[.string (rdOf ByteArray.empty l0 x7_1)] rfl (by (try simp only [mT,mC,mN]);first|done|rfl|(simp only [lD,lT];rfl)) ?_;(with_reducible refine (script_Name.calls (rdOf ByteArray.empty l0 x7_1) true _ ?side1 A5.out).mono ?_);(case side1=>exact Glob.below HG.out (by repeat (first|(with_reducible first|exact HB.out|apply bL|apply pN|apply bE)|exact HB.out)));rintro e w11 ⟨rfl,hb⟩;refine ⟨_,rfl,?_⟩;have n0_:=Am (below_step (by repeat (first|(with_reducible first|exact HB.out|apply bL|apply pN|apply bE)|exact HB.out)) hb);clear HB;have HB:=n0_;clear n0_;obtain ⟨i012,hi012,_,hsz12,_⟩:=info_parts info9;obtain ⟨hcut12,hA12,hC12⟩:=print_take_of (P:=Tryd.prog) Value.string (⟨#[]⟩ : ByteArray) 58 9 .i64 Tryd.underlying58 hi012 hsz12 (some ad108) c0 l0 x7_1 (of_decide_eq_true (by first|(with_reducible assumption)|assumption)) (of_decide_eq_true (by first|(with_reducible assumption)|assumption)) HC0.out;have HR110:=Am (Kd.C_of_reads (h1:=fun _=>rfl) (hA12 _ (Kd.reads_of_C HR0.out)));have HC110:=Am hC12;clear hA12 hC12 hi012 hsz12)|(go_at_call 40;refine calls_of_args (args':=#[.slice _ (l0.take (x7_1 : Int).toNat).length _,.string (rdOf ByteArray.empty l0 x7_1)]) (by first|rfl|(have hl_ : (l0.take (x7_1 : Int).toNat).length = (x7_1 : Int).toNat:=List.length_take_of_le (by have h_ : (x7_1≤(l0.length : Int)) = True:=(by assumption);have h2_:=of_eq_true h_;omega);rw [hl_])) ?_;(with_reducible refine (slices_Contains_string_string.calls k1 _ _ (l0.take (x7_1 : Int).toNat) (rdOf ByteArray.empty l0 x7_1) true _ ?side1 ?side2 A9.out).mono ?_);(case side1=>repeat (first|exact (Kd.C_below HR110.out HB.out)|(with_reducible refine Kd.C_alloc ?_ _)|(with_reducible refine Kd.C_drewN ?_ _)|(with_reducible refine Kd.C_drew ?_)));(case side2=>exact HC110.out);rintro e w' ⟨rfl,⟨nd,rfl⟩⟩))
    go_ret
    exact ⟨by first|rfl|(simp [errW_none,errW_some] <;> rfl)|(simp [*,errW_none,errW_some] <;> rfl),by repeat (first|(with_reducible first|exact HB.out|apply bL|apply pN|apply bE)|exact HB.out)⟩
   replace c10:=Bool.eq_false_iff.mpr c10
   subst c10
   have H1 : (conf_names.l0 k1 l0 l0 (l0.length : Int) (wrap64 (x7_1 + 1))) = some r:=by rw [if_neg (show ¬ (false = true) by decide)] at H;exact H
   clear H
   have H:=H1
   clear H1
   have H':=Am H
   clear H
   have p108 : 0≤(x7_1 : Int):=of_decide_eq_true (by first|(with_reducible assumption)|assumption)
   have q108 : x7_1 < (l0.length : Int):=of_decide_eq_true (by first|(with_reducible assumption)|assumption)
   obtain ⟨ad108,e108,hx108_0⟩:=Kd.at_string HR0.out x7_1 p108 q108
   cases e108
   replace hx108_0:=(HB.out.cell (wB w _ hx108_0)).trans hx108_0
   replace p108:=eq_true p108
   replace q108:=eq_true q108
   go_wp2_with (first|((with_reducible refine gC (f:=50) rfl ?_);refine goesL_ (some 13) rfl rfl Tryd.func50 (by kernel_rfl) rfl #[.string (rdOf ByteArray.empty l0 x7_1)] rfl (by (try simp only [mT,mC,mN]);first|done|rfl|(simp only [lD,lT];rfl)) ?_;(with_reducible refine (script_Name.calls (rdOf ByteArray.empty l0 x7_1) true _ ?side1 A5.out).mono ?_);(case side1=>exact Glob.below HG.out (by repeat (first|(with_reducible first|exact HB.out|apply bL|apply pN|apply bE)|exact HB.out)));rintro e w13 ⟨rfl,hb⟩;refine ⟨_,rfl,?_⟩;have n0_:=Am (below_step (by repeat (first|(with_reducible first|exact HB.out|apply bL|apply pN|apply bE)|exact HB.out)) hb);clear HB;have HB:=n0_;clear n0_;obtain ⟨i014,hi014,_,hsz14,_⟩:=info_parts info9;obtain ⟨hcut14,hA14,hC14⟩:=print_take_of (P:=Tryd.prog) Value.string (⟨#[]⟩ : ByteArray) 58 9 .i64 Tryd.underlying58 hi014 hsz14 (some ad108) c0 l0 x7_1 (of_decide_eq_true (by first|(with_reducible assumption)|assumption)) (of_decide_eq_true (by first|(with_reducible assumption)|assumption)) HC0.out;have HR110:=Am (Kd.C_of_reads (h1:=fun _=>rfl) (hA14 _ (Kd.reads_of_C HR0.out)));have HC110:=Am hC14;clear hA14 hC14 hi014 hsz14)|(go_at_call 40;refine calls_of_args (args':=#[.slice _ (l0.take (x7_1 : Int).toNat).length _,.string (rdOf ByteArray.empty l0 x7_1)]) (by first|rfl|(have hl_ : (l0.take (x7_1 : Int).toNat).length = (x7_1 : Int).toNat:=List.length_take_of_le (by have h_ : (x7_1≤(l0.length : Int)) = True:=(by assumption);have h2_:=of_eq_true h_;omega);rw [hl_])) ?_;(with_reducible refine (slices_Contains_string_string.calls k1 _ _ (l0.take (x7_1 : Int).toNat) (rdOf ByteArray.empty l0 x7_1) false _ ?side1 ?side2 A9.out).mono ?_);(case side1=>repeat (first|exact (Kd.C_below HR110.out HB.out)|(with_reducible refine Kd.C_alloc ?_ _)|(with_reducible refine Kd.C_drewN ?_ _)|(with_reducible refine Kd.C_drew ?_)));(case side2=>exact HC110.out);rintro e w' ⟨rfl,⟨nd,rfl⟩⟩))
   go_roundg k1
   case measure=>have:=HK1.out;omega
   case rel=>exact ⟨(wrap64 (x7_1 + 1)),(by first|rfl|(simp;done)|(simp [*];done)),H',⟨by have:=HK1.out;omega⟩,⟨by repeat (first|(with_reducible first|exact HB.out|apply bL|apply pN|apply bE)|exact HB.out)⟩⟩
def conf_parts.l0 : Nat→List (S50)→List ByteArray→List (S50)→Int→Int→Option (Bool)
 | 0,_,_,_,_,_=>none
 | k + 1,x0,x3,x6,x7,x8=>if x8 < x7 then (if 0≤x8 then (if x8 < (x6.length : Int) then ((conf_in.f ((rd_T50 x6 x8).f1) 0 10).bind fun t116=>(if t116 = true then ((conf_in.f ((rd_T50 x6 x8).f2) 0 1048576).bind fun t117=>(if t117 = true then ((conf_in.f ((rd_T50 x6 x8).f3) 1 1073741824).bind fun t118=>(if t118 = true then (if x3.length < 8796093022208 then (conf_parts.l0 k x0 (x3 ++ [(rd_T50 x6 x8).f0]) x6 x7 (wrap64 (x8 + 1))) else (none)) else (some false))) else (some false))) else (some false))) else (none)) else (none)) else ((conf_in.f (x0.length : Int) 1 8).bind fun t112=>(if t112 = true then ((conf_names.f k x3).bind fun t113=>(some t113)) else (some false)))
def conf_parts.f (k : Nat) (l0 : List (S50)) : Option (Bool):=conf_parts.l0 k l0 ([] : List ByteArray) l0 (l0.length : Int) 0
theorem conf_parts.mono_l : ∀ k,(∀ y0 y1 y2 y3 y4,LeO (conf_parts.l0 k y0 y1 y2 y3 y4) (conf_parts.l0 (k + 1) y0 y1 y2 y3 y4))
 | 0=>fun _ _ _ _ _ r h=>by simp [conf_parts.l0] at h
 | k + 1=>by
  have ih0:=conf_parts.mono_l k
  ·intro y0 y1 y2 y3 y4
   unfold conf_parts.l0
   repeat' first
   | (with_reducible exact ih0 _ _ _ _ _)
   | (with_reducible exact conf_names.mono _ _)
   | (with_reducible exact LeO.refl _)
   | (with_reducible exact LeO.none _)
   | (with_reducible refine LeO.ite ?_ ?_)
   | (with_reducible refine LeO.bind ?_ (fun _=>?_))
   | exact ih0 _ _ _ _ _
   | exact conf_names.mono _ _
   | exact LeO.none _
   | refine LeO.ite ?_ ?_
   | refine LeO.bind ?_ (fun _=>?_)
theorem conf_parts.mono : ∀ a0 k,LeO (conf_parts.f k a0) (conf_parts.f (k + 1) a0):=by
 intro a0 k
 have ih0:=conf_parts.mono_l k
 unfold conf_parts.f
 repeat' first
   | (with_reducible exact ih0 _ _ _ _ _)
   | (with_reducible exact conf_names.mono _ _)
   | (with_reducible exact LeO.refl _)
   | (with_reducible exact LeO.none _)
   | (with_reducible refine LeO.ite ?_ ?_)
   | (with_reducible refine LeO.bind ?_ (fun _=>?_))
   | exact ih0 _ _ _ _ _
   | exact conf_names.mono _ _
   | exact LeO.none _
   | refine LeO.ite ?_ ?_
   | refine LeO.bind ?_ (fun _=>?_)
set_option maxHeartbeats 8000000 in
set_option maxRecDepth 100000 in
theorem conf_parts.calls (k : Nat) (A0 : Option Addr) (c0 : Nat) (l0 : List (S50)) (r : Bool) (w : World) (hG : Glob w) (hr0 : Kd.C k50 w A0 l0.length l0) (hc0 : l0.length≤c0) (h : conf_parts.f k l0 = some r) :
  Calls Tryd.prog 25 #[.slice A0 l0.length c0] w fun e w'=>e = .returned (.bool r)∧Below w.heap.size w w':=by
 have hu50:=Tryd.underlying50
 have HG:=Am hG
 clear hG
 have HR0:=Am hr0
 have HC0:=Am hc0
 clear hr0 hc0
 have HB:=Am (Below.refl w.heap.size w)
 have H : (conf_parts.l0 k l0 ([] : List ByteArray) l0 (l0.length : Int) 0) = some r:=h
 clear h
 have H':=Am H
 clear H
 go_enter Tryd.func25,Tryd.ntmps25
 go_wp2
 go_loopg [3,8] k (fun kq v3 v8 w'=>∃ (x3_1 : List ByteArray) (x8_1 : Int),v8 = .int .i64 x8_1∧Aside0 (conf_parts.l0 kq l0 x3_1 l0 (l0.length : Int) x8_1 = some r)∧Aside0 (kq≤k)∧Aside0 (Kd.R Kd.string 9 w' w.heap.size (fun _=>True) v3 x3_1)∧Aside0 (Below w.heap.size w w'))
 case atStart=>exact ⟨(([] : List ByteArray)),(0),(by first|rfl|(simp;done)|(simp [*];done)),H',⟨Nat.le_refl _⟩,⟨by first|exact Kd.R_nil _ _ _ _ _|exact Kd.N_nil _ _ _ _ _|exact Kd.V_nil _ _ _ _ _|exact Kd.Q_nil _ _ _ _ _|exact Kd.S_nil _ _ _ _ _⟩,⟨by repeat (first|(with_reducible first|exact HB.out|apply bL|apply pN|apply bE)|exact HB.out)⟩⟩
 case round =>
  clear H'
  obtain ⟨x3_1,x8_1,rfl,HA,HK1,HO_3,HB⟩:=hrel
  cases gk with
  | zero=>exact absurd HA.out (by simp [conf_parts.l0])
  | succ k1 =>
   have H:=HA.out
   clear HA
   simp only [conf_parts.l0] at H
   by_cases c2 : x8_1 < (l0.length : Int)
   rotate_left
   ·rw [if_neg c2] at H
    have c2b0 : decide (x8_1 < (l0.length : Int)) = false:=decide_eq_false c2
    clear c2
    replace H:=oB H
    obtain ⟨t112,A210,H⟩:=H
    try dsimp only at H
    have A21:=Am A210
    clear A210
    by_cases c22 : t112 = true
    rotate_left
    ·replace c22:=Bool.eq_false_iff.mpr c22
     subst c22
     have H1 : (some false) = some r:=by rw [if_neg (show ¬ (false = true) by decide)] at H;exact H
     clear H
     have H:=H1
     clear H1
     obtain rfl:=Option.some.inj H
     go_wp2_with (first|((with_reducible refine gC (f:=24) rfl ?_);refine goesL_ (some 36) rfl rfl Tryd.func24 (by kernel_rfl) rfl #[.int .i64 (l0.length : Int),.int .i64 1,.int .i64 8] rfl (by (try simp only [mT,mC,mN]);first|done|rfl|(simp only [lD,lT];rfl)) ?_;(with_reducible refine (conf_in.calls (l0.length : Int) 1 8 false _ A21.out).mono ?_);rintro e w' ⟨rfl,⟨nd,rfl⟩⟩;refine ⟨_,rfl,?_⟩))
     go_ret
     exact ⟨by first|rfl|(simp [errW_none,errW_some] <;> rfl)|(simp [*,errW_none,errW_some] <;> rfl),by repeat (first|(with_reducible first|exact HB.out|apply bL|apply pN|apply bE)|exact HB.out)⟩
    subst c22
    have H1 : ((conf_names.f k1 x3_1).bind fun t113=>(some t113)) = some r:=by rw [if_pos rfl] at H;exact H
    clear H
    have H:=H1
    clear H1
    replace H:=oB H
    obtain ⟨t113,A230,H⟩:=H
    try dsimp only at H
    have A23:=Am A230
    clear A230
    obtain rfl:=Option.some.inj H
    go_wp2_with (first|((with_reducible refine gC (f:=24) rfl ?_);refine goesL_ (some 36) rfl rfl Tryd.func24 (by kernel_rfl) rfl #[.int .i64 (l0.length : Int),.int .i64 1,.int .i64 8] rfl (by (try simp only [mT,mC,mN]);first|done|rfl|(simp only [lD,lT];rfl)) ?_;(with_reducible refine (conf_in.calls (l0.length : Int) 1 8 true _ A21.out).mono ?_);rintro e w' ⟨rfl,⟨nd,rfl⟩⟩;refine ⟨_,rfl,?_⟩;obtain ⟨Ao24,co24,eo24⟩:=Kd.R_slice HO_3.out;subst eo24)|(go_at_call 39;(with_reducible refine (conf_names.calls k1 _ _ x3_1 t113 _ ?side1 ?side2 ?side3 A23.out).mono ?_);(case side1=>exact Glob.below HG.out (by repeat (first|(with_reducible first|exact HB.out|apply bL|apply pN|apply bE)|exact HB.out)));(case side2=>repeat (first|exact (Kd.R_reads' HO_3.out).2.2|(with_reducible refine Kd.C_alloc ?_ _)|(with_reducible refine Kd.C_drewN ?_ _)|(with_reducible refine Kd.C_drew ?_)));(case side3=>exact (Kd.R_reads' HO_3.out).2.1);rintro e w25 ⟨rfl,hb⟩;have n0_:=Am (Kd.R_below (by (with_reducible repeat (first|apply Kd.R_alloc|apply Kd.R_drewN|apply Kd.R_drew));exact HO_3.out) hb);have n1_:=Am (below_step (by repeat (first|(with_reducible first|exact HB.out|apply bL|apply pN|apply bE)|exact HB.out)) hb);clear HO_3;clear HB;have HO_3:=n0_;have HB:=n1_;clear n0_ n1_))
    go_ret
    exact ⟨by first|rfl|(simp [errW_none,errW_some] <;> rfl)|(simp [*,errW_none,errW_some] <;> rfl),by repeat (first|(with_reducible first|exact HB.out|apply bL|apply pN|apply bE)|exact HB.out)⟩
   rw [if_pos c2] at H
   have c2b0 : decide (x8_1 < (l0.length : Int)) = true:=decide_eq_true c2
   clear c2
   by_cases c3 : 0≤x8_1
   rotate_left
   ·rw [if_neg c3] at H
    exact absurd H (by simp)
   rw [if_pos c3] at H
   have c3b0 : decide (0≤x8_1) = true:=decide_eq_true c3
   clear c3
   by_cases c4 : x8_1 < (l0.length : Int)
   rotate_left
   ·rw [if_neg c4] at H
    exact absurd H (by simp)
   rw [if_pos c4] at H
   have c4b0 : decide (x8_1 < (l0.length : Int)) = true:=decide_eq_true c4
   clear c4
   replace H:=oB H
   obtain ⟨t116,A50,H⟩:=H
   try dsimp only at H
   have A5:=Am A50
   clear A50
   by_cases c6 : t116 = true
   rotate_left
   ·replace c6:=Bool.eq_false_iff.mpr c6
    subst c6
    have H1 : (some false) = some r:=by rw [if_neg (show ¬ (false = true) by decide)] at H;exact H
    clear H
    have H:=H1
    clear H1
    obtain rfl:=Option.some.inj H
    have p114 : 0≤(x8_1 : Int):=of_decide_eq_true (by first|(with_reducible assumption)|assumption)
    have q114 : x8_1 < (l0.length : Int):=of_decide_eq_true (by first|(with_reducible assumption)|assumption)
    obtain ⟨ad114,e114,hx114_0,hx114_1,hx114_2,hx114_3⟩:=at_T50 HR0.out x8_1 p114 q114
    cases e114
    replace hx114_0:=(HB.out.cell (wB w _ hx114_0)).trans hx114_0
    replace hx114_1:=(HB.out.cell (wB w _ hx114_1)).trans hx114_1
    replace hx114_2:=(HB.out.cell (wB w _ hx114_2)).trans hx114_2
    replace hx114_3:=(HB.out.cell (wB w _ hx114_3)).trans hx114_3
    replace p114:=eq_true p114
    replace q114:=eq_true q114
    go_wp2_with (first|((with_reducible refine gD (N:=5) rfl ?_);refine box_event ?hg (N:=5) ?hd (cs:=#[.string (⟨#[]⟩ : ByteArray),.int .i64 0,.int .i64 0,.int .i64 0]) (t:=50) ?hr ?_;(case hd=>rfl);(case hg=>rfl);(case hr=>first|(go_simp;done)|(go_simp;rfl));intro gb115 hg w19 hbox hb;have n0_:=Am (Kd.R_below (by (with_reducible repeat (first|apply Kd.R_alloc|apply Kd.R_drewN|apply Kd.R_drew));exact HO_3.out) hb);have n1_:=Am (below_step (by repeat (first|(with_reducible first|exact HB.out|apply bL|apply pN|apply bE)|exact HB.out)) hb);have n2_:=Am (hbox);have n3_:=Am ((by rw [hg];exact (bZ (by repeat (first|(with_reducible first|exact HB.out|apply bL|apply pN|apply bE)|exact HB.out))) : w.heap.size≤gb115));have n4_:=n3_;clear HO_3;clear HB;have HO_3:=n0_;have HB:=n1_;have BK115:=n2_;have GW115:=n3_;have GE115:=n4_;clear n0_ n1_ n2_ n3_ n4_;clear hb hbox hg;obtain ⟨X20_0,X20_1,X20_2,X20_3,Y20_0,Y20_1,Y20_2,Y20_3⟩:=kc4 (w:=w19) (g:=gb115) BK115.out)|((with_reducible refine gC (f:=24) rfl ?_);refine goesL_ (some 14) rfl rfl Tryd.func24 (by kernel_rfl) rfl #[.int .i64 ((rd_T50 l0 x8_1).f1),.int .i64 0,.int .i64 10] rfl (by (try simp only [mT,mC,mN]);first|done|rfl|(simp only [lD,lT];rfl)) ?_;(with_reducible refine (conf_in.calls ((rd_T50 l0 x8_1).f1) 0 10 false _ A5.out).mono ?_);rintro e w' ⟨rfl,⟨nd,rfl⟩⟩;refine ⟨_,rfl,?_⟩))
    go_ret
    exact ⟨by first|rfl|(simp [errW_none,errW_some] <;> rfl)|(simp [*,errW_none,errW_some] <;> rfl),by repeat (first|(with_reducible first|exact HB.out|apply bL|apply pN|apply bE|refine bS ?_ GE115.out)|exact HB.out)⟩
   subst c6
   have H1 : ((conf_in.f ((rd_T50 l0 x8_1).f2) 0 1048576).bind fun t117=>(if t117 = true then ((conf_in.f ((rd_T50 l0 x8_1).f3) 1 1073741824).bind fun t118=>(if t118 = true then (if x3_1.length < 8796093022208 then (conf_parts.l0 k1 l0 (x3_1 ++ [(rd_T50 l0 x8_1).f0]) l0 (l0.length : Int) (wrap64 (x8_1 + 1))) else (none)) else (some false))) else (some false))) = some r:=by rw [if_pos rfl] at H;exact H
   clear H
   have H:=H1
   clear H1
   replace H:=oB H
   obtain ⟨t117,A70,H⟩:=H
   try dsimp only at H
   have A7:=Am A70
   clear A70
   by_cases c8 : t117 = true
   rotate_left
   ·replace c8:=Bool.eq_false_iff.mpr c8
    subst c8
    have H1 : (some false) = some r:=by rw [if_neg (show ¬ (false = true) by decide)] at H;exact H
    clear H
    have H:=H1
    clear H1
    obtain rfl:=Option.some.inj H
    have p114 : 0≤(x8_1 : Int):=of_decide_eq_true (by first|(with_reducible assumption)|assumption)
    have q114 : x8_1 < (l0.length : Int):=of_decide_eq_true (by first|(with_reducible assumption)|assumption)
    obtain ⟨ad114,e114,hx114_0,hx114_1,hx114_2,hx114_3⟩:=at_T50 HR0.out x8_1 p114 q114
    cases e114
    replace hx114_0:=(HB.out.cell (wB w _ hx114_0)).trans hx114_0
    replace hx114_1:=(HB.out.cell (wB w _ hx114_1)).trans hx114_1
    replace hx114_2:=(HB.out.cell (wB w _ hx114_2)).trans hx114_2
    replace hx114_3:=(HB.out.cell (wB w _ hx114_3)).trans hx114_3
    replace p114:=eq_true p114
    replace q114:=eq_true q114
    go_wp2_with (first|((with_reducible refine gD (N:=5) rfl ?_);refine box_event ?hg (N:=5) ?hd (cs:=#[.string (⟨#[]⟩ : ByteArray),.int .i64 0,.int .i64 0,.int .i64 0]) (t:=50) ?hr ?_;(case hd=>rfl);(case hg=>rfl);(case hr=>first|(go_simp;done)|(go_simp;rfl));intro gb115 hg w17 hbox hb;have n0_:=Am (Kd.R_below (by (with_reducible repeat (first|apply Kd.R_alloc|apply Kd.R_drewN|apply Kd.R_drew));exact HO_3.out) hb);have n1_:=Am (below_step (by repeat (first|(with_reducible first|exact HB.out|apply bL|apply pN|apply bE)|exact HB.out)) hb);have n2_:=Am (hbox);have n3_:=Am ((by rw [hg];exact (bZ (by repeat (first|(with_reducible first|exact HB.out|apply bL|apply pN|apply bE)|exact HB.out))) : w.heap.size≤gb115));have n4_:=n3_;clear HO_3;clear HB;have HO_3:=n0_;have HB:=n1_;have BK115:=n2_;have GW115:=n3_;have GE115:=n4_;clear n0_ n1_ n2_ n3_ n4_;clear hb hbox hg;obtain ⟨X18_0,X18_1,X18_2,X18_3,Y18_0,Y18_1,Y18_2,Y18_3⟩:=kc4 (w:=w17) (g:=gb115) BK115.out)|((with_reducible refine gC (f:=24) rfl ?_);refine goesL_ (some 14) rfl rfl Tryd.func24 (by kernel_rfl) rfl #[.int .i64 ((rd_T50 l0 x8_1).f1),.int .i64 0,.int .i64 10] rfl (by (try simp only [mT,mC,mN]);first|done|rfl|(simp only [lD,lT];rfl)) ?_;(with_reducible refine (conf_in.calls ((rd_T50 l0 x8_1).f1) 0 10 true _ A5.out).mono ?_);rintro e w' ⟨rfl,⟨nd,rfl⟩⟩;refine ⟨_,rfl,?_⟩)|(go_at_call 24;(with_reducible refine (conf_in.calls ((rd_T50 l0 x8_1).f2) 0 1048576 false _ A7.out).mono ?_);rintro e w' ⟨rfl,⟨nd,rfl⟩⟩))
    go_ret
    exact ⟨by first|rfl|(simp [errW_none,errW_some] <;> rfl)|(simp [*,errW_none,errW_some] <;> rfl),by repeat (first|(with_reducible first|exact HB.out|apply bL|apply pN|apply bE|refine bS ?_ GE115.out)|exact HB.out)⟩
   subst c8
   have H1 : ((conf_in.f ((rd_T50 l0 x8_1).f3) 1 1073741824).bind fun t118=>(if t118 = true then (if x3_1.length < 8796093022208 then (conf_parts.l0 k1 l0 (x3_1 ++ [(rd_T50 l0 x8_1).f0]) l0 (l0.length : Int) (wrap64 (x8_1 + 1))) else (none)) else (some false))) = some r:=by rw [if_pos rfl] at H;exact H
   clear H
   have H:=H1
   clear H1
   replace H:=oB H
   obtain ⟨t118,A90,H⟩:=H
   try dsimp only at H
   have A9:=Am A90
   clear A90
   by_cases c10 : t118 = true
   rotate_left
   ·replace c10:=Bool.eq_false_iff.mpr c10
    subst c10
    have H1 : (some false) = some r:=by rw [if_neg (show ¬ (false = true) by decide)] at H;exact H
    clear H
    have H:=H1
    clear H1
    obtain rfl:=Option.some.inj H
    have p114 : 0≤(x8_1 : Int):=of_decide_eq_true (by first|(with_reducible assumption)|assumption)
    have q114 : x8_1 < (l0.length : Int):=of_decide_eq_true (by first|(with_reducible assumption)|assumption)
    obtain ⟨ad114,e114,hx114_0,hx114_1,hx114_2,hx114_3⟩:=at_T50 HR0.out x8_1 p114 q114
    cases e114
    replace hx114_0:=(HB.out.cell (wB w _ hx114_0)).trans hx114_0
    replace hx114_1:=(HB.out.cell (wB w _ hx114_1)).trans hx114_1
    replace hx114_2:=(HB.out.cell (wB w _ hx114_2)).trans hx114_2
    replace hx114_3:=(HB.out.cell (wB w _ hx114_3)).trans hx114_3
    replace p114:=eq_true p114
    replace q114:=eq_true q114
    go_wp2_with (first|((with_reducible refine gD (N:=5) rfl ?_);refine box_event ?hg (N:=5) ?hd (cs:=#[.string (⟨#[]⟩ : ByteArray),.int .i64 0,.int .i64 0,.int .i64 0]) (t:=50) ?hr ?_;(case hd=>rfl);(case hg=>rfl);(case hr=>first|(go_simp;done)|(go_simp;rfl));intro gb115 hg w15 hbox hb;have n0_:=Am (Kd.R_below (by (with_reducible repeat (first|apply Kd.R_alloc|apply Kd.R_drewN|apply Kd.R_drew));exact HO_3.out) hb);have n1_:=Am (below_step (by repeat (first|(with_reducible first|exact HB.out|apply bL|apply pN|apply bE)|exact HB.out)) hb);have n2_:=Am (hbox);have n3_:=Am ((by rw [hg];exact (bZ (by repeat (first|(with_reducible first|exact HB.out|apply bL|apply pN|apply bE)|exact HB.out))) : w.heap.size≤gb115));have n4_:=n3_;clear HO_3;clear HB;have HO_3:=n0_;have HB:=n1_;have BK115:=n2_;have GW115:=n3_;have GE115:=n4_;clear n0_ n1_ n2_ n3_ n4_;clear hb hbox hg;obtain ⟨X16_0,X16_1,X16_2,X16_3,Y16_0,Y16_1,Y16_2,Y16_3⟩:=kc4 (w:=w15) (g:=gb115) BK115.out)|((with_reducible refine gC (f:=24) rfl ?_);refine goesL_ (some 14) rfl rfl Tryd.func24 (by kernel_rfl) rfl #[.int .i64 ((rd_T50 l0 x8_1).f1),.int .i64 0,.int .i64 10] rfl (by (try simp only [mT,mC,mN]);first|done|rfl|(simp only [lD,lT];rfl)) ?_;(with_reducible refine (conf_in.calls ((rd_T50 l0 x8_1).f1) 0 10 true _ A5.out).mono ?_);rintro e w' ⟨rfl,⟨nd,rfl⟩⟩;refine ⟨_,rfl,?_⟩)|(go_at_call 24;(with_reducible refine (conf_in.calls ((rd_T50 l0 x8_1).f2) 0 1048576 true _ A7.out).mono ?_);rintro e w' ⟨rfl,⟨nd,rfl⟩⟩)|(go_at_call 24;(with_reducible refine (conf_in.calls ((rd_T50 l0 x8_1).f3) 1 1073741824 false _ A9.out).mono ?_);rintro e w' ⟨rfl,⟨nd,rfl⟩⟩))
    go_ret
    exact ⟨by first|rfl|(simp [errW_none,errW_some] <;> rfl)|(simp [*,errW_none,errW_some] <;> rfl),by repeat (first|(with_reducible first|exact HB.out|apply bL|apply pN|apply bE|refine bS ?_ GE115.out)|exact HB.out)⟩
   subst c10
   have H1 : (if x3_1.length < 8796093022208 then (conf_parts.l0 k1 l0 (x3_1 ++ [(rd_T50 l0 x8_1).f0]) l0 (l0.length : Int) (wrap64 (x8_1 + 1))) else (none)) = some r:=by rw [if_pos rfl] at H;exact H
   clear H
   have H:=H1
   clear H1
   by_cases c11 : x3_1.length < 8796093022208
   rotate_left
   ·rw [if_neg c11] at H
    exact absurd H (by simp)
   rw [if_pos c11] at H
   have LMc11:=Am c11
   clear c11
   obtain ⟨y119,hy119⟩ : ∃ y_ : List ByteArray,y_ = (x3_1 ++ [(rd_T50 l0 x8_1).f0]):=⟨_,rfl⟩
   replace H : (conf_parts.l0 k1 l0 y119 l0 (l0.length : Int) (wrap64 (x8_1 + 1))) = some r:=by first|(rw [hy119];with_reducible exact H)|(have H2_:=(Option.bind_some _ _).symm.trans H;rw [hy119];with_reducible exact H2_)|(have H2_:=(Option.bind_some _ _).symm.trans H;with_reducible exact H2_)|with_reducible exact H|(rw [hy119];exact H)|exact H
   have Ny119:=Am hy119
   clear hy119
   have H':=Am H
   clear H
   have p114 : 0≤(x8_1 : Int):=of_decide_eq_true (by first|(with_reducible assumption)|assumption)
   have q114 : x8_1 < (l0.length : Int):=of_decide_eq_true (by first|(with_reducible assumption)|assumption)
   obtain ⟨ad114,e114,hx114_0,hx114_1,hx114_2,hx114_3⟩:=at_T50 HR0.out x8_1 p114 q114
   cases e114
   replace hx114_0:=(HB.out.cell (wB w _ hx114_0)).trans hx114_0
   replace hx114_1:=(HB.out.cell (wB w _ hx114_1)).trans hx114_1
   replace hx114_2:=(HB.out.cell (wB w _ hx114_2)).trans hx114_2
   replace hx114_3:=(HB.out.cell (wB w _ hx114_3)).trans hx114_3
   replace p114:=eq_true p114
   replace q114:=eq_true q114
   go_wp2_with (first|((with_reducible refine gD (N:=5) rfl ?_);refine box_event ?hg (N:=5) ?hd (cs:=#[.string (⟨#[]⟩ : ByteArray),.int .i64 0,.int .i64 0,.int .i64 0]) (t:=50) ?hr ?_;(case hd=>rfl);(case hg=>rfl);(case hr=>first|(go_simp;done)|(go_simp;rfl));intro gb115 hg w12 hbox hb;have n0_:=Am (Kd.R_below (by (with_reducible repeat (first|apply Kd.R_alloc|apply Kd.R_drewN|apply Kd.R_drew));exact HO_3.out) hb);have n1_:=Am (below_step (by repeat (first|(with_reducible first|exact HB.out|apply bL|apply pN|apply bE)|exact HB.out)) hb);have n2_:=Am (hbox);have n3_:=Am ((by rw [hg];exact (bZ (by repeat (first|(with_reducible first|exact HB.out|apply bL|apply pN|apply bE)|exact HB.out))) : w.heap.size≤gb115));have n4_:=n3_;clear HO_3;clear HB;have HO_3:=n0_;have HB:=n1_;have BK115:=n2_;have GW115:=n3_;have GE115:=n4_;clear n0_ n1_ n2_ n3_ n4_;clear hb hbox hg;obtain ⟨X13_0,X13_1,X13_2,X13_3,Y13_0,Y13_1,Y13_2,Y13_3⟩:=kc4 (w:=w12) (g:=gb115) BK115.out)|((with_reducible refine gC (f:=24) rfl ?_);refine goesL_ (some 14) rfl rfl Tryd.func24 (by kernel_rfl) rfl #[.int .i64 ((rd_T50 l0 x8_1).f1),.int .i64 0,.int .i64 10] rfl (by (try simp only [mT,mC,mN]);first|done|rfl|(simp only [lD,lT];rfl)) ?_;(with_reducible refine (conf_in.calls ((rd_T50 l0 x8_1).f1) 0 10 true _ A5.out).mono ?_);rintro e w' ⟨rfl,⟨nd,rfl⟩⟩;refine ⟨_,rfl,?_⟩)|(go_at_call 24;(with_reducible refine (conf_in.calls ((rd_T50 l0 x8_1).f2) 0 1048576 true _ A7.out).mono ?_);rintro e w' ⟨rfl,⟨nd,rfl⟩⟩)|(go_at_call 24;(with_reducible refine (conf_in.calls ((rd_T50 l0 x8_1).f3) 1 1073741824 true _ A9.out).mono ?_);rintro e w' ⟨rfl,⟨nd,rfl⟩⟩)|((with_reducible refine gate_builtin (b:=.append) (xs:=#[.tmp 28,.tmp 31]) rfl ?_);at_builtin;refine Kd.R_append Kd.string (w0:=w) w.heap.size rfl (.tmp 28) (.tmp 31) 58 9 (.string ⟨#[]⟩) 16 rfl Tryd.underlying58 info9 rfl (by decide) (by omega) u3 x3_1 ((rd_T50 l0 x8_1).f0) [.string ((rd_T50 l0 x8_1).f0)] (fun _=>True) (fun _=>False) rfl (by first|(go_simp;done)|(go_simp;rfl)) ?aP (fun _ hk=>hk.elim) ?aF ?aO ?aB ?aS ?aL ?_;(case aP=>exact rfl);(case aB=>exact (by repeat (first|(with_reducible first|exact HB.out|apply bL|apply pN|apply bE|refine bS ?_ GE115.out)|exact HB.out)));(case aF=>exact (fun _ _=>trivial));(case aO=>exact (by (with_reducible repeat (first|apply Kd.R_alloc|apply Kd.R_drewN|apply Kd.R_drew));exact Kd.R_mono (rf4 (g:=gb115) (Kd.R_types HO_3.out BK115.out (by decide)) (fun _ hk=>hk.2)) (fun _ hk=>trivial)));(case aS=>exact (bZ (by repeat (first|(with_reducible first|exact HB.out|apply bL|apply pN|apply bE|refine bS ?_ GE115.out)|exact HB.out))));(case aL=>have:=LMc11.out;omega);intro v120 w14 ho hb hg hat;rw [← Ny119.out] at ho;have n0_:=Am (blk_grown (g:=gb115) (o:=.cells #[.string ((rd_T50 l0 x8_1).f0),.int .i64 ((rd_T50 l0 x8_1).f1),.int .i64 ((rd_T50 l0 x8_1).f2),.int .i64 ((rd_T50 l0 x8_1).f3)] 50 (0,0)) (by (with_reducible repeat (first|refine bN ?_ _|refine bD ?_|refine bA ?_ _));refine blk_put (cs:=#[.string ((rd_T50 l0 x8_1).f0),.int .i64 ((rd_T50 l0 x8_1).f1),.int .i64 ((rd_T50 l0 x8_1).f2),.int .i64 0]) ?_ 3 _ rfl;(with_reducible repeat (first|refine bN ?_ _|refine bD ?_|refine bA ?_ _));refine blk_put (cs:=#[.string ((rd_T50 l0 x8_1).f0),.int .i64 ((rd_T50 l0 x8_1).f1),.int .i64 0,.int .i64 0]) ?_ 2 _ rfl;(with_reducible repeat (first|refine bN ?_ _|refine bD ?_|refine bA ?_ _));refine blk_put (cs:=#[.string ((rd_T50 l0 x8_1).f0),.int .i64 0,.int .i64 0,.int .i64 0]) ?_ 1 _ rfl;(with_reducible repeat (first|refine bN ?_ _|refine bD ?_|refine bA ?_ _));refine blk_put (cs:=#[.string (⟨#[]⟩ : ByteArray),.int .i64 0,.int .i64 0,.int .i64 0]) ?_ 0 _ rfl;(with_reducible repeat (first|refine bN ?_ _|refine bD ?_|refine bA ?_ _));exact BK115.out) hg (Kd.R_ne HO_3.out BK115.out (by decide)));have n1_:=Am (hb);have n2_:=Am (ho);clear BK115;clear HB;clear HO_3;have BK115:=n0_;have HB:=n1_;have HO121:=n2_;clear n0_ n1_ n2_;clear ho hb hg hat))
   go_roundg k1
   case measure=>have:=HK1.out;omega
   case rel=>exact ⟨(y119),(wrap64 (x8_1 + 1)),(by first|rfl|(simp;done)|(simp [*];done)),H',⟨by have:=HK1.out;omega⟩,⟨by (with_reducible repeat (first|apply Kd.R_alloc|apply Kd.R_drewN|apply Kd.R_drew));exact HO121.out⟩,⟨by repeat (first|(with_reducible first|exact HB.out|apply bL|apply pN|apply bE|refine bS ?_ GE115.out)|exact HB.out)⟩⟩
end Go.Proofs.YtgidipomfbikiaaDoor.P
