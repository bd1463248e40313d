/- cut to what one law reaches -/
import Derived.Test.YtakdneopmojjdaaDoorBfShort
import Derived.Test.YtakdneopmojjdaaDoorBfP0
namespace Go.Proofs.YtakdneopmojjdaaDoor.P
open Go.RowKit Go.Proofs.YtakdneopmojjdaaDoorW.PrintWords Go.Proofs.YtakdneopmojjdaaDoorW.PrintLast Go.Proofs.YtakdneopmojjdaaDoorW.PrintMore
attribute [local go_sem] max2_int min2_int max_two min_two max_three min_three max_four min_four   -- for this text's walks alone
set_option linter.unusedVariables false
set_option linter.unusedSimpArgs false
attribute [local go_sem] isSome_setCell
def book_names.f  : Option (ByteArray × ByteArray × ByteArray × ByteArray × ByteArray × ByteArray × ByteArray × ByteArray × ByteArray):=some ((⟨#[114,101,113,117,101,117,101,100]⟩ : ByteArray),(⟨#[]⟩ : ByteArray),(⟨#[]⟩ : ByteArray),(⟨#[]⟩ : ByteArray),(⟨#[]⟩ : ByteArray),(⟨#[100,111,110,101]⟩ : ByteArray),(⟨#[102,97,105,108,101,100]⟩ : ByteArray),(⟨#[99,97,110,99,101,108,108,101,100]⟩ : ByteArray),(⟨#[108,97,116,101]⟩ : ByteArray))
set_option maxHeartbeats 8000000 in
set_option maxRecDepth 100000 in
theorem book_names.calls  (r1 : ByteArray) (r2 : ByteArray) (r3 : ByteArray) (r4 : ByteArray) (r5 : ByteArray) (r6 : ByteArray) (r7 : ByteArray) (r8 : ByteArray) (r9 : ByteArray) (w : World) (h : book_names.f  = some (r1,r2,r3,r4,r5,r6,r7,r8,r9)) :
  Calls Tryd.prog 22 #[] w fun e w'=>e = .returned (.agg #[.string r1,.string r2,.string r3,.string r4,.string r5,.string r6,.string r7,.string r8,.string r9])∧Below w.heap.size w w':=by
 have hu50:=Tryd.underlying50
 have HB:=Am (Below.refl w.heap.size w)
 have H : (some ((⟨#[114,101,113,117,101,117,101,100]⟩ : ByteArray),(⟨#[]⟩ : ByteArray),(⟨#[]⟩ : ByteArray),(⟨#[]⟩ : ByteArray),(⟨#[]⟩ : ByteArray),(⟨#[100,111,110,101]⟩ : ByteArray),(⟨#[102,97,105,108,101,100]⟩ : ByteArray),(⟨#[99,97,110,99,101,108,108,101,100]⟩ : ByteArray),(⟨#[108,97,116,101]⟩ : ByteArray))) = some (r1,r2,r3,r4,r5,r6,r7,r8,r9):=h
 clear h
 simp only [Option.some.injEq,Prod.mk.injEq] at H
 obtain ⟨rfl,rfl,rfl,rfl,rfl,rfl,rfl,rfl,rfl⟩:=H
 go_enter Tryd.func22,Tryd.ntmps22
 go_wp2_with (first|((with_reducible refine gD (N:=0) rfl ?_);refine box_event ?hg (N:=0) ?hd (cs:=#[.string (⟨#[]⟩ : ByteArray),.string (⟨#[]⟩ : ByteArray),.string (⟨#[]⟩ : ByteArray),.string (⟨#[]⟩ : ByteArray),.string (⟨#[]⟩ : ByteArray),.string (⟨#[]⟩ : ByteArray),.string (⟨#[]⟩ : ByteArray),.string (⟨#[]⟩ : ByteArray),.string (⟨#[]⟩ : ByteArray)]) (t:=50) ?hr ?_;(case hd=>rfl);(case hg=>rfl);(case hr=>first|(go_simp;done)|(go_simp;rfl));intro gb101 hg w1 hbox hb;have n0_:=Am (below_step (by repeat (first|(with_reducible first|exact HB.out|apply bL|apply pN|apply bE)|exact HB.out)) hb);have n1_:=Am (hbox);have n2_:=Am ((by rw [hg];exact (bZ (by repeat (first|(with_reducible first|exact HB.out|apply bL|apply pN|apply bE)|exact HB.out))) : w.heap.size≤gb101));have n3_:=n2_;clear HB;have HB:=n0_;have BK101:=n1_;have GW101:=n2_;have GE101:=n3_;clear n0_ n1_ n2_ n3_;clear hb hbox hg;obtain ⟨X2_0,X2_1,X2_2,X2_3,X2_4,X2_5,X2_6,X2_7,X2_8,Y2_0,Y2_1,Y2_2,Y2_3,Y2_4,Y2_5,Y2_6,Y2_7,Y2_8⟩:=kc9 (w:=w1) (g:=gb101) BK101.out))
 refine bodyPost_ret (results_cell_row rfl _ _ gb101 50 #[.string (⟨#[114,101,113,117,101,117,101,100]⟩ : ByteArray),.string (⟨#[]⟩ : ByteArray),.string (⟨#[]⟩ : ByteArray),.string (⟨#[]⟩ : ByteArray),.string (⟨#[]⟩ : ByteArray),.string (⟨#[100,111,110,101]⟩ : ByteArray),.string (⟨#[102,97,105,108,101,100]⟩ : ByteArray),.string (⟨#[99,97,110,99,101,108,108,101,100]⟩ : ByteArray),.string (⟨#[108,97,116,101]⟩ : ByteArray)] (0,0) _ rfl (by (with_reducible repeat (first|refine bN ?_ _|refine bD ?_|refine bA ?_ _));refine blk_put (cs:=#[.string (⟨#[114,101,113,117,101,117,101,100]⟩ : ByteArray),.string (⟨#[]⟩ : ByteArray),.string (⟨#[]⟩ : ByteArray),.string (⟨#[]⟩ : ByteArray),.string (⟨#[]⟩ : ByteArray),.string (⟨#[100,111,110,101]⟩ : ByteArray),.string (⟨#[102,97,105,108,101,100]⟩ : ByteArray),.string (⟨#[99,97,110,99,101,108,108,101,100]⟩ : ByteArray),.string (⟨#[]⟩ : ByteArray)]) ?_ 8 _ rfl;(with_reducible repeat (first|refine bN ?_ _|refine bD ?_|refine bA ?_ _));refine blk_put (cs:=#[.string (⟨#[114,101,113,117,101,117,101,100]⟩ : ByteArray),.string (⟨#[]⟩ : ByteArray),.string (⟨#[]⟩ : ByteArray),.string (⟨#[]⟩ : ByteArray),.string (⟨#[]⟩ : ByteArray),.string (⟨#[100,111,110,101]⟩ : ByteArray),.string (⟨#[102,97,105,108,101,100]⟩ : ByteArray),.string (⟨#[]⟩ : ByteArray),.string (⟨#[]⟩ : ByteArray)]) ?_ 7 _ rfl;(with_reducible repeat (first|refine bN ?_ _|refine bD ?_|refine bA ?_ _));refine blk_put (cs:=#[.string (⟨#[114,101,113,117,101,117,101,100]⟩ : ByteArray),.string (⟨#[]⟩ : ByteArray),.string (⟨#[]⟩ : ByteArray),.string (⟨#[]⟩ : ByteArray),.string (⟨#[]⟩ : ByteArray),.string (⟨#[100,111,110,101]⟩ : ByteArray),.string (⟨#[]⟩ : ByteArray),.string (⟨#[]⟩ : ByteArray),.string (⟨#[]⟩ : ByteArray)]) ?_ 6 _ rfl;(with_reducible repeat (first|refine bN ?_ _|refine bD ?_|refine bA ?_ _));refine blk_put (cs:=#[.string (⟨#[114,101,113,117,101,117,101,100]⟩ : ByteArray),.string (⟨#[]⟩ : ByteArray),.string (⟨#[]⟩ : ByteArray),.string (⟨#[]⟩ : ByteArray),.string (⟨#[]⟩ : ByteArray),.string (⟨#[]⟩ : ByteArray),.string (⟨#[]⟩ : ByteArray),.string (⟨#[]⟩ : ByteArray),.string (⟨#[]⟩ : ByteArray)]) ?_ 5 _ rfl;(with_reducible repeat (first|refine bN ?_ _|refine bD ?_|refine bA ?_ _));refine blk_put (cs:=#[.string (⟨#[114,101,113,117,101,117,101,100]⟩ : ByteArray),.string (⟨#[]⟩ : ByteArray),.string (⟨#[]⟩ : ByteArray),.string (⟨#[]⟩ : ByteArray),.string (⟨#[]⟩ : ByteArray),.string (⟨#[]⟩ : ByteArray),.string (⟨#[]⟩ : ByteArray),.string (⟨#[]⟩ : ByteArray),.string (⟨#[]⟩ : ByteArray)]) ?_ 4 _ rfl;(with_reducible repeat (first|refine bN ?_ _|refine bD ?_|refine bA ?_ _));refine blk_put (cs:=#[.string (⟨#[114,101,113,117,101,117,101,100]⟩ : ByteArray),.string (⟨#[]⟩ : ByteArray),.string (⟨#[]⟩ : ByteArray),.string (⟨#[]⟩ : ByteArray),.string (⟨#[]⟩ : ByteArray),.string (⟨#[]⟩ : ByteArray),.string (⟨#[]⟩ : ByteArray),.string (⟨#[]⟩ : ByteArray),.string (⟨#[]⟩ : ByteArray)]) ?_ 3 _ rfl;(with_reducible repeat (first|refine bN ?_ _|refine bD ?_|refine bA ?_ _));refine blk_put (cs:=#[.string (⟨#[114,101,113,117,101,117,101,100]⟩ : ByteArray),.string (⟨#[]⟩ : ByteArray),.string (⟨#[]⟩ : ByteArray),.string (⟨#[]⟩ : ByteArray),.string (⟨#[]⟩ : ByteArray),.string (⟨#[]⟩ : ByteArray),.string (⟨#[]⟩ : ByteArray),.string (⟨#[]⟩ : ByteArray),.string (⟨#[]⟩ : ByteArray)]) ?_ 2 _ rfl;(with_reducible repeat (first|refine bN ?_ _|refine bD ?_|refine bA ?_ _));refine blk_put (cs:=#[.string (⟨#[114,101,113,117,101,117,101,100]⟩ : ByteArray),.string (⟨#[]⟩ : ByteArray),.string (⟨#[]⟩ : ByteArray),.string (⟨#[]⟩ : ByteArray),.string (⟨#[]⟩ : ByteArray),.string (⟨#[]⟩ : ByteArray),.string (⟨#[]⟩ : ByteArray),.string (⟨#[]⟩ : ByteArray),.string (⟨#[]⟩ : ByteArray)]) ?_ 1 _ rfl;(with_reducible repeat (first|refine bN ?_ _|refine bD ?_|refine bA ?_ _));refine blk_put (cs:=#[.string (⟨#[]⟩ : ByteArray),.string (⟨#[]⟩ : ByteArray),.string (⟨#[]⟩ : ByteArray),.string (⟨#[]⟩ : ByteArray),.string (⟨#[]⟩ : ByteArray),.string (⟨#[]⟩ : ByteArray),.string (⟨#[]⟩ : ByteArray),.string (⟨#[]⟩ : ByteArray),.string (⟨#[]⟩ : ByteArray)]) ?_ 0 _ rfl;(with_reducible repeat (first|refine bN ?_ _|refine bD ?_|refine bA ?_ _));exact BK101.out) Tryd.underlying50 rfl (by kernel_rfl)) rfl ?_
 exact ⟨by first|rfl|(simp [errW_none,errW_some] <;> rfl)|(simp [*,errW_none,errW_some] <;> rfl),by repeat (first|(with_reducible first|exact HB.out|apply bL|apply pN|apply bE|refine bS ?_ GE101.out)|exact HB.out)⟩
-- NOT PRINTED: function 58 (utf8_decodeRuneInStringSlow)
-- NOT PRINTED: function 40 (utf8_DecodeRuneInString)
-- NOT PRINTED: function 41 (utf8_RuneCountInString)
def okRune (c : Nat) : Bool:=(decide (97≤c) && decide (c≤122)) || (decide (65≤c) && decide (c≤90)) || (decide (48≤c) && decide (c≤57)) || c == 45 || c == 95 || c == 46 || decide (160 < c)
def nameAt : Nat→ByteArray→Nat→Bool
 | 0,_,_=>false
 | k + 1,s,pos=>if pos < s.size then
   (if (Utf8.decode s pos).1 = 65533∧(Lib.decodeGo (s.extract pos s.size)).2 = 1 then false else if okRune (Utf8.decode s pos).1 = true then nameAt k s (pos + (Utf8.decode s pos).2) else false)
  else !s.toList.isEmpty && decide (Lib.runeCount s≤32)
def script_Name.f (a0 : ByteArray) : Option Bool:=if a0.size≤140737488351232 then some (nameAt (a0.size + 1) a0 0) else none
theorem below_then {B : Nat} {w0 w3 w4 : World} (h : Below B w0 w3) (k : Below w3.heap.size w3 w4) (hB : B≤w3.heap.size) : Below B w0 w4 :=
 ⟨k.os.trans h.os,k.tape.trans h.tape,k.output.trans h.output,Nat.le_trans h.size k.size,fun i hi=>(k.block i (by omega)).trans (h.block i hi)⟩
theorem decode_pos (s : ByteArray) (pos : Nat) (h : pos < s.size) : 1≤(Utf8.decode s pos).2:=by
 by_cases ha : (s[pos]'h).toNat < 128
 rotate_left
 ·exact (decode_high s pos h (by omega)).2
 rw [decode_ascii s pos h ha];exact Nat.le_refl _
theorem okRune_cases (c : Nat) : (okRune c = true∧((97≤c∧c≤122) ∨ (65≤c∧c≤90∧c < 97) ∨ (48≤c∧c≤57∧c < 65) ∨ c = 45 ∨ c = 95 ∨ c = 46 ∨ 160 < c)) ∨ (okRune c = false∧((c < 48∧c ≠ 45∧c ≠ 46) ∨ (57 < c∧c < 65) ∨ (90 < c∧c < 97∧c ≠ 95) ∨ (122 < c∧c≤160))):=by
 cases h : okRune c with
 | true=>refine Or.inl ⟨rfl,?_⟩;simp [okRune] at h;omega
 | false=>refine Or.inr ⟨rfl,?_⟩;simp [okRune] at h;omega
set_option maxHeartbeats 8000000 in
set_option maxRecDepth 1000000 in
theorem script_Name.calls (a0 : ByteArray) (r : Bool) (w : World) (hG : Glob w) (h : script_Name.f a0 = some r) :
  Calls Tryd.prog 26 #[.string a0] w fun e w'=>e = .returned (.bool r)∧Below w.heap.size w w':=by
 unfold script_Name.f at h
 by_cases hsz : a0.size≤140737488351232
 case neg=>rw [if_neg hsz] at h;cases h
 rw [if_pos hsz] at h
 have HH:=Am (Option.some.inj h)
 clear h
 have HG:=Am hG
 clear hG
 go_enter Tryd.func26,Tryd.ntmps26
 go_wp2
 go_loopg [] (a0.size + 1) (fun gk wr=>∃ pos : Nat,wr.heap[w.heap.size]? = some (Obj.stringIter a0 pos)∧1≤gk∧a0.size < pos + gk∧Aside0 (nameAt gk a0 pos = r)∧Aside0 (Below w.heap.size w wr))
 case atStart=>exact ⟨0,World.iter_heap w a0 0,by omega,by omega,HH,⟨bL (Below.refl _ _) _⟩⟩
 case round =>
  obtain ⟨pos,hit,hk1,hk,HD,HB⟩:=hrel
  have hkb : w.heap.size < wr.heap.size:=blk_lt hit
  have hGw : Glob wr:=Glob.below HG.out HB.out
  by_cases hlt : pos < a0.size
  rotate_left
  ·have hnx : ∀ ty,(Instr.next (.pointer (some ⟨w.heap.size,0,none⟩)) true ty).run Tryd.prog wr = _:=fun ty=>Lib.run_next_end_at wr w.heap.size a0 pos ty hit hlt
   obtain ⟨k,rfl⟩ : ∃ k,gk = k + 1:=⟨gk - 1,by omega⟩
   have hD:=HD.out
   rw [nameAt,if_neg hlt] at hD
   have HC:=Am (Tryd.utf8_RuneCountInString a0 wr (by omega))
   have KB:=HB
   clear HB hit
   cases he : a0.toList.isEmpty with
   | true =>
    rw [he] at hD
    have hr : r = false:=by rw [← hD];simp
    subst hr
    have hse : (a0.toList == []) = true:=by
     cases hl : a0.toList with
     | nil=>rfl
     | cons x y=>rw [hl] at he;cases he
    clear hD
    go_wp2
    go_ret
    exact ⟨rfl,KB.out⟩
   | false =>
    rw [he] at hD
    have hr : r = decide (Lib.runeCount a0≤32):=by rw [← hD];simp
    have hlc : ((Lib.runeCount a0 : Nat) : Int)≤32 ↔ Lib.runeCount a0≤32:=by omega
    clear hD
    go_wp2_with (first|(go_at_call 41;(with_reducible refine HC.out.mono ?_);rintro e w2 ⟨rfl,p2,rfl⟩))
    go_ret
    refine ⟨?_,below_then KB.out (bL (Below.refl _ _) _) KB.out.size⟩
    rw [hr]
    simp [hlc]
  obtain ⟨k,rfl⟩ : ∃ k,gk = k + 1:=⟨gk - 1,by omega⟩
  have hD:=HD.out
  rw [nameAt,if_pos hlt] at hD
  have hnx : ∀ ty,(Instr.next (.pointer (some ⟨w.heap.size,0,none⟩)) true ty).run Tryd.prog wr = _:=fun ty=>Lib.run_next_any_at wr w.heap.size a0 pos ty hit hlt
  have hpos:=decode_pos a0 pos hlt
  have hle:=decode_le a0 pos
  obtain ⟨q,hq⟩ : ∃ q : Nat,pos + (Utf8.decode a0 pos).2 = q:=⟨_,rfl⟩
  obtain ⟨c,hc⟩ : ∃ c : Nat,(Utf8.decode a0 pos).1 = c:=⟨_,rfl⟩
  obtain ⟨d,hd⟩ : ∃ d : Nat × Nat,Lib.decodeGo (a0.extract pos a0.size) = d:=⟨_,rfl⟩
  obtain ⟨d1,d2⟩:=d
  have hNit:=Lib.iterAt_heap wr w.heap.size a0 pos q hit
  have hNB:=Lib.below_iterAt HB.out (k:=w.heap.size) (Nat.le_refl _) a0 q
  have hNG : Glob (wr.iterAt w.heap.size a0 q):=Glob.below HG.out hNB
  have hC:=Tryd.utf8_DecodeRuneInString (a0.extract pos a0.size) (wr.iterAt w.heap.size a0 q) hNG.utf8
  have hqp : pos < q:=by omega
  rw [hq,hc] at hnx
  rw [hq,hc,hd] at hD
  rw [hd] at hC
  rw [hc] at hle
  have HC:=Am hC
  have KB:=Am hNB
  have KI:=Am hNit
  have lo : (pos : Int)≤(a0.size : Int):=by omega
  have lo0 : (0 : Int)≤(pos : Int):=by omega
  clear hC hNB hNit hNG hGw HB hit hq hc hd hpos
  have KI2 : w.heap.size < (wr.iterAt w.heap.size a0 q).heap.size∧(wr.iterAt w.heap.size a0 q).heap[w.heap.size]? = some (Obj.stringIter a0 q):=⟨blk_lt KI.out,KI.out⟩
  clear KI
  have KI:=Am KI2
  clear KI2
  by_cases hbad : c = 65533∧d2 = 1
  ·rw [if_pos hbad] at hD
   obtain ⟨rfl,rfl⟩:=hbad
   subst hD
   go_wp2_with (first|(go_at_call 40;(with_reducible refine HC.out.mono ?_);rintro e w2 ⟨rfl,gb1⟩;have G1:=Am (below_then KB.out gb1 KB.out.size);have G2:=Am ((gb1.block w.heap.size KI.out.1).trans KI.out.2);clear gb1))
   go_ret
   exact ⟨rfl,G1.out⟩
  rw [if_neg hbad] at hD
  have hnb : (((c : Int) == 65533) = true∧((d2 : Int) == 1) = false) ∨ ((c : Int) == 65533) = false:=by
   by_cases e : c = 65533
   rotate_left
   ·exact Or.inr (beq_eq_false_iff_ne.2 (by omega))
   exact Or.inl ⟨by rw [e];rfl,beq_eq_false_iff_ne.2 (fun q=>hbad ⟨e,by omega⟩)⟩
  clear hbad
  rcases okRune_cases c with ⟨hok,hcl⟩|⟨hok,hcl⟩
  ·rw [if_pos hok] at hD
   have HD2:=Am hD
   clear hD hok
   rcases hnb with ⟨n1,n2⟩|n1
   ·have e : c = 65533:=by have:=eq_of_beq n1;omega
    subst e
    clear hcl n1
    go_wp2_with (first|(go_at_call 40;(with_reducible refine HC.out.mono ?_);rintro e w2 ⟨rfl,gb1⟩;have G1:=Am (below_then KB.out gb1 KB.out.size);have G2:=Am ((gb1.block w.heap.size KI.out.1).trans KI.out.2);clear gb1))
    go_roundg k
    case measure=>exact Nat.lt_succ_self _
    case rel=>exact ⟨q,G2.out,by omega,by omega,HD2,G1⟩
   ·rcases hcl with ⟨f1,f2⟩|⟨f1,f2,f3⟩|⟨f1,f2,f3⟩|rfl|rfl|rfl|f1
    ·have g1 : (97 : Int)≤(c : Int):=by omega
     have g2 : (c : Int)≤122:=by omega
     clear f1 f2
     go_wp2_with (first|(go_at_call 40;(with_reducible refine HC.out.mono ?_);rintro e w2 ⟨rfl,gb1⟩;have G1:=Am (below_then KB.out gb1 KB.out.size);have G2:=Am ((gb1.block w.heap.size KI.out.1).trans KI.out.2);clear gb1))
     go_roundg k
     case measure=>exact Nat.lt_succ_self _
     case rel=>exact ⟨q,G2.out,by omega,by omega,HD2,G1⟩
    ·have g1 : (65 : Int)≤(c : Int):=by omega
     have g2 : (c : Int)≤90:=by omega
     have g3 : decide ((97 : Int)≤(c : Int)) = false:=decide_eq_false (by omega)
     clear f1 f2 f3
     go_wp2_with (first|(go_at_call 40;(with_reducible refine HC.out.mono ?_);rintro e w2 ⟨rfl,gb1⟩;have G1:=Am (below_then KB.out gb1 KB.out.size);have G2:=Am ((gb1.block w.heap.size KI.out.1).trans KI.out.2);clear gb1))
     go_roundg k
     case measure=>exact Nat.lt_succ_self _
     case rel=>exact ⟨q,G2.out,by omega,by omega,HD2,G1⟩
    ·have g1 : (48 : Int)≤(c : Int):=by omega
     have g2 : (c : Int)≤57:=by omega
     have g3 : decide ((97 : Int)≤(c : Int)) = false:=decide_eq_false (by omega)
     have g4 : decide ((65 : Int)≤(c : Int)) = false:=decide_eq_false (by omega)
     clear f1 f2 f3
     go_wp2_with (first|(go_at_call 40;(with_reducible refine HC.out.mono ?_);rintro e w2 ⟨rfl,gb1⟩;have G1:=Am (below_then KB.out gb1 KB.out.size);have G2:=Am ((gb1.block w.heap.size KI.out.1).trans KI.out.2);clear gb1))
     go_roundg k
     case measure=>exact Nat.lt_succ_self _
     case rel=>exact ⟨q,G2.out,by omega,by omega,HD2,G1⟩
    ·go_wp2_with (first|(go_at_call 40;(with_reducible refine HC.out.mono ?_);rintro e w2 ⟨rfl,gb1⟩;have G1:=Am (below_then KB.out gb1 KB.out.size);have G2:=Am ((gb1.block w.heap.size KI.out.1).trans KI.out.2);clear gb1))
     go_roundg k
     case measure=>exact Nat.lt_succ_self _
     case rel=>exact ⟨q,G2.out,by omega,by omega,HD2,G1⟩
    ·go_wp2_with (first|(go_at_call 40;(with_reducible refine HC.out.mono ?_);rintro e w2 ⟨rfl,gb1⟩;have G1:=Am (below_then KB.out gb1 KB.out.size);have G2:=Am ((gb1.block w.heap.size KI.out.1).trans KI.out.2);clear gb1))
     go_roundg k
     case measure=>exact Nat.lt_succ_self _
     case rel=>exact ⟨q,G2.out,by omega,by omega,HD2,G1⟩
    ·go_wp2_with (first|(go_at_call 40;(with_reducible refine HC.out.mono ?_);rintro e w2 ⟨rfl,gb1⟩;have G1:=Am (below_then KB.out gb1 KB.out.size);have G2:=Am ((gb1.block w.heap.size KI.out.1).trans KI.out.2);clear gb1))
     go_roundg k
     case measure=>exact Nat.lt_succ_self _
     case rel=>exact ⟨q,G2.out,by omega,by omega,HD2,G1⟩
    ·have g1 : (97 : Int)≤(c : Int):=by omega
     have g2 : decide ((c : Int)≤122) = false:=decide_eq_false (by omega)
     have g3 : (65 : Int)≤(c : Int):=by omega
     have g4 : decide ((c : Int)≤90) = false:=decide_eq_false (by omega)
     have g5 : (48 : Int)≤(c : Int):=by omega
     have g6 : decide ((c : Int)≤57) = false:=decide_eq_false (by omega)
     have g7 : ((c : Int) != 45) = true:=bne_iff_ne.2 (by omega)
     have g7b : ((c : Int) == 45) = false:=beq_eq_false_iff_ne.2 (by omega)
     have g7c : ((c : Int) = 45) = False:=eq_false (by omega)
     have g8 : ((c : Int) != 95) = true:=bne_iff_ne.2 (by omega)
     have g8b : ((c : Int) == 95) = false:=beq_eq_false_iff_ne.2 (by omega)
     have g8c : ((c : Int) = 95) = False:=eq_false (by omega)
     have g9 : ((c : Int) != 46) = true:=bne_iff_ne.2 (by omega)
     have g9b : ((c : Int) == 46) = false:=beq_eq_false_iff_ne.2 (by omega)
     have g9c : ((c : Int) = 46) = False:=eq_false (by omega)
     have g10 : decide ((c : Int)≤160) = false:=decide_eq_false (by omega)
     clear f1
     go_wp2_with (first|(go_at_call 40;(with_reducible refine HC.out.mono ?_);rintro e w2 ⟨rfl,gb1⟩;have G1:=Am (below_then KB.out gb1 KB.out.size);have G2:=Am ((gb1.block w.heap.size KI.out.1).trans KI.out.2);clear gb1))
     go_roundg k
     case measure=>exact Nat.lt_succ_self _
     case rel=>exact ⟨q,G2.out,by omega,by omega,HD2,G1⟩
  ·rw [if_neg (by rw [hok];simp)] at hD
   subst hD
   clear hok
   have n1 : ((c : Int) == 65533) = false:=by
    rcases hnb with ⟨n1,_⟩|n1
    ·have:=eq_of_beq n1;omega
    ·exact n1
   clear hnb
   have g7 : ((c : Int) != 45) = true:=bne_iff_ne.2 (by omega)
   have g7b : ((c : Int) == 45) = false:=beq_eq_false_iff_ne.2 (by omega)
   have g7c : ((c : Int) = 45) = False:=eq_false (by omega)
   have g8 : ((c : Int) != 95) = true:=bne_iff_ne.2 (by omega)
   have g8b : ((c : Int) == 95) = false:=beq_eq_false_iff_ne.2 (by omega)
   have g8c : ((c : Int) = 95) = False:=eq_false (by omega)
   have g9 : ((c : Int) != 46) = true:=bne_iff_ne.2 (by omega)
   have g9b : ((c : Int) == 46) = false:=beq_eq_false_iff_ne.2 (by omega)
   have g9c : ((c : Int) = 46) = False:=eq_false (by omega)
   have g10 : (c : Int)≤160:=by omega
   have g10b : decide ((c : Int)≤160) = true:=decide_eq_true g10
   rcases hcl with ⟨f1,f2,f3⟩|⟨f1,f2⟩|⟨f1,f2,f3⟩|⟨f1,f2⟩
   ·have g1 : decide ((97 : Int)≤(c : Int)) = false:=decide_eq_false (by omega)
    have g2 : decide ((65 : Int)≤(c : Int)) = false:=decide_eq_false (by omega)
    have g3 : decide ((48 : Int)≤(c : Int)) = false:=decide_eq_false (by omega)
    clear f1 f2 f3
    go_wp2_with (first|(go_at_call 40;(with_reducible refine HC.out.mono ?_);rintro e w2 ⟨rfl,gb1⟩;have G1:=Am (below_then KB.out gb1 KB.out.size);have G2:=Am ((gb1.block w.heap.size KI.out.1).trans KI.out.2);clear gb1))
    go_ret
    exact ⟨rfl,G1.out⟩
   ·have g1 : decide ((97 : Int)≤(c : Int)) = false:=decide_eq_false (by omega)
    have g2 : decide ((65 : Int)≤(c : Int)) = false:=decide_eq_false (by omega)
    have g3 : (48 : Int)≤(c : Int):=by omega
    have g4 : decide ((c : Int)≤57) = false:=decide_eq_false (by omega)
    clear f1 f2
    go_wp2_with (first|(go_at_call 40;(with_reducible refine HC.out.mono ?_);rintro e w2 ⟨rfl,gb1⟩;have G1:=Am (below_then KB.out gb1 KB.out.size);have G2:=Am ((gb1.block w.heap.size KI.out.1).trans KI.out.2);clear gb1))
    go_ret
    exact ⟨rfl,G1.out⟩
   ·have g1 : decide ((97 : Int)≤(c : Int)) = false:=decide_eq_false (by omega)
    have g2 : (65 : Int)≤(c : Int):=by omega
    have g3 : (48 : Int)≤(c : Int):=by omega
    have g4 : decide ((c : Int)≤57) = false:=decide_eq_false (by omega)
    have g5 : decide ((c : Int)≤90) = false:=decide_eq_false (by omega)
    clear f1 f2 f3
    go_wp2_with (first|(go_at_call 40;(with_reducible refine HC.out.mono ?_);rintro e w2 ⟨rfl,gb1⟩;have G1:=Am (below_then KB.out gb1 KB.out.size);have G2:=Am ((gb1.block w.heap.size KI.out.1).trans KI.out.2);clear gb1))
    go_ret
    exact ⟨rfl,G1.out⟩
   ·have g1 : (97 : Int)≤(c : Int):=by omega
    have g2 : (65 : Int)≤(c : Int):=by omega
    have g3 : (48 : Int)≤(c : Int):=by omega
    have g4 : decide ((c : Int)≤57) = false:=decide_eq_false (by omega)
    have g5 : decide ((c : Int)≤90) = false:=decide_eq_false (by omega)
    have g6 : decide ((c : Int)≤122) = false:=decide_eq_false (by omega)
    clear f1 f2
    go_wp2_with (first|(go_at_call 40;(with_reducible refine HC.out.mono ?_);rintro e w2 ⟨rfl,gb1⟩;have G1:=Am (below_then KB.out gb1 KB.out.size);have G2:=Am ((gb1.block w.heap.size KI.out.1).trans KI.out.2);clear gb1))
    go_ret
    exact ⟨rfl,G1.out⟩
end Go.Proofs.YtakdneopmojjdaaDoor.P
