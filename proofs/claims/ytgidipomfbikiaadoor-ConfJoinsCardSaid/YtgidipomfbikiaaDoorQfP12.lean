/- cut to what one law reaches -/
import Derived.Test.YtgidipomfbikiaaDoorQfShort
import Derived.Test.YtgidipomfbikiaaDoorQfP0
import Derived.Test.YtgidipomfbikiaaDoorQfP3
import Derived.Test.YtgidipomfbikiaaDoorQfP6
import Derived.Test.YtgidipomfbikiaaDoorQfP7
import Derived.Test.YtgidipomfbikiaaDoorQfP8
import Derived.Test.YtgidipomfbikiaaDoorQfP9
import Derived.Test.YtgidipomfbikiaaDoorQfP10
import Derived.Test.YtgidipomfbikiaaDoorQfP11
namespace Go.Proofs.YtgidipomfbikiaaDoor.P
open Go.RowKit Go.Proofs.YtgidipomfbikiaaDoorW.PrintWords Go.Proofs.YtgidipomfbikiaaDoorW.PrintLast Go.Proofs.YtgidipomfbikiaaDoorW.PrintMore
attribute [local go_sem] max2_int min2_int max_two min_two max_three min_three max_four min_four   -- for this text's walks alone
set_option linter.unusedVariables false
set_option linter.unusedSimpArgs false
attribute [local go_sem high] eqA50
attribute [local go_sem] isSome_setCell
def nlB : ByteArray:=⟨#[10]⟩
def parL : Nat→Nat→ByteArray→Int→Int→Hd→List S50→List S52→List S48→Option (Int × Int × Int × Int × Int × Int × Int × Int × Int × List S50 × List S52 × List S48 × Int × Int)
 | 0,_,_,_,_,_,_,_,_=>none
 | g + 1,k,text,part,n,c,L9,L10,L11 =>
  if text.toList = [] then
   (if part = 3 then (conf_Check.f k c.f0 c.f1 c.f2 c.f3 c.f4 c.f5 c.f6 c.f7 c.f8 L9 L10 L11).bind fun e=>if e = 0 then some (c.f0,c.f1,c.f2,c.f3,c.f4,c.f5,c.f6,c.f7,c.f8,L9,L10,L11,0,0) else some (0,0,0,0,0,0,0,0,0,[],[],[],0,e)
   else some (0,0,0,0,0,0,0,0,0,[],[],[],n,60))
  else if n < 1000000000 then
   ((strings_Cut.f text nlB).bind fun x =>
    if x.2.2 = true then
     (if n≤5 then (conf_first.f k (n - 1) x.1 c).bind fun y=>if y.1 = true then parL g k x.2.1 part (n + 1) y.2 L9 L10 L11 else some (0,0,0,0,0,0,0,0,0,[],[],[],n,60)
     else (conf_later.f k x.1 L9 L10 L11).bind fun z=>if (z.1 = part∧0 < z.1) ∨ z.1 = part + 1 then parL g k x.2.1 z.1 (n + 1) c z.2.1 z.2.2.1 z.2.2.2 else some (0,0,0,0,0,0,0,0,0,[],[],[],n,60))
    else some (0,0,0,0,0,0,0,0,0,[],[],[],n,60))
  else none
def conf_Parse.f (k : Nat) (a0 : ByteArray) : Option (Int × Int × Int × Int × Int × Int × Int × Int × Int × List S50 × List S52 × List S48 × Int × Int):=parL k k a0 0 1 ⟨0,0,0,0,0,0,0,0,0⟩ [] [] []
theorem parL.mono : ∀ g k text part n c L9 L10 L11,LeO (parL g k text part n c L9 L10 L11) (parL (g + 1) (k + 1) text part n c L9 L10 L11)
 | 0,k,text,part,n,c,L9,L10,L11=>by intro r h;rw [parL] at h;cases h
 | g + 1,k,text,part,n,c,L9,L10,L11=>by
  rw [parL,parL]
  repeat' first
   | (with_reducible exact parL.mono _ _ _ _ _ _ _ _ _)
   | (with_reducible exact conf_Check.mono _ _ _ _ _ _ _ _ _ _ _ _ _)
   | (with_reducible exact conf_first.mono _ _ _ _)
   | (with_reducible exact conf_later.mono _ _ _ _ _)
   | (with_reducible exact LeO.refl _)
   | (with_reducible refine LeO.ite ?_ ?_)
   | (with_reducible refine LeO.bind ?_ (fun _=>?_))
theorem conf_Parse.mono : ∀ a0 k,LeO (conf_Parse.f k a0) (conf_Parse.f (k + 1) a0):=fun a0 k=>parL.mono k k a0 0 1 _ _ _ _
theorem set_ex {w : World} {g : Nat} {t : TypeId} (hb : ∃ cs,w.heap[g]? = some (.cells cs t (0,0))) (j : Nat) (u : Value) : ∃ cs,(w.setCell ⟨g,j,none⟩ u).heap[g]? = some (.cells cs t (0,0)):=by
 obtain ⟨cs,h⟩:=hb
 exact ⟨_,blk_put h j u rfl⟩
theorem R_set_ex {α : Type} {d : Kd α} {e : TypeId} {w : World} {base : Nat} {ok : Nat→Prop} {v : Value} {xs : List α} (h : d.R e w base ok v xs) {g : Nat} {t : TypeId} (hb : ∃ cs,w.heap[g]? = some (.cells cs t (0,0))) (ht : ∀ q,q ∈ e :: d.E→q ≠ t) (j : Nat) (u : Value) : d.R e (w.setCell ⟨g,j,none⟩ u) base ok v xs:=by
 obtain ⟨cs,hb⟩:=hb
 exact Kd.R_set h hb ht j u
theorem put12 {w : World} {g : Nat} {t : TypeId} {u0 u1 u2 u3 u4 u5 u6 u7 u8 u9 u10 u11 : Value} (h : w.heap[g]? = some (.cells #[u0,u1,u2,u3,u4,u5,u6,u7,u8,u9,u10,u11] t (0,0))) (x0 x1 x2 x3 x4 x5 x6 x7 x8 x9 x10 x11 : Value) : ((((((((((((w.setCell ⟨g,0,none⟩ (x0)).setCell ⟨g,1,none⟩ (x1)).setCell ⟨g,2,none⟩ (x2)).setCell ⟨g,3,none⟩ (x3)).setCell ⟨g,4,none⟩ (x4)).setCell ⟨g,5,none⟩ (x5)).setCell ⟨g,6,none⟩ (x6)).setCell ⟨g,7,none⟩ (x7)).setCell ⟨g,8,none⟩ (x8)).setCell ⟨g,9,none⟩ (x9)).setCell ⟨g,10,none⟩ (x10)).setCell ⟨g,11,none⟩ (x11)).heap[g]? = some (.cells #[x0,x1,x2,x3,x4,x5,x6,x7,x8,x9,x10,x11] t (0,0)):=by
 have h0:=blk_put h 0 x0 (cs':=#[x0,u1,u2,u3,u4,u5,u6,u7,u8,u9,u10,u11]) rfl
 have h1:=blk_put h0 1 x1 (cs':=#[x0,x1,u2,u3,u4,u5,u6,u7,u8,u9,u10,u11]) rfl
 have h2:=blk_put h1 2 x2 (cs':=#[x0,x1,x2,u3,u4,u5,u6,u7,u8,u9,u10,u11]) rfl
 have h3:=blk_put h2 3 x3 (cs':=#[x0,x1,x2,x3,u4,u5,u6,u7,u8,u9,u10,u11]) rfl
 have h4:=blk_put h3 4 x4 (cs':=#[x0,x1,x2,x3,x4,u5,u6,u7,u8,u9,u10,u11]) rfl
 have h5:=blk_put h4 5 x5 (cs':=#[x0,x1,x2,x3,x4,x5,u6,u7,u8,u9,u10,u11]) rfl
 have h6:=blk_put h5 6 x6 (cs':=#[x0,x1,x2,x3,x4,x5,x6,u7,u8,u9,u10,u11]) rfl
 have h7:=blk_put h6 7 x7 (cs':=#[x0,x1,x2,x3,x4,x5,x6,x7,u8,u9,u10,u11]) rfl
 have h8:=blk_put h7 8 x8 (cs':=#[x0,x1,x2,x3,x4,x5,x6,x7,x8,u9,u10,u11]) rfl
 have h9:=blk_put h8 9 x9 (cs':=#[x0,x1,x2,x3,x4,x5,x6,x7,x8,x9,u10,u11]) rfl
 have h10:=blk_put h9 10 x10 (cs':=#[x0,x1,x2,x3,x4,x5,x6,x7,x8,x9,x10,u11]) rfl
 have h11:=blk_put h10 11 x11 (cs':=#[x0,x1,x2,x3,x4,x5,x6,x7,x8,x9,x10,x11]) rfl
 exact h11
theorem R_set12 {α : Type} {d : Kd α} {e : TypeId} {w : World} {base : Nat} {ok : Nat→Prop} {v : Value} {xs : List α} (h : d.R e w base ok v xs) {g : Nat} {t : TypeId} (hb : ∃ cs,w.heap[g]? = some (.cells cs t (0,0))) (ht : ∀ q,q ∈ e :: d.E→q ≠ t) (x0 x1 x2 x3 x4 x5 x6 x7 x8 x9 x10 x11 : Value) : d.R e ((((((((((((w.setCell ⟨g,0,none⟩ (x0)).setCell ⟨g,1,none⟩ (x1)).setCell ⟨g,2,none⟩ (x2)).setCell ⟨g,3,none⟩ (x3)).setCell ⟨g,4,none⟩ (x4)).setCell ⟨g,5,none⟩ (x5)).setCell ⟨g,6,none⟩ (x6)).setCell ⟨g,7,none⟩ (x7)).setCell ⟨g,8,none⟩ (x8)).setCell ⟨g,9,none⟩ (x9)).setCell ⟨g,10,none⟩ (x10)).setCell ⟨g,11,none⟩ (x11)) base ok v xs:=by
 have r0:=R_set_ex h hb ht 0 x0
 have b0:=set_ex hb 0 x0
 have r1:=R_set_ex r0 b0 ht 1 x1
 have b1:=set_ex b0 1 x1
 have r2:=R_set_ex r1 b1 ht 2 x2
 have b2:=set_ex b1 2 x2
 have r3:=R_set_ex r2 b2 ht 3 x3
 have b3:=set_ex b2 3 x3
 have r4:=R_set_ex r3 b3 ht 4 x4
 have b4:=set_ex b3 4 x4
 have r5:=R_set_ex r4 b4 ht 5 x5
 have b5:=set_ex b4 5 x5
 have r6:=R_set_ex r5 b5 ht 6 x6
 have b6:=set_ex b5 6 x6
 have r7:=R_set_ex r6 b6 ht 7 x7
 have b7:=set_ex b6 7 x7
 have r8:=R_set_ex r7 b7 ht 8 x8
 have b8:=set_ex b7 8 x8
 have r9:=R_set_ex r8 b8 ht 9 x9
 have b9:=set_ex b8 9 x9
 have r10:=R_set_ex r9 b9 ht 10 x10
 have b10:=set_ex b9 10 x10
 have r11:=R_set_ex r10 b10 ht 11 x11
 have b11:=set_ex b10 11 x11
 exact r11
theorem below12 {w W : World} {g : Nat} (h : Below w.heap.size w W) (hg : w.heap.size≤g) (x0 x1 x2 x3 x4 x5 x6 x7 x8 x9 x10 x11 : Value) : Below w.heap.size w ((((((((((((W.setCell ⟨g,0,none⟩ (x0)).setCell ⟨g,1,none⟩ (x1)).setCell ⟨g,2,none⟩ (x2)).setCell ⟨g,3,none⟩ (x3)).setCell ⟨g,4,none⟩ (x4)).setCell ⟨g,5,none⟩ (x5)).setCell ⟨g,6,none⟩ (x6)).setCell ⟨g,7,none⟩ (x7)).setCell ⟨g,8,none⟩ (x8)).setCell ⟨g,9,none⟩ (x9)).setCell ⟨g,10,none⟩ (x10)).setCell ⟨g,11,none⟩ (x11)):=by
 have h0:=bS (j:=0) (v:=x0) h hg
 have h1:=bS (j:=1) (v:=x1) h0 hg
 have h2:=bS (j:=2) (v:=x2) h1 hg
 have h3:=bS (j:=3) (v:=x3) h2 hg
 have h4:=bS (j:=4) (v:=x4) h3 hg
 have h5:=bS (j:=5) (v:=x5) h4 hg
 have h6:=bS (j:=6) (v:=x6) h5 hg
 have h7:=bS (j:=7) (v:=x7) h6 hg
 have h8:=bS (j:=8) (v:=x8) h7 hg
 have h9:=bS (j:=9) (v:=x9) h8 hg
 have h10:=bS (j:=10) (v:=x10) h9 hg
 have h11:=bS (j:=11) (v:=x11) h10 hg
 exact h11
theorem later_le {k : Nat} {line : ByteArray} {L9 : List S50} {L10 : List S52} {L11 : List S48} {r : Int} {M9 : List S50} {M10 : List S52} {M11 : List S48} (h : conf_later.f k line L9 L10 L11 = some (r,M9,M10,M11)) : 0≤r∧r≤3:=by
 unfold conf_later.f at h
 obtain ⟨x,_,h⟩:=oB h
 split at h
 ·split at h
  ·simp only [Option.some.injEq,Prod.mk.injEq] at h;omega
  ·cases h
 obtain ⟨x,_,h⟩:=oB h
 split at h
 ·split at h
  ·simp only [Option.some.injEq,Prod.mk.injEq] at h;omega
  ·cases h
 obtain ⟨x,_,h⟩:=oB h
 split at h
 ·split at h
  ·simp only [Option.some.injEq,Prod.mk.injEq] at h;omega
  ·cases h
 obtain ⟨x,_,h⟩:=oB h
 split at h
 ·split at h
  ·simp only [Option.some.injEq,Prod.mk.injEq] at h;omega
  ·cases h
 ·simp only [Option.some.injEq,Prod.mk.injEq] at h;omega
set_option maxHeartbeats 8000000 in
set_option maxRecDepth 1000000 in
theorem conf_Parse.calls (k : Nat) (a0 : ByteArray) (r1 r2 r3 r4 r5 r6 r7 r8 r9 : Int) (r10 : List S50) (r11 : List S52) (r12 : List S48) (r13 r14 : Int) (w : World) (hG : Glob w) (h : conf_Parse.f k a0 = some (r1,r2,r3,r4,r5,r6,r7,r8,r9,r10,r11,r12,r13,r14)) :
  Calls Tryd.prog 17 #[.string a0] w fun e w'=>∃ v0_9_ v0_10_ v0_11_ : Value,e = .returned (.tuple #[.agg #[.int .i64 r1,.int .i64 r2,.int .i64 r3,.int .i64 r4,.int .i64 r5,.int .i64 r6,.int .i64 r7,.int .i64 r8,.int .i64 r9,v0_9_,v0_10_,v0_11_],.int .i64 r13,.int .i64 r14])∧Kd.R k50 50 w' w.heap.size (fun _=>True) v0_9_ r10∧Kd.R k52 52 w' w.heap.size (fun _=>True) v0_10_ r11∧Kd.R k48 48 w' w.heap.size (fun _=>True) v0_11_ r12∧Below w.heap.size w w':=by
 have hu28:=Tryd.underlying28
 obtain ⟨w1,hw1⟩ : ∃ x,x = w.alloc (.cells #[.int .i64 0,.int .i64 0,.int .i64 0,.int .i64 0,.int .i64 0,.int .i64 0,.int .i64 0,.int .i64 0,.int .i64 0,.slice none 0 0,.slice none 0 0,.slice none 0 0] 28):=⟨_,rfl⟩
 have hsz : w1.heap.size = w.heap.size + 1:=by
  subst hw1
  show (w.heap.push _).size = w.heap.size + 1
  rw [Array.size_push]
 have z1 : w1.heap[w.heap.size]? = some (.cells #[.int .i64 0,.int .i64 0,.int .i64 0,.int .i64 0,.int .i64 0,.int .i64 0,.int .i64 0,.int .i64 0,.int .i64 0,.slice none 0 0,.slice none 0 0,.slice none 0 0] 28 (0,0)):=by
  subst hw1
  exact blk_new w (.cells #[.int .i64 0,.int .i64 0,.int .i64 0,.int .i64 0,.int .i64 0,.int .i64 0,.int .i64 0,.int .i64 0,.int .i64 0,.slice none 0 0,.slice none 0 0,.slice none 0 0] 28)
 have z2 : ((w.alloc (.cells #[.int .i64 0,.int .i64 0,.int .i64 0,.int .i64 0,.int .i64 0,.int .i64 0,.int .i64 0,.int .i64 0,.int .i64 0,.slice none 0 0,.slice none 0 0,.slice none 0 0] 28)).alloc (.cells #[.int .i64 0,.int .i64 0,.int .i64 0,.int .i64 0,.int .i64 0,.int .i64 0,.int .i64 0,.int .i64 0,.int .i64 0,.slice none 0 0,.slice none 0 0,.slice none 0 0] 28)).heap[w.heap.size + 1]? = some (.cells #[.int .i64 0,.int .i64 0,.int .i64 0,.int .i64 0,.int .i64 0,.int .i64 0,.int .i64 0,.int .i64 0,.int .i64 0,.slice none 0 0,.slice none 0 0,.slice none 0 0] 28 (0,0)):=by
  rw [← hw1,← hsz]
  exact blk_new w1 (.cells #[.int .i64 0,.int .i64 0,.int .i64 0,.int .i64 0,.int .i64 0,.int .i64 0,.int .i64 0,.int .i64 0,.int .i64 0,.slice none 0 0,.slice none 0 0,.slice none 0 0] 28)
 have bb : Below w1.heap.size w1 ((w.alloc (.cells #[.int .i64 0,.int .i64 0,.int .i64 0,.int .i64 0,.int .i64 0,.int .i64 0,.int .i64 0,.int .i64 0,.int .i64 0,.slice none 0 0,.slice none 0 0,.slice none 0 0] 28)).alloc (.cells #[.int .i64 0,.int .i64 0,.int .i64 0,.int .i64 0,.int .i64 0,.int .i64 0,.int .i64 0,.int .i64 0,.int .i64 0,.slice none 0 0,.slice none 0 0,.slice none 0 0] 28)):=by
  rw [← hw1]
  exact bL (Below.refl _ _) _
 have up : ∀ W,Below w1.heap.size w1 W→Below w.heap.size w W:=by
  intro W hW
  rw [hsz] at hW
  subst hw1
  exact below_up1 hW
 have Z1:=Am z1
 have Z2:=Am z2
 have BB:=Am bb
 have UP:=Am up
 have GW:=Am (Glob.below hG (up w1 (Below.refl _ _)))
 have GG:=Am (Glob.below GW.out bb)
 have LE : Aside0 (w.heap.size≤w1.heap.size):=⟨by omega⟩
 have LT : Aside0 (w.heap.size < w1.heap.size):=⟨by omega⟩
 have LB : Aside0 (w1.heap.size≤w.heap.size + 1):=⟨by omega⟩
 have HH:=Am h
 clear hG h z1 z2 bb up hsz hw1
 go_enter Tryd.func17,Tryd.ntmps17
 go_wp2;go_step3
 go_wp2;go_step3
 go_wp2
 go_loopg [0,6,7] k (fun gk s0 s6 s7 wr=>∃ (text : ByteArray) (part n : Int) (c : Hd) (v9 v10 v11 : Value) (L9 : List S50) (L10 : List S52) (L11 : List S48),s0 = .string text∧s6 = .int .i64 part∧s7 = .int .i64 n∧0≤part∧part≤3∧1≤n∧Aside0 (parL gk k text part n c L9 L10 L11 = some (r1,r2,r3,r4,r5,r6,r7,r8,r9,r10,r11,r12,r13,r14))∧Aside0 (wr.heap[w.heap.size]? = some (.cells #[.int .i64 0,.int .i64 0,.int .i64 0,.int .i64 0,.int .i64 0,.int .i64 0,.int .i64 0,.int .i64 0,.int .i64 0,.slice none 0 0,.slice none 0 0,.slice none 0 0] 28 (0,0)))∧Aside0 (wr.heap[w.heap.size + 1]? = some (.cells #[.int .i64 c.f0,.int .i64 c.f1,.int .i64 c.f2,.int .i64 c.f3,.int .i64 c.f4,.int .i64 c.f5,.int .i64 c.f6,.int .i64 c.f7,.int .i64 c.f8,v9,v10,v11] 28 (0,0)))∧Aside0 (Kd.R k50 50 wr w1.heap.size (fun _=>True) v9 L9)∧Aside0 (Kd.R k52 52 wr w1.heap.size (fun _=>True) v10 L10)∧Aside0 (Kd.R k48 48 wr w1.heap.size (fun _=>True) v11 L11)∧Aside0 (Below w1.heap.size w1 wr)∧Aside0 (Glob wr))
 case atStart=>exact ⟨a0,0,1,⟨0,0,0,0,0,0,0,0,0⟩,.slice none 0 0,.slice none 0 0,.slice none 0 0,[],[],[],rfl,rfl,rfl,by omega,by omega,by omega,HH,⟨(BB.out.block _ LT.out).trans Z1.out⟩,Z2,⟨Kd.R_nil _ _ _ _ _⟩,⟨Kd.R_nil _ _ _ _ _⟩,⟨Kd.R_nil _ _ _ _ _⟩,BB,GG⟩
 case round =>
  clear HH Z2 BB GG
  obtain ⟨text,part,n,c,v9,v10,v11,L9,L10,L11,rfl,rfl,rfl,hp0,hp3,hn1,HP,KR,KC,S,T,U,B,G⟩:=hrel
  cases gk with
  | zero=>have h:=HP.out;rw [parL] at h;cases h
  | succ gk =>
  by_cases ht : text.toList = []
  ·have e0 : text.toList.isEmpty = true:=by rw [ht];rfl
   have h:=HP.out
   rw [parL,if_pos ht] at h
   clear HP ht
   by_cases hp : part = 3
   rotate_left
   ·rw [if_neg hp] at h
    simp only [Option.some.injEq,Prod.mk.injEq] at h
    obtain ⟨rfl,rfl,rfl,rfl,rfl,rfl,rfl,rfl,rfl,rfl,rfl,rfl,rfl,rfl⟩:=h
    have hne : (part != 3) = true:=bne_iff_ne.2 hp
    have heq : (part == 3) = false:=beq_eq_false_iff_ne.2 hp
    clear hp
    have xr0 : wr.cell? ⟨w.heap.size,0,none⟩ = some (.int .i64 0):=(bC KR.out 0).trans rfl
    have fr0:=bF KR.out 0
    have xr1 : wr.cell? ⟨w.heap.size,1,none⟩ = some (.int .i64 0):=(bC KR.out 1).trans rfl
    have fr1:=bF KR.out 1
    have xr2 : wr.cell? ⟨w.heap.size,2,none⟩ = some (.int .i64 0):=(bC KR.out 2).trans rfl
    have fr2:=bF KR.out 2
    have xr3 : wr.cell? ⟨w.heap.size,3,none⟩ = some (.int .i64 0):=(bC KR.out 3).trans rfl
    have fr3:=bF KR.out 3
    have xr4 : wr.cell? ⟨w.heap.size,4,none⟩ = some (.int .i64 0):=(bC KR.out 4).trans rfl
    have fr4:=bF KR.out 4
    have xr5 : wr.cell? ⟨w.heap.size,5,none⟩ = some (.int .i64 0):=(bC KR.out 5).trans rfl
    have fr5:=bF KR.out 5
    have xr6 : wr.cell? ⟨w.heap.size,6,none⟩ = some (.int .i64 0):=(bC KR.out 6).trans rfl
    have fr6:=bF KR.out 6
    have xr7 : wr.cell? ⟨w.heap.size,7,none⟩ = some (.int .i64 0):=(bC KR.out 7).trans rfl
    have fr7:=bF KR.out 7
    have xr8 : wr.cell? ⟨w.heap.size,8,none⟩ = some (.int .i64 0):=(bC KR.out 8).trans rfl
    have fr8:=bF KR.out 8
    have xr9 : wr.cell? ⟨w.heap.size,9,none⟩ = some (.slice none 0 0):=(bC KR.out 9).trans rfl
    have fr9:=bF KR.out 9
    have xr10 : wr.cell? ⟨w.heap.size,10,none⟩ = some (.slice none 0 0):=(bC KR.out 10).trans rfl
    have fr10:=bF KR.out 10
    have xr11 : wr.cell? ⟨w.heap.size,11,none⟩ = some (.slice none 0 0):=(bC KR.out 11).trans rfl
    have fr11:=bF KR.out 11
    go_wp2
    try rw [Exit.noGoto_ret]
    refine bodyPost_ret (results_ctt rfl _ _ w.heap.size 28 #[.int .i64 0,.int .i64 0,.int .i64 0,.int .i64 0,.int .i64 0,.int .i64 0,.int .i64 0,.int .i64 0,.int .i64 0,.slice none 0 0,.slice none 0 0,.slice none 0 0] (0,0) _ rfl (put12 KR.out (.int .i64 0) (.int .i64 0) (.int .i64 0) (.int .i64 0) (.int .i64 0) (.int .i64 0) (.int .i64 0) (.int .i64 0) (.int .i64 0) (.slice none 0 0) (.slice none 0 0) (.slice none 0 0) ) Tryd.underlying28 rfl (by kernel_rfl)) rfl ?_
    exact ⟨_,_,_,rfl,Kd.R_nil _ _ _ _ _,Kd.R_nil _ _ _ _ _,Kd.R_nil _ _ _ _ _,below12 (UP.out _ B.out) (Nat.le_refl _) (.int .i64 0) (.int .i64 0) (.int .i64 0) (.int .i64 0) (.int .i64 0) (.int .i64 0) (.int .i64 0) (.int .i64 0) (.int .i64 0) (.slice none 0 0) (.slice none 0 0) (.slice none 0 0) ⟩
   subst hp
   rw [if_pos rfl] at h
   obtain ⟨e,A1,h⟩:=oB h
   have A1:=Am A1
   obtain ⟨A9,c9,rfl⟩:=Kd.R_slice S.out
   obtain ⟨A10,c10,rfl⟩:=Kd.R_slice T.out
   obtain ⟨A11,c11,rfl⟩:=Kd.R_slice U.out
   have y0 : wr.cell? ⟨w.heap.size + 1,0,none⟩ = some (.int .i64 c.f0):=(bC KC.out 0).trans rfl
   have y1 : wr.cell? ⟨w.heap.size + 1,1,none⟩ = some (.int .i64 c.f1):=(bC KC.out 1).trans rfl
   have y2 : wr.cell? ⟨w.heap.size + 1,2,none⟩ = some (.int .i64 c.f2):=(bC KC.out 2).trans rfl
   have y3 : wr.cell? ⟨w.heap.size + 1,3,none⟩ = some (.int .i64 c.f3):=(bC KC.out 3).trans rfl
   have y4 : wr.cell? ⟨w.heap.size + 1,4,none⟩ = some (.int .i64 c.f4):=(bC KC.out 4).trans rfl
   have y5 : wr.cell? ⟨w.heap.size + 1,5,none⟩ = some (.int .i64 c.f5):=(bC KC.out 5).trans rfl
   have y6 : wr.cell? ⟨w.heap.size + 1,6,none⟩ = some (.int .i64 c.f6):=(bC KC.out 6).trans rfl
   have y7 : wr.cell? ⟨w.heap.size + 1,7,none⟩ = some (.int .i64 c.f7):=(bC KC.out 7).trans rfl
   have y8 : wr.cell? ⟨w.heap.size + 1,8,none⟩ = some (.int .i64 c.f8):=(bC KC.out 8).trans rfl
   have y9 : wr.cell? ⟨w.heap.size + 1,9,none⟩ = some (.slice A9 L9.length c9):=(bC KC.out 9).trans rfl
   have y10 : wr.cell? ⟨w.heap.size + 1,10,none⟩ = some (.slice A10 L10.length c10):=(bC KC.out 10).trans rfl
   have y11 : wr.cell? ⟨w.heap.size + 1,11,none⟩ = some (.slice A11 L11.length c11):=(bC KC.out 11).trans rfl
   by_cases he : e = 0
   rotate_left
   ·rw [if_neg he] at h
    have hne : (e != 0) = true:=bne_iff_ne.2 he
    have heq : (e == 0) = false:=beq_eq_false_iff_ne.2 he
    simp only [Option.some.injEq,Prod.mk.injEq] at h
    obtain ⟨rfl,rfl,rfl,rfl,rfl,rfl,rfl,rfl,rfl,rfl,rfl,rfl,rfl,rfl⟩:=h
    clear he
    go_wp2_with (first|(go_at_call 12;(with_reducible refine (conf_Check.calls k c.f0 c.f1 c.f2 c.f3 c.f4 c.f5 c.f6 c.f7 c.f8 A9 c9 L9 A10 c10 L10 A11 c11 L11 _ _ ?s1 ?s2 ?s3 ?s4 ?s5 ?s6 ?s7 A1.out).mono ?_);(case s1=>exact G.out);(case s2=>exact (Kd.R_reads' S.out).2.2);(case s3=>exact (Kd.R_reads' S.out).2.1);(case s4=>exact (Kd.R_reads' T.out).2.2);(case s5=>exact (Kd.R_reads' T.out).2.1);(case s6=>exact (Kd.R_reads' U.out).2.2);(case s7=>exact (Kd.R_reads' U.out).2.1);rintro e_ w2 ⟨rfl,hb⟩;have B2:=Am (below_then B.out hb (bZ B.out));have KR2:=Am ((hb.block w.heap.size (blk_lt KR.out)).trans KR.out);have KC2:=Am ((hb.block (w.heap.size + 1) (blk_lt KC.out)).trans KC.out);have S2:=Am (Kd.R_below S.out hb);have T2:=Am (Kd.R_below T.out hb);have U2:=Am (Kd.R_below U.out hb);have xr0 : w2.cell? ⟨w.heap.size,0,none⟩ = some (.int .i64 0):=(bC KR2.out 0).trans rfl;have fr0:=bF KR2.out 0;have xr1 : w2.cell? ⟨w.heap.size,1,none⟩ = some (.int .i64 0):=(bC KR2.out 1).trans rfl;have fr1:=bF KR2.out 1;have xr2 : w2.cell? ⟨w.heap.size,2,none⟩ = some (.int .i64 0):=(bC KR2.out 2).trans rfl;have fr2:=bF KR2.out 2;have xr3 : w2.cell? ⟨w.heap.size,3,none⟩ = some (.int .i64 0):=(bC KR2.out 3).trans rfl;have fr3:=bF KR2.out 3;have xr4 : w2.cell? ⟨w.heap.size,4,none⟩ = some (.int .i64 0):=(bC KR2.out 4).trans rfl;have fr4:=bF KR2.out 4;have xr5 : w2.cell? ⟨w.heap.size,5,none⟩ = some (.int .i64 0):=(bC KR2.out 5).trans rfl;have fr5:=bF KR2.out 5;have xr6 : w2.cell? ⟨w.heap.size,6,none⟩ = some (.int .i64 0):=(bC KR2.out 6).trans rfl;have fr6:=bF KR2.out 6;have xr7 : w2.cell? ⟨w.heap.size,7,none⟩ = some (.int .i64 0):=(bC KR2.out 7).trans rfl;have fr7:=bF KR2.out 7;have xr8 : w2.cell? ⟨w.heap.size,8,none⟩ = some (.int .i64 0):=(bC KR2.out 8).trans rfl;have fr8:=bF KR2.out 8;have xr9 : w2.cell? ⟨w.heap.size,9,none⟩ = some (.slice none 0 0):=(bC KR2.out 9).trans rfl;have fr9:=bF KR2.out 9;have xr10 : w2.cell? ⟨w.heap.size,10,none⟩ = some (.slice none 0 0):=(bC KR2.out 10).trans rfl;have fr10:=bF KR2.out 10;have xr11 : w2.cell? ⟨w.heap.size,11,none⟩ = some (.slice none 0 0):=(bC KR2.out 11).trans rfl;have fr11:=bF KR2.out 11;have xc0 : w2.cell? ⟨w.heap.size + 1,0,none⟩ = some (.int .i64 c.f0):=(bC KC2.out 0).trans rfl;have xc1 : w2.cell? ⟨w.heap.size + 1,1,none⟩ = some (.int .i64 c.f1):=(bC KC2.out 1).trans rfl;have xc2 : w2.cell? ⟨w.heap.size + 1,2,none⟩ = some (.int .i64 c.f2):=(bC KC2.out 2).trans rfl;have xc3 : w2.cell? ⟨w.heap.size + 1,3,none⟩ = some (.int .i64 c.f3):=(bC KC2.out 3).trans rfl;have xc4 : w2.cell? ⟨w.heap.size + 1,4,none⟩ = some (.int .i64 c.f4):=(bC KC2.out 4).trans rfl;have xc5 : w2.cell? ⟨w.heap.size + 1,5,none⟩ = some (.int .i64 c.f5):=(bC KC2.out 5).trans rfl;have xc6 : w2.cell? ⟨w.heap.size + 1,6,none⟩ = some (.int .i64 c.f6):=(bC KC2.out 6).trans rfl;have xc7 : w2.cell? ⟨w.heap.size + 1,7,none⟩ = some (.int .i64 c.f7):=(bC KC2.out 7).trans rfl;have xc8 : w2.cell? ⟨w.heap.size + 1,8,none⟩ = some (.int .i64 c.f8):=(bC KC2.out 8).trans rfl;have xc9 : w2.cell? ⟨w.heap.size + 1,9,none⟩ = some (.slice A9 L9.length c9):=(bC KC2.out 9).trans rfl;have xc10 : w2.cell? ⟨w.heap.size + 1,10,none⟩ = some (.slice A10 L10.length c10):=(bC KC2.out 10).trans rfl;have xc11 : w2.cell? ⟨w.heap.size + 1,11,none⟩ = some (.slice A11 L11.length c11):=(bC KC2.out 11).trans rfl;clear hb))
    try rw [Exit.noGoto_ret]
    refine bodyPost_ret (results_ctt rfl _ _ w.heap.size 28 #[.int .i64 0,.int .i64 0,.int .i64 0,.int .i64 0,.int .i64 0,.int .i64 0,.int .i64 0,.int .i64 0,.int .i64 0,.slice none 0 0,.slice none 0 0,.slice none 0 0] (0,0) _ rfl (put12 KR2.out (.int .i64 0) (.int .i64 0) (.int .i64 0) (.int .i64 0) (.int .i64 0) (.int .i64 0) (.int .i64 0) (.int .i64 0) (.int .i64 0) (.slice none 0 0) (.slice none 0 0) (.slice none 0 0) ) Tryd.underlying28 rfl (by kernel_rfl)) rfl ?_
    exact ⟨_,_,_,rfl,Kd.R_nil _ _ _ _ _,Kd.R_nil _ _ _ _ _,Kd.R_nil _ _ _ _ _,below12 (UP.out _ B2.out) (Nat.le_refl _) (.int .i64 0) (.int .i64 0) (.int .i64 0) (.int .i64 0) (.int .i64 0) (.int .i64 0) (.int .i64 0) (.int .i64 0) (.int .i64 0) (.slice none 0 0) (.slice none 0 0) (.slice none 0 0) ⟩
   subst he
   rw [if_pos rfl] at h
   simp only [Option.some.injEq,Prod.mk.injEq] at h
   obtain ⟨rfl,rfl,rfl,rfl,rfl,rfl,rfl,rfl,rfl,rfl,rfl,rfl,rfl,rfl⟩:=h
   go_wp2_with (first|(go_at_call 12;(with_reducible refine (conf_Check.calls k c.f0 c.f1 c.f2 c.f3 c.f4 c.f5 c.f6 c.f7 c.f8 A9 c9 L9 A10 c10 L10 A11 c11 L11 _ _ ?s1 ?s2 ?s3 ?s4 ?s5 ?s6 ?s7 A1.out).mono ?_);(case s1=>exact G.out);(case s2=>exact (Kd.R_reads' S.out).2.2);(case s3=>exact (Kd.R_reads' S.out).2.1);(case s4=>exact (Kd.R_reads' T.out).2.2);(case s5=>exact (Kd.R_reads' T.out).2.1);(case s6=>exact (Kd.R_reads' U.out).2.2);(case s7=>exact (Kd.R_reads' U.out).2.1);rintro e_ w2 ⟨rfl,hb⟩;have B2:=Am (below_then B.out hb (bZ B.out));have KR2:=Am ((hb.block w.heap.size (blk_lt KR.out)).trans KR.out);have KC2:=Am ((hb.block (w.heap.size + 1) (blk_lt KC.out)).trans KC.out);have S2:=Am (Kd.R_below S.out hb);have T2:=Am (Kd.R_below T.out hb);have U2:=Am (Kd.R_below U.out hb);have xr0 : w2.cell? ⟨w.heap.size,0,none⟩ = some (.int .i64 0):=(bC KR2.out 0).trans rfl;have fr0:=bF KR2.out 0;have xr1 : w2.cell? ⟨w.heap.size,1,none⟩ = some (.int .i64 0):=(bC KR2.out 1).trans rfl;have fr1:=bF KR2.out 1;have xr2 : w2.cell? ⟨w.heap.size,2,none⟩ = some (.int .i64 0):=(bC KR2.out 2).trans rfl;have fr2:=bF KR2.out 2;have xr3 : w2.cell? ⟨w.heap.size,3,none⟩ = some (.int .i64 0):=(bC KR2.out 3).trans rfl;have fr3:=bF KR2.out 3;have xr4 : w2.cell? ⟨w.heap.size,4,none⟩ = some (.int .i64 0):=(bC KR2.out 4).trans rfl;have fr4:=bF KR2.out 4;have xr5 : w2.cell? ⟨w.heap.size,5,none⟩ = some (.int .i64 0):=(bC KR2.out 5).trans rfl;have fr5:=bF KR2.out 5;have xr6 : w2.cell? ⟨w.heap.size,6,none⟩ = some (.int .i64 0):=(bC KR2.out 6).trans rfl;have fr6:=bF KR2.out 6;have xr7 : w2.cell? ⟨w.heap.size,7,none⟩ = some (.int .i64 0):=(bC KR2.out 7).trans rfl;have fr7:=bF KR2.out 7;have xr8 : w2.cell? ⟨w.heap.size,8,none⟩ = some (.int .i64 0):=(bC KR2.out 8).trans rfl;have fr8:=bF KR2.out 8;have xr9 : w2.cell? ⟨w.heap.size,9,none⟩ = some (.slice none 0 0):=(bC KR2.out 9).trans rfl;have fr9:=bF KR2.out 9;have xr10 : w2.cell? ⟨w.heap.size,10,none⟩ = some (.slice none 0 0):=(bC KR2.out 10).trans rfl;have fr10:=bF KR2.out 10;have xr11 : w2.cell? ⟨w.heap.size,11,none⟩ = some (.slice none 0 0):=(bC KR2.out 11).trans rfl;have fr11:=bF KR2.out 11;have xc0 : w2.cell? ⟨w.heap.size + 1,0,none⟩ = some (.int .i64 c.f0):=(bC KC2.out 0).trans rfl;have xc1 : w2.cell? ⟨w.heap.size + 1,1,none⟩ = some (.int .i64 c.f1):=(bC KC2.out 1).trans rfl;have xc2 : w2.cell? ⟨w.heap.size + 1,2,none⟩ = some (.int .i64 c.f2):=(bC KC2.out 2).trans rfl;have xc3 : w2.cell? ⟨w.heap.size + 1,3,none⟩ = some (.int .i64 c.f3):=(bC KC2.out 3).trans rfl;have xc4 : w2.cell? ⟨w.heap.size + 1,4,none⟩ = some (.int .i64 c.f4):=(bC KC2.out 4).trans rfl;have xc5 : w2.cell? ⟨w.heap.size + 1,5,none⟩ = some (.int .i64 c.f5):=(bC KC2.out 5).trans rfl;have xc6 : w2.cell? ⟨w.heap.size + 1,6,none⟩ = some (.int .i64 c.f6):=(bC KC2.out 6).trans rfl;have xc7 : w2.cell? ⟨w.heap.size + 1,7,none⟩ = some (.int .i64 c.f7):=(bC KC2.out 7).trans rfl;have xc8 : w2.cell? ⟨w.heap.size + 1,8,none⟩ = some (.int .i64 c.f8):=(bC KC2.out 8).trans rfl;have xc9 : w2.cell? ⟨w.heap.size + 1,9,none⟩ = some (.slice A9 L9.length c9):=(bC KC2.out 9).trans rfl;have xc10 : w2.cell? ⟨w.heap.size + 1,10,none⟩ = some (.slice A10 L10.length c10):=(bC KC2.out 10).trans rfl;have xc11 : w2.cell? ⟨w.heap.size + 1,11,none⟩ = some (.slice A11 L11.length c11):=(bC KC2.out 11).trans rfl;clear hb))
   try rw [Exit.noGoto_ret]
   refine bodyPost_ret (results_ctt rfl _ _ w.heap.size 28 #[.int .i64 c.f0,.int .i64 c.f1,.int .i64 c.f2,.int .i64 c.f3,.int .i64 c.f4,.int .i64 c.f5,.int .i64 c.f6,.int .i64 c.f7,.int .i64 c.f8,.slice A9 L9.length c9,.slice A10 L10.length c10,.slice A11 L11.length c11] (0,0) _ rfl (put12 KR2.out (.int .i64 c.f0) (.int .i64 c.f1) (.int .i64 c.f2) (.int .i64 c.f3) (.int .i64 c.f4) (.int .i64 c.f5) (.int .i64 c.f6) (.int .i64 c.f7) (.int .i64 c.f8) (.slice A9 L9.length c9) (.slice A10 L10.length c10) (.slice A11 L11.length c11)) Tryd.underlying28 rfl (by kernel_rfl)) rfl ?_
   exact ⟨_,_,_,rfl,R_set12 (Kd.R_lower S2.out LE.out) ⟨_,KR2.out⟩ (by decide) (.int .i64 c.f0) (.int .i64 c.f1) (.int .i64 c.f2) (.int .i64 c.f3) (.int .i64 c.f4) (.int .i64 c.f5) (.int .i64 c.f6) (.int .i64 c.f7) (.int .i64 c.f8) (.slice A9 L9.length c9) (.slice A10 L10.length c10) (.slice A11 L11.length c11),R_set12 (Kd.R_lower T2.out LE.out) ⟨_,KR2.out⟩ (by decide) (.int .i64 c.f0) (.int .i64 c.f1) (.int .i64 c.f2) (.int .i64 c.f3) (.int .i64 c.f4) (.int .i64 c.f5) (.int .i64 c.f6) (.int .i64 c.f7) (.int .i64 c.f8) (.slice A9 L9.length c9) (.slice A10 L10.length c10) (.slice A11 L11.length c11),R_set12 (Kd.R_lower U2.out LE.out) ⟨_,KR2.out⟩ (by decide) (.int .i64 c.f0) (.int .i64 c.f1) (.int .i64 c.f2) (.int .i64 c.f3) (.int .i64 c.f4) (.int .i64 c.f5) (.int .i64 c.f6) (.int .i64 c.f7) (.int .i64 c.f8) (.slice A9 L9.length c9) (.slice A10 L10.length c10) (.slice A11 L11.length c11),below12 (UP.out _ B2.out) (Nat.le_refl _) (.int .i64 c.f0) (.int .i64 c.f1) (.int .i64 c.f2) (.int .i64 c.f3) (.int .i64 c.f4) (.int .i64 c.f5) (.int .i64 c.f6) (.int .i64 c.f7) (.int .i64 c.f8) (.slice A9 L9.length c9) (.slice A10 L10.length c10) (.slice A11 L11.length c11)⟩
  have e0 : text.toList.isEmpty = false:=by
   cases hl : text.toList with
   | nil=>exact absurd hl ht
   | cons _ _=>rfl
  have h:=HP.out
  rw [parL,if_neg ht] at h
  clear HP ht
  by_cases hn : n < 1000000000
  case neg=>rw [if_neg hn] at h;cases h
  rw [if_pos hn] at h
  obtain ⟨⟨line,rest,ends⟩,C1,h⟩:=oB h
  unfold nlB at C1
  have C1:=Am C1
  dsimp only at h
  have xr0 : wr.cell? ⟨w.heap.size,0,none⟩ = some (.int .i64 0):=(bC KR.out 0).trans rfl
  have fr0:=bF KR.out 0
  have xr1 : wr.cell? ⟨w.heap.size,1,none⟩ = some (.int .i64 0):=(bC KR.out 1).trans rfl
  have fr1:=bF KR.out 1
  have xr2 : wr.cell? ⟨w.heap.size,2,none⟩ = some (.int .i64 0):=(bC KR.out 2).trans rfl
  have fr2:=bF KR.out 2
  have xr3 : wr.cell? ⟨w.heap.size,3,none⟩ = some (.int .i64 0):=(bC KR.out 3).trans rfl
  have fr3:=bF KR.out 3
  have xr4 : wr.cell? ⟨w.heap.size,4,none⟩ = some (.int .i64 0):=(bC KR.out 4).trans rfl
  have fr4:=bF KR.out 4
  have xr5 : wr.cell? ⟨w.heap.size,5,none⟩ = some (.int .i64 0):=(bC KR.out 5).trans rfl
  have fr5:=bF KR.out 5
  have xr6 : wr.cell? ⟨w.heap.size,6,none⟩ = some (.int .i64 0):=(bC KR.out 6).trans rfl
  have fr6:=bF KR.out 6
  have xr7 : wr.cell? ⟨w.heap.size,7,none⟩ = some (.int .i64 0):=(bC KR.out 7).trans rfl
  have fr7:=bF KR.out 7
  have xr8 : wr.cell? ⟨w.heap.size,8,none⟩ = some (.int .i64 0):=(bC KR.out 8).trans rfl
  have fr8:=bF KR.out 8
  have xr9 : wr.cell? ⟨w.heap.size,9,none⟩ = some (.slice none 0 0):=(bC KR.out 9).trans rfl
  have fr9:=bF KR.out 9
  have xr10 : wr.cell? ⟨w.heap.size,10,none⟩ = some (.slice none 0 0):=(bC KR.out 10).trans rfl
  have fr10:=bF KR.out 10
  have xr11 : wr.cell? ⟨w.heap.size,11,none⟩ = some (.slice none 0 0):=(bC KR.out 11).trans rfl
  have fr11:=bF KR.out 11
  cases ends with
  | false =>
   rw [if_neg (by simp)] at h
   simp only [Option.some.injEq,Prod.mk.injEq] at h
   obtain ⟨rfl,rfl,rfl,rfl,rfl,rfl,rfl,rfl,rfl,rfl,rfl,rfl,rfl,rfl⟩:=h
   go_wp2_with (first|(go_at_call 35;(with_reducible refine (strings_Cut.calls text _ line rest false _ ?s1 C1.out).mono ?_);(case s1=>exact G.out);rintro e_ w2 ⟨rfl,hb⟩;have B2:=Am (below_then B.out hb (bZ B.out));have G2:=Am (Glob.below G.out hb);have KR2:=Am ((hb.block w.heap.size (blk_lt KR.out)).trans KR.out);have KC2:=Am ((hb.block (w.heap.size + 1) (blk_lt KC.out)).trans KC.out);have S2:=Am (Kd.R_below S.out hb);have T2:=Am (Kd.R_below T.out hb);have U2:=Am (Kd.R_below U.out hb);have xr0 : w2.cell? ⟨w.heap.size,0,none⟩ = some (.int .i64 0):=(bC KR2.out 0).trans rfl;have fr0:=bF KR2.out 0;have xr1 : w2.cell? ⟨w.heap.size,1,none⟩ = some (.int .i64 0):=(bC KR2.out 1).trans rfl;have fr1:=bF KR2.out 1;have xr2 : w2.cell? ⟨w.heap.size,2,none⟩ = some (.int .i64 0):=(bC KR2.out 2).trans rfl;have fr2:=bF KR2.out 2;have xr3 : w2.cell? ⟨w.heap.size,3,none⟩ = some (.int .i64 0):=(bC KR2.out 3).trans rfl;have fr3:=bF KR2.out 3;have xr4 : w2.cell? ⟨w.heap.size,4,none⟩ = some (.int .i64 0):=(bC KR2.out 4).trans rfl;have fr4:=bF KR2.out 4;have xr5 : w2.cell? ⟨w.heap.size,5,none⟩ = some (.int .i64 0):=(bC KR2.out 5).trans rfl;have fr5:=bF KR2.out 5;have xr6 : w2.cell? ⟨w.heap.size,6,none⟩ = some (.int .i64 0):=(bC KR2.out 6).trans rfl;have fr6:=bF KR2.out 6;have xr7 : w2.cell? ⟨w.heap.size,7,none⟩ = some (.int .i64 0):=(bC KR2.out 7).trans rfl;have fr7:=bF KR2.out 7;have xr8 : w2.cell? ⟨w.heap.size,8,none⟩ = some (.int .i64 0):=(bC KR2.out 8).trans rfl;have fr8:=bF KR2.out 8;have xr9 : w2.cell? ⟨w.heap.size,9,none⟩ = some (.slice none 0 0):=(bC KR2.out 9).trans rfl;have fr9:=bF KR2.out 9;have xr10 : w2.cell? ⟨w.heap.size,10,none⟩ = some (.slice none 0 0):=(bC KR2.out 10).trans rfl;have fr10:=bF KR2.out 10;have xr11 : w2.cell? ⟨w.heap.size,11,none⟩ = some (.slice none 0 0):=(bC KR2.out 11).trans rfl;have fr11:=bF KR2.out 11;clear hb))
   try rw [Exit.noGoto_ret]
   refine bodyPost_ret (results_ctt rfl _ _ w.heap.size 28 #[.int .i64 0,.int .i64 0,.int .i64 0,.int .i64 0,.int .i64 0,.int .i64 0,.int .i64 0,.int .i64 0,.int .i64 0,.slice none 0 0,.slice none 0 0,.slice none 0 0] (0,0) _ rfl (put12 KR2.out (.int .i64 0) (.int .i64 0) (.int .i64 0) (.int .i64 0) (.int .i64 0) (.int .i64 0) (.int .i64 0) (.int .i64 0) (.int .i64 0) (.slice none 0 0) (.slice none 0 0) (.slice none 0 0) ) Tryd.underlying28 rfl (by kernel_rfl)) rfl ?_
   exact ⟨_,_,_,rfl,Kd.R_nil _ _ _ _ _,Kd.R_nil _ _ _ _ _,Kd.R_nil _ _ _ _ _,below12 (UP.out _ B2.out) (Nat.le_refl _) (.int .i64 0) (.int .i64 0) (.int .i64 0) (.int .i64 0) (.int .i64 0) (.int .i64 0) (.int .i64 0) (.int .i64 0) (.int .i64 0) (.slice none 0 0) (.slice none 0 0) (.slice none 0 0) ⟩
  | true =>
   rw [if_pos rfl] at h
   by_cases h5 : n≤5
   ·rw [if_pos h5] at h
    have d5 : decide (n≤5) = true:=decide_eq_true h5
    obtain ⟨⟨ok,c'⟩,F1,h⟩:=oB h
    have F1:=Am F1
    dsimp only at h
    cases ok with
    | true =>
     rw [if_pos rfl] at h
     have HN:=Am h
     clear h
     go_wp2_with (first|(go_at_call 35;(with_reducible refine (strings_Cut.calls text _ line rest true _ ?s1 C1.out).mono ?_);(case s1=>exact G.out);rintro e_ w2 ⟨rfl,hb⟩;have B2:=Am (below_then B.out hb (bZ B.out));have G2:=Am (Glob.below G.out hb);have KR2:=Am ((hb.block w.heap.size (blk_lt KR.out)).trans KR.out);have KC2:=Am ((hb.block (w.heap.size + 1) (blk_lt KC.out)).trans KC.out);have S2:=Am (Kd.R_below S.out hb);have T2:=Am (Kd.R_below T.out hb);have U2:=Am (Kd.R_below U.out hb);have xr0 : w2.cell? ⟨w.heap.size,0,none⟩ = some (.int .i64 0):=(bC KR2.out 0).trans rfl;have fr0:=bF KR2.out 0;have xr1 : w2.cell? ⟨w.heap.size,1,none⟩ = some (.int .i64 0):=(bC KR2.out 1).trans rfl;have fr1:=bF KR2.out 1;have xr2 : w2.cell? ⟨w.heap.size,2,none⟩ = some (.int .i64 0):=(bC KR2.out 2).trans rfl;have fr2:=bF KR2.out 2;have xr3 : w2.cell? ⟨w.heap.size,3,none⟩ = some (.int .i64 0):=(bC KR2.out 3).trans rfl;have fr3:=bF KR2.out 3;have xr4 : w2.cell? ⟨w.heap.size,4,none⟩ = some (.int .i64 0):=(bC KR2.out 4).trans rfl;have fr4:=bF KR2.out 4;have xr5 : w2.cell? ⟨w.heap.size,5,none⟩ = some (.int .i64 0):=(bC KR2.out 5).trans rfl;have fr5:=bF KR2.out 5;have xr6 : w2.cell? ⟨w.heap.size,6,none⟩ = some (.int .i64 0):=(bC KR2.out 6).trans rfl;have fr6:=bF KR2.out 6;have xr7 : w2.cell? ⟨w.heap.size,7,none⟩ = some (.int .i64 0):=(bC KR2.out 7).trans rfl;have fr7:=bF KR2.out 7;have xr8 : w2.cell? ⟨w.heap.size,8,none⟩ = some (.int .i64 0):=(bC KR2.out 8).trans rfl;have fr8:=bF KR2.out 8;have xr9 : w2.cell? ⟨w.heap.size,9,none⟩ = some (.slice none 0 0):=(bC KR2.out 9).trans rfl;have fr9:=bF KR2.out 9;have xr10 : w2.cell? ⟨w.heap.size,10,none⟩ = some (.slice none 0 0):=(bC KR2.out 10).trans rfl;have fr10:=bF KR2.out 10;have xr11 : w2.cell? ⟨w.heap.size,11,none⟩ = some (.slice none 0 0):=(bC KR2.out 11).trans rfl;have fr11:=bF KR2.out 11;clear hb)|(go_at_call 36;(with_reducible refine (conf_first.calls k (w.heap.size + 1) c v9 v10 v11 L9 L10 L11 (n - 1) line true c' w1 _ ?s1 ?s2 ?s3 ?s4 ?s5 ?s6 ?s7 F1.out).mono ?_);(case s1=>exact G2.out);(case s2=>exact B2.out);(case s3=>exact LB.out);(case s4=>exact KC2.out);(case s5=>exact S2.out);(case s6=>exact T2.out);(case s7=>exact U2.out);rintro e_ w3 ⟨rfl,q1,q2,q3,q4,q5⟩;have KR3:=Am ((q5.block _ LT.out).trans Z1.out);have KC3:=Am q1;have S3:=Am q2;have T3:=Am q3;have U3:=Am q4;have B3:=Am q5;have G3:=Am (Glob.below GW.out q5);have xr0 : w3.cell? ⟨w.heap.size,0,none⟩ = some (.int .i64 0):=(bC KR3.out 0).trans rfl;have fr0:=bF KR3.out 0;have xr1 : w3.cell? ⟨w.heap.size,1,none⟩ = some (.int .i64 0):=(bC KR3.out 1).trans rfl;have fr1:=bF KR3.out 1;have xr2 : w3.cell? ⟨w.heap.size,2,none⟩ = some (.int .i64 0):=(bC KR3.out 2).trans rfl;have fr2:=bF KR3.out 2;have xr3 : w3.cell? ⟨w.heap.size,3,none⟩ = some (.int .i64 0):=(bC KR3.out 3).trans rfl;have fr3:=bF KR3.out 3;have xr4 : w3.cell? ⟨w.heap.size,4,none⟩ = some (.int .i64 0):=(bC KR3.out 4).trans rfl;have fr4:=bF KR3.out 4;have xr5 : w3.cell? ⟨w.heap.size,5,none⟩ = some (.int .i64 0):=(bC KR3.out 5).trans rfl;have fr5:=bF KR3.out 5;have xr6 : w3.cell? ⟨w.heap.size,6,none⟩ = some (.int .i64 0):=(bC KR3.out 6).trans rfl;have fr6:=bF KR3.out 6;have xr7 : w3.cell? ⟨w.heap.size,7,none⟩ = some (.int .i64 0):=(bC KR3.out 7).trans rfl;have fr7:=bF KR3.out 7;have xr8 : w3.cell? ⟨w.heap.size,8,none⟩ = some (.int .i64 0):=(bC KR3.out 8).trans rfl;have fr8:=bF KR3.out 8;have xr9 : w3.cell? ⟨w.heap.size,9,none⟩ = some (.slice none 0 0):=(bC KR3.out 9).trans rfl;have fr9:=bF KR3.out 9;have xr10 : w3.cell? ⟨w.heap.size,10,none⟩ = some (.slice none 0 0):=(bC KR3.out 10).trans rfl;have fr10:=bF KR3.out 10;have xr11 : w3.cell? ⟨w.heap.size,11,none⟩ = some (.slice none 0 0):=(bC KR3.out 11).trans rfl;have fr11:=bF KR3.out 11;clear q1 q2 q3 q4 q5))
     go_roundg gk
     case measure=>exact Nat.lt_succ_self _
     case rel =>
      exact ⟨rest,part,n + 1,c',v9,v10,v11,L9,L10,L11,rfl,rfl,rfl,hp0,hp3,by omega,HN,KR3,KC3,S3,T3,U3,B3,G3⟩
    | false =>
     rw [if_neg (by simp)] at h
     simp only [Option.some.injEq,Prod.mk.injEq] at h
     obtain ⟨rfl,rfl,rfl,rfl,rfl,rfl,rfl,rfl,rfl,rfl,rfl,rfl,rfl,rfl⟩:=h
     go_wp2_with (first|(go_at_call 35;(with_reducible refine (strings_Cut.calls text _ line rest true _ ?s1 C1.out).mono ?_);(case s1=>exact G.out);rintro e_ w2 ⟨rfl,hb⟩;have B2:=Am (below_then B.out hb (bZ B.out));have G2:=Am (Glob.below G.out hb);have KR2:=Am ((hb.block w.heap.size (blk_lt KR.out)).trans KR.out);have KC2:=Am ((hb.block (w.heap.size + 1) (blk_lt KC.out)).trans KC.out);have S2:=Am (Kd.R_below S.out hb);have T2:=Am (Kd.R_below T.out hb);have U2:=Am (Kd.R_below U.out hb);have xr0 : w2.cell? ⟨w.heap.size,0,none⟩ = some (.int .i64 0):=(bC KR2.out 0).trans rfl;have fr0:=bF KR2.out 0;have xr1 : w2.cell? ⟨w.heap.size,1,none⟩ = some (.int .i64 0):=(bC KR2.out 1).trans rfl;have fr1:=bF KR2.out 1;have xr2 : w2.cell? ⟨w.heap.size,2,none⟩ = some (.int .i64 0):=(bC KR2.out 2).trans rfl;have fr2:=bF KR2.out 2;have xr3 : w2.cell? ⟨w.heap.size,3,none⟩ = some (.int .i64 0):=(bC KR2.out 3).trans rfl;have fr3:=bF KR2.out 3;have xr4 : w2.cell? ⟨w.heap.size,4,none⟩ = some (.int .i64 0):=(bC KR2.out 4).trans rfl;have fr4:=bF KR2.out 4;have xr5 : w2.cell? ⟨w.heap.size,5,none⟩ = some (.int .i64 0):=(bC KR2.out 5).trans rfl;have fr5:=bF KR2.out 5;have xr6 : w2.cell? ⟨w.heap.size,6,none⟩ = some (.int .i64 0):=(bC KR2.out 6).trans rfl;have fr6:=bF KR2.out 6;have xr7 : w2.cell? ⟨w.heap.size,7,none⟩ = some (.int .i64 0):=(bC KR2.out 7).trans rfl;have fr7:=bF KR2.out 7;have xr8 : w2.cell? ⟨w.heap.size,8,none⟩ = some (.int .i64 0):=(bC KR2.out 8).trans rfl;have fr8:=bF KR2.out 8;have xr9 : w2.cell? ⟨w.heap.size,9,none⟩ = some (.slice none 0 0):=(bC KR2.out 9).trans rfl;have fr9:=bF KR2.out 9;have xr10 : w2.cell? ⟨w.heap.size,10,none⟩ = some (.slice none 0 0):=(bC KR2.out 10).trans rfl;have fr10:=bF KR2.out 10;have xr11 : w2.cell? ⟨w.heap.size,11,none⟩ = some (.slice none 0 0):=(bC KR2.out 11).trans rfl;have fr11:=bF KR2.out 11;clear hb)|(go_at_call 36;(with_reducible refine (conf_first.calls k (w.heap.size + 1) c v9 v10 v11 L9 L10 L11 (n - 1) line false c' w1 _ ?s1 ?s2 ?s3 ?s4 ?s5 ?s6 ?s7 F1.out).mono ?_);(case s1=>exact G2.out);(case s2=>exact B2.out);(case s3=>exact LB.out);(case s4=>exact KC2.out);(case s5=>exact S2.out);(case s6=>exact T2.out);(case s7=>exact U2.out);rintro e_ w3 ⟨rfl,q1,q2,q3,q4,q5⟩;have KR3:=Am ((q5.block _ LT.out).trans Z1.out);have KC3:=Am q1;have S3:=Am q2;have T3:=Am q3;have U3:=Am q4;have B3:=Am q5;have G3:=Am (Glob.below GW.out q5);have xr0 : w3.cell? ⟨w.heap.size,0,none⟩ = some (.int .i64 0):=(bC KR3.out 0).trans rfl;have fr0:=bF KR3.out 0;have xr1 : w3.cell? ⟨w.heap.size,1,none⟩ = some (.int .i64 0):=(bC KR3.out 1).trans rfl;have fr1:=bF KR3.out 1;have xr2 : w3.cell? ⟨w.heap.size,2,none⟩ = some (.int .i64 0):=(bC KR3.out 2).trans rfl;have fr2:=bF KR3.out 2;have xr3 : w3.cell? ⟨w.heap.size,3,none⟩ = some (.int .i64 0):=(bC KR3.out 3).trans rfl;have fr3:=bF KR3.out 3;have xr4 : w3.cell? ⟨w.heap.size,4,none⟩ = some (.int .i64 0):=(bC KR3.out 4).trans rfl;have fr4:=bF KR3.out 4;have xr5 : w3.cell? ⟨w.heap.size,5,none⟩ = some (.int .i64 0):=(bC KR3.out 5).trans rfl;have fr5:=bF KR3.out 5;have xr6 : w3.cell? ⟨w.heap.size,6,none⟩ = some (.int .i64 0):=(bC KR3.out 6).trans rfl;have fr6:=bF KR3.out 6;have xr7 : w3.cell? ⟨w.heap.size,7,none⟩ = some (.int .i64 0):=(bC KR3.out 7).trans rfl;have fr7:=bF KR3.out 7;have xr8 : w3.cell? ⟨w.heap.size,8,none⟩ = some (.int .i64 0):=(bC KR3.out 8).trans rfl;have fr8:=bF KR3.out 8;have xr9 : w3.cell? ⟨w.heap.size,9,none⟩ = some (.slice none 0 0):=(bC KR3.out 9).trans rfl;have fr9:=bF KR3.out 9;have xr10 : w3.cell? ⟨w.heap.size,10,none⟩ = some (.slice none 0 0):=(bC KR3.out 10).trans rfl;have fr10:=bF KR3.out 10;have xr11 : w3.cell? ⟨w.heap.size,11,none⟩ = some (.slice none 0 0):=(bC KR3.out 11).trans rfl;have fr11:=bF KR3.out 11;clear q1 q2 q3 q4 q5))
     try rw [Exit.noGoto_ret]
     refine bodyPost_ret (results_ctt rfl _ _ w.heap.size 28 #[.int .i64 0,.int .i64 0,.int .i64 0,.int .i64 0,.int .i64 0,.int .i64 0,.int .i64 0,.int .i64 0,.int .i64 0,.slice none 0 0,.slice none 0 0,.slice none 0 0] (0,0) _ rfl (put12 KR3.out (.int .i64 0) (.int .i64 0) (.int .i64 0) (.int .i64 0) (.int .i64 0) (.int .i64 0) (.int .i64 0) (.int .i64 0) (.int .i64 0) (.slice none 0 0) (.slice none 0 0) (.slice none 0 0) ) Tryd.underlying28 rfl (by kernel_rfl)) rfl ?_
     exact ⟨_,_,_,rfl,Kd.R_nil _ _ _ _ _,Kd.R_nil _ _ _ _ _,Kd.R_nil _ _ _ _ _,below12 (UP.out _ B3.out) (Nat.le_refl _) (.int .i64 0) (.int .i64 0) (.int .i64 0) (.int .i64 0) (.int .i64 0) (.int .i64 0) (.int .i64 0) (.int .i64 0) (.int .i64 0) (.slice none 0 0) (.slice none 0 0) (.slice none 0 0) ⟩
   rw [if_neg h5] at h
   have d5 : decide (n≤5) = false:=decide_eq_false h5
   obtain ⟨⟨kk,M9,M10,M11⟩,F1,h2⟩:=oB h
   clear h
   have h:=h2
   clear h2
   have hkk:=later_le F1
   have F1:=Am F1
   dsimp only at h
   clear h5
   by_cases hq : kk = part∧0 < kk
   ·obtain ⟨hk1,hk2⟩:=hq
    rw [if_pos (Or.inl ⟨hk1,hk2⟩)] at h
    have HN:=Am h
    clear h
    subst hk1
    have q1 : (kk == kk) = true:=beq_self_eq_true _
    go_wp2_with (first|(go_at_call 35;(with_reducible refine (strings_Cut.calls text _ line rest true _ ?s1 C1.out).mono ?_);(case s1=>exact G.out);rintro e_ w2 ⟨rfl,hb⟩;have B2:=Am (below_then B.out hb (bZ B.out));have G2:=Am (Glob.below G.out hb);have KR2:=Am ((hb.block w.heap.size (blk_lt KR.out)).trans KR.out);have KC2:=Am ((hb.block (w.heap.size + 1) (blk_lt KC.out)).trans KC.out);have S2:=Am (Kd.R_below S.out hb);have T2:=Am (Kd.R_below T.out hb);have U2:=Am (Kd.R_below U.out hb);have xr0 : w2.cell? ⟨w.heap.size,0,none⟩ = some (.int .i64 0):=(bC KR2.out 0).trans rfl;have fr0:=bF KR2.out 0;have xr1 : w2.cell? ⟨w.heap.size,1,none⟩ = some (.int .i64 0):=(bC KR2.out 1).trans rfl;have fr1:=bF KR2.out 1;have xr2 : w2.cell? ⟨w.heap.size,2,none⟩ = some (.int .i64 0):=(bC KR2.out 2).trans rfl;have fr2:=bF KR2.out 2;have xr3 : w2.cell? ⟨w.heap.size,3,none⟩ = some (.int .i64 0):=(bC KR2.out 3).trans rfl;have fr3:=bF KR2.out 3;have xr4 : w2.cell? ⟨w.heap.size,4,none⟩ = some (.int .i64 0):=(bC KR2.out 4).trans rfl;have fr4:=bF KR2.out 4;have xr5 : w2.cell? ⟨w.heap.size,5,none⟩ = some (.int .i64 0):=(bC KR2.out 5).trans rfl;have fr5:=bF KR2.out 5;have xr6 : w2.cell? ⟨w.heap.size,6,none⟩ = some (.int .i64 0):=(bC KR2.out 6).trans rfl;have fr6:=bF KR2.out 6;have xr7 : w2.cell? ⟨w.heap.size,7,none⟩ = some (.int .i64 0):=(bC KR2.out 7).trans rfl;have fr7:=bF KR2.out 7;have xr8 : w2.cell? ⟨w.heap.size,8,none⟩ = some (.int .i64 0):=(bC KR2.out 8).trans rfl;have fr8:=bF KR2.out 8;have xr9 : w2.cell? ⟨w.heap.size,9,none⟩ = some (.slice none 0 0):=(bC KR2.out 9).trans rfl;have fr9:=bF KR2.out 9;have xr10 : w2.cell? ⟨w.heap.size,10,none⟩ = some (.slice none 0 0):=(bC KR2.out 10).trans rfl;have fr10:=bF KR2.out 10;have xr11 : w2.cell? ⟨w.heap.size,11,none⟩ = some (.slice none 0 0):=(bC KR2.out 11).trans rfl;have fr11:=bF KR2.out 11;clear hb)|(go_at_call 37;(with_reducible refine (conf_later.calls k (w.heap.size + 1) c.f0 c.f1 c.f2 c.f3 c.f4 c.f5 c.f6 c.f7 c.f8 v9 v10 v11 L9 L10 L11 line kk M9 M10 M11 w1 _ ?s1 ?s2 ?s3 ?s4 ?s5 ?s6 ?s7 F1.out).mono ?_);(case s1=>exact G2.out);(case s2=>exact B2.out);(case s3=>exact LB.out);(case s4=>exact KC2.out);(case s5=>exact S2.out);(case s6=>exact T2.out);(case s7=>exact U2.out);rintro e_ w3 ⟨rfl,u9,u10,u11,q1,q2,q3,q4,q5⟩;have KR3:=Am ((q5.block _ LT.out).trans Z1.out);have KC3:=Am q1;have S3:=Am q2;have T3:=Am q3;have U3:=Am q4;have B3:=Am q5;have G3:=Am (Glob.below GW.out q5);have xr0 : w3.cell? ⟨w.heap.size,0,none⟩ = some (.int .i64 0):=(bC KR3.out 0).trans rfl;have fr0:=bF KR3.out 0;have xr1 : w3.cell? ⟨w.heap.size,1,none⟩ = some (.int .i64 0):=(bC KR3.out 1).trans rfl;have fr1:=bF KR3.out 1;have xr2 : w3.cell? ⟨w.heap.size,2,none⟩ = some (.int .i64 0):=(bC KR3.out 2).trans rfl;have fr2:=bF KR3.out 2;have xr3 : w3.cell? ⟨w.heap.size,3,none⟩ = some (.int .i64 0):=(bC KR3.out 3).trans rfl;have fr3:=bF KR3.out 3;have xr4 : w3.cell? ⟨w.heap.size,4,none⟩ = some (.int .i64 0):=(bC KR3.out 4).trans rfl;have fr4:=bF KR3.out 4;have xr5 : w3.cell? ⟨w.heap.size,5,none⟩ = some (.int .i64 0):=(bC KR3.out 5).trans rfl;have fr5:=bF KR3.out 5;have xr6 : w3.cell? ⟨w.heap.size,6,none⟩ = some (.int .i64 0):=(bC KR3.out 6).trans rfl;have fr6:=bF KR3.out 6;have xr7 : w3.cell? ⟨w.heap.size,7,none⟩ = some (.int .i64 0):=(bC KR3.out 7).trans rfl;have fr7:=bF KR3.out 7;have xr8 : w3.cell? ⟨w.heap.size,8,none⟩ = some (.int .i64 0):=(bC KR3.out 8).trans rfl;have fr8:=bF KR3.out 8;have xr9 : w3.cell? ⟨w.heap.size,9,none⟩ = some (.slice none 0 0):=(bC KR3.out 9).trans rfl;have fr9:=bF KR3.out 9;have xr10 : w3.cell? ⟨w.heap.size,10,none⟩ = some (.slice none 0 0):=(bC KR3.out 10).trans rfl;have fr10:=bF KR3.out 10;have xr11 : w3.cell? ⟨w.heap.size,11,none⟩ = some (.slice none 0 0):=(bC KR3.out 11).trans rfl;have fr11:=bF KR3.out 11;clear q1 q2 q3 q4 q5))
    go_roundg gk
    case measure=>exact Nat.lt_succ_self _
    case rel =>
     exact ⟨rest,kk,n + 1,c,u9,u10,u11,M9,M10,M11,rfl,rfl,rfl,hp0,hp3,by omega,HN,KR3,KC3,S3,T3,U3,B3,G3⟩
   by_cases hq2 : kk = part + 1
   ·rw [if_pos (Or.inr hq2)] at h
    have q1 : (kk == part) = false:=beq_eq_false_iff_ne.2 (by omega)
    have q2 : (kk == part + 1) = true:=beq_iff_eq.2 hq2
    have HN:=Am h
    have hk3:=hkk.2
    have hk0:=hkk.1
    clear h hq hq2 hkk
    go_wp2_with (first|(go_at_call 35;(with_reducible refine (strings_Cut.calls text _ line rest true _ ?s1 C1.out).mono ?_);(case s1=>exact G.out);rintro e_ w2 ⟨rfl,hb⟩;have B2:=Am (below_then B.out hb (bZ B.out));have G2:=Am (Glob.below G.out hb);have KR2:=Am ((hb.block w.heap.size (blk_lt KR.out)).trans KR.out);have KC2:=Am ((hb.block (w.heap.size + 1) (blk_lt KC.out)).trans KC.out);have S2:=Am (Kd.R_below S.out hb);have T2:=Am (Kd.R_below T.out hb);have U2:=Am (Kd.R_below U.out hb);have xr0 : w2.cell? ⟨w.heap.size,0,none⟩ = some (.int .i64 0):=(bC KR2.out 0).trans rfl;have fr0:=bF KR2.out 0;have xr1 : w2.cell? ⟨w.heap.size,1,none⟩ = some (.int .i64 0):=(bC KR2.out 1).trans rfl;have fr1:=bF KR2.out 1;have xr2 : w2.cell? ⟨w.heap.size,2,none⟩ = some (.int .i64 0):=(bC KR2.out 2).trans rfl;have fr2:=bF KR2.out 2;have xr3 : w2.cell? ⟨w.heap.size,3,none⟩ = some (.int .i64 0):=(bC KR2.out 3).trans rfl;have fr3:=bF KR2.out 3;have xr4 : w2.cell? ⟨w.heap.size,4,none⟩ = some (.int .i64 0):=(bC KR2.out 4).trans rfl;have fr4:=bF KR2.out 4;have xr5 : w2.cell? ⟨w.heap.size,5,none⟩ = some (.int .i64 0):=(bC KR2.out 5).trans rfl;have fr5:=bF KR2.out 5;have xr6 : w2.cell? ⟨w.heap.size,6,none⟩ = some (.int .i64 0):=(bC KR2.out 6).trans rfl;have fr6:=bF KR2.out 6;have xr7 : w2.cell? ⟨w.heap.size,7,none⟩ = some (.int .i64 0):=(bC KR2.out 7).trans rfl;have fr7:=bF KR2.out 7;have xr8 : w2.cell? ⟨w.heap.size,8,none⟩ = some (.int .i64 0):=(bC KR2.out 8).trans rfl;have fr8:=bF KR2.out 8;have xr9 : w2.cell? ⟨w.heap.size,9,none⟩ = some (.slice none 0 0):=(bC KR2.out 9).trans rfl;have fr9:=bF KR2.out 9;have xr10 : w2.cell? ⟨w.heap.size,10,none⟩ = some (.slice none 0 0):=(bC KR2.out 10).trans rfl;have fr10:=bF KR2.out 10;have xr11 : w2.cell? ⟨w.heap.size,11,none⟩ = some (.slice none 0 0):=(bC KR2.out 11).trans rfl;have fr11:=bF KR2.out 11;clear hb)|(go_at_call 37;(with_reducible refine (conf_later.calls k (w.heap.size + 1) c.f0 c.f1 c.f2 c.f3 c.f4 c.f5 c.f6 c.f7 c.f8 v9 v10 v11 L9 L10 L11 line kk M9 M10 M11 w1 _ ?s1 ?s2 ?s3 ?s4 ?s5 ?s6 ?s7 F1.out).mono ?_);(case s1=>exact G2.out);(case s2=>exact B2.out);(case s3=>exact LB.out);(case s4=>exact KC2.out);(case s5=>exact S2.out);(case s6=>exact T2.out);(case s7=>exact U2.out);rintro e_ w3 ⟨rfl,u9,u10,u11,q1,q2,q3,q4,q5⟩;have KR3:=Am ((q5.block _ LT.out).trans Z1.out);have KC3:=Am q1;have S3:=Am q2;have T3:=Am q3;have U3:=Am q4;have B3:=Am q5;have G3:=Am (Glob.below GW.out q5);have xr0 : w3.cell? ⟨w.heap.size,0,none⟩ = some (.int .i64 0):=(bC KR3.out 0).trans rfl;have fr0:=bF KR3.out 0;have xr1 : w3.cell? ⟨w.heap.size,1,none⟩ = some (.int .i64 0):=(bC KR3.out 1).trans rfl;have fr1:=bF KR3.out 1;have xr2 : w3.cell? ⟨w.heap.size,2,none⟩ = some (.int .i64 0):=(bC KR3.out 2).trans rfl;have fr2:=bF KR3.out 2;have xr3 : w3.cell? ⟨w.heap.size,3,none⟩ = some (.int .i64 0):=(bC KR3.out 3).trans rfl;have fr3:=bF KR3.out 3;have xr4 : w3.cell? ⟨w.heap.size,4,none⟩ = some (.int .i64 0):=(bC KR3.out 4).trans rfl;have fr4:=bF KR3.out 4;have xr5 : w3.cell? ⟨w.heap.size,5,none⟩ = some (.int .i64 0):=(bC KR3.out 5).trans rfl;have fr5:=bF KR3.out 5;have xr6 : w3.cell? ⟨w.heap.size,6,none⟩ = some (.int .i64 0):=(bC KR3.out 6).trans rfl;have fr6:=bF KR3.out 6;have xr7 : w3.cell? ⟨w.heap.size,7,none⟩ = some (.int .i64 0):=(bC KR3.out 7).trans rfl;have fr7:=bF KR3.out 7;have xr8 : w3.cell? ⟨w.heap.size,8,none⟩ = some (.int .i64 0):=(bC KR3.out 8).trans rfl;have fr8:=bF KR3.out 8;have xr9 : w3.cell? ⟨w.heap.size,9,none⟩ = some (.slice none 0 0):=(bC KR3.out 9).trans rfl;have fr9:=bF KR3.out 9;have xr10 : w3.cell? ⟨w.heap.size,10,none⟩ = some (.slice none 0 0):=(bC KR3.out 10).trans rfl;have fr10:=bF KR3.out 10;have xr11 : w3.cell? ⟨w.heap.size,11,none⟩ = some (.slice none 0 0):=(bC KR3.out 11).trans rfl;have fr11:=bF KR3.out 11;clear q1 q2 q3 q4 q5))
    go_roundg gk
    case measure=>exact Nat.lt_succ_self _
    case rel =>
     exact ⟨rest,kk,n + 1,c,u9,u10,u11,M9,M10,M11,rfl,rfl,rfl,hk0,hk3,by omega,HN,KR3,KC3,S3,T3,U3,B3,G3⟩
   rw [if_neg (fun z=>z.elim hq hq2)] at h
   have q2 : (kk == part + 1) = false:=beq_eq_false_iff_ne.2 hq2
   simp only [Option.some.injEq,Prod.mk.injEq] at h
   obtain ⟨rfl,rfl,rfl,rfl,rfl,rfl,rfl,rfl,rfl,rfl,rfl,rfl,rfl,rfl⟩:=h
   by_cases hk1 : kk = part
   rotate_left
   ·have q1 : (kk == part) = false:=beq_eq_false_iff_ne.2 hk1
    clear hq hq2 hkk hk1
    go_wp2_with (first|(go_at_call 35;(with_reducible refine (strings_Cut.calls text _ line rest true _ ?s1 C1.out).mono ?_);(case s1=>exact G.out);rintro e_ w2 ⟨rfl,hb⟩;have B2:=Am (below_then B.out hb (bZ B.out));have G2:=Am (Glob.below G.out hb);have KR2:=Am ((hb.block w.heap.size (blk_lt KR.out)).trans KR.out);have KC2:=Am ((hb.block (w.heap.size + 1) (blk_lt KC.out)).trans KC.out);have S2:=Am (Kd.R_below S.out hb);have T2:=Am (Kd.R_below T.out hb);have U2:=Am (Kd.R_below U.out hb);have xr0 : w2.cell? ⟨w.heap.size,0,none⟩ = some (.int .i64 0):=(bC KR2.out 0).trans rfl;have fr0:=bF KR2.out 0;have xr1 : w2.cell? ⟨w.heap.size,1,none⟩ = some (.int .i64 0):=(bC KR2.out 1).trans rfl;have fr1:=bF KR2.out 1;have xr2 : w2.cell? ⟨w.heap.size,2,none⟩ = some (.int .i64 0):=(bC KR2.out 2).trans rfl;have fr2:=bF KR2.out 2;have xr3 : w2.cell? ⟨w.heap.size,3,none⟩ = some (.int .i64 0):=(bC KR2.out 3).trans rfl;have fr3:=bF KR2.out 3;have xr4 : w2.cell? ⟨w.heap.size,4,none⟩ = some (.int .i64 0):=(bC KR2.out 4).trans rfl;have fr4:=bF KR2.out 4;have xr5 : w2.cell? ⟨w.heap.size,5,none⟩ = some (.int .i64 0):=(bC KR2.out 5).trans rfl;have fr5:=bF KR2.out 5;have xr6 : w2.cell? ⟨w.heap.size,6,none⟩ = some (.int .i64 0):=(bC KR2.out 6).trans rfl;have fr6:=bF KR2.out 6;have xr7 : w2.cell? ⟨w.heap.size,7,none⟩ = some (.int .i64 0):=(bC KR2.out 7).trans rfl;have fr7:=bF KR2.out 7;have xr8 : w2.cell? ⟨w.heap.size,8,none⟩ = some (.int .i64 0):=(bC KR2.out 8).trans rfl;have fr8:=bF KR2.out 8;have xr9 : w2.cell? ⟨w.heap.size,9,none⟩ = some (.slice none 0 0):=(bC KR2.out 9).trans rfl;have fr9:=bF KR2.out 9;have xr10 : w2.cell? ⟨w.heap.size,10,none⟩ = some (.slice none 0 0):=(bC KR2.out 10).trans rfl;have fr10:=bF KR2.out 10;have xr11 : w2.cell? ⟨w.heap.size,11,none⟩ = some (.slice none 0 0):=(bC KR2.out 11).trans rfl;have fr11:=bF KR2.out 11;clear hb)|(go_at_call 37;(with_reducible refine (conf_later.calls k (w.heap.size + 1) c.f0 c.f1 c.f2 c.f3 c.f4 c.f5 c.f6 c.f7 c.f8 v9 v10 v11 L9 L10 L11 line kk M9 M10 M11 w1 _ ?s1 ?s2 ?s3 ?s4 ?s5 ?s6 ?s7 F1.out).mono ?_);(case s1=>exact G2.out);(case s2=>exact B2.out);(case s3=>exact LB.out);(case s4=>exact KC2.out);(case s5=>exact S2.out);(case s6=>exact T2.out);(case s7=>exact U2.out);rintro e_ w3 ⟨rfl,u9,u10,u11,q1,q2,q3,q4,q5⟩;have KR3:=Am ((q5.block _ LT.out).trans Z1.out);have KC3:=Am q1;have S3:=Am q2;have T3:=Am q3;have U3:=Am q4;have B3:=Am q5;have G3:=Am (Glob.below GW.out q5);have xr0 : w3.cell? ⟨w.heap.size,0,none⟩ = some (.int .i64 0):=(bC KR3.out 0).trans rfl;have fr0:=bF KR3.out 0;have xr1 : w3.cell? ⟨w.heap.size,1,none⟩ = some (.int .i64 0):=(bC KR3.out 1).trans rfl;have fr1:=bF KR3.out 1;have xr2 : w3.cell? ⟨w.heap.size,2,none⟩ = some (.int .i64 0):=(bC KR3.out 2).trans rfl;have fr2:=bF KR3.out 2;have xr3 : w3.cell? ⟨w.heap.size,3,none⟩ = some (.int .i64 0):=(bC KR3.out 3).trans rfl;have fr3:=bF KR3.out 3;have xr4 : w3.cell? ⟨w.heap.size,4,none⟩ = some (.int .i64 0):=(bC KR3.out 4).trans rfl;have fr4:=bF KR3.out 4;have xr5 : w3.cell? ⟨w.heap.size,5,none⟩ = some (.int .i64 0):=(bC KR3.out 5).trans rfl;have fr5:=bF KR3.out 5;have xr6 : w3.cell? ⟨w.heap.size,6,none⟩ = some (.int .i64 0):=(bC KR3.out 6).trans rfl;have fr6:=bF KR3.out 6;have xr7 : w3.cell? ⟨w.heap.size,7,none⟩ = some (.int .i64 0):=(bC KR3.out 7).trans rfl;have fr7:=bF KR3.out 7;have xr8 : w3.cell? ⟨w.heap.size,8,none⟩ = some (.int .i64 0):=(bC KR3.out 8).trans rfl;have fr8:=bF KR3.out 8;have xr9 : w3.cell? ⟨w.heap.size,9,none⟩ = some (.slice none 0 0):=(bC KR3.out 9).trans rfl;have fr9:=bF KR3.out 9;have xr10 : w3.cell? ⟨w.heap.size,10,none⟩ = some (.slice none 0 0):=(bC KR3.out 10).trans rfl;have fr10:=bF KR3.out 10;have xr11 : w3.cell? ⟨w.heap.size,11,none⟩ = some (.slice none 0 0):=(bC KR3.out 11).trans rfl;have fr11:=bF KR3.out 11;clear q1 q2 q3 q4 q5))
    try rw [Exit.noGoto_ret]
    refine bodyPost_ret (results_ctt rfl _ _ w.heap.size 28 #[.int .i64 0,.int .i64 0,.int .i64 0,.int .i64 0,.int .i64 0,.int .i64 0,.int .i64 0,.int .i64 0,.int .i64 0,.slice none 0 0,.slice none 0 0,.slice none 0 0] (0,0) _ rfl (put12 KR3.out (.int .i64 0) (.int .i64 0) (.int .i64 0) (.int .i64 0) (.int .i64 0) (.int .i64 0) (.int .i64 0) (.int .i64 0) (.int .i64 0) (.slice none 0 0) (.slice none 0 0) (.slice none 0 0) ) Tryd.underlying28 rfl (by kernel_rfl)) rfl ?_
    exact ⟨_,_,_,rfl,Kd.R_nil _ _ _ _ _,Kd.R_nil _ _ _ _ _,Kd.R_nil _ _ _ _ _,below12 (UP.out _ B3.out) (Nat.le_refl _) (.int .i64 0) (.int .i64 0) (.int .i64 0) (.int .i64 0) (.int .i64 0) (.int .i64 0) (.int .i64 0) (.int .i64 0) (.int .i64 0) (.slice none 0 0) (.slice none 0 0) (.slice none 0 0) ⟩
   have q3 : decide (0 < kk) = false:=decide_eq_false (fun z=>hq ⟨hk1,z⟩)
   subst hk1
   have q1 : (kk == kk) = true:=beq_self_eq_true _
   clear hq hq2 hkk
   go_wp2_with (first|(go_at_call 35;(with_reducible refine (strings_Cut.calls text _ line rest true _ ?s1 C1.out).mono ?_);(case s1=>exact G.out);rintro e_ w2 ⟨rfl,hb⟩;have B2:=Am (below_then B.out hb (bZ B.out));have G2:=Am (Glob.below G.out hb);have KR2:=Am ((hb.block w.heap.size (blk_lt KR.out)).trans KR.out);have KC2:=Am ((hb.block (w.heap.size + 1) (blk_lt KC.out)).trans KC.out);have S2:=Am (Kd.R_below S.out hb);have T2:=Am (Kd.R_below T.out hb);have U2:=Am (Kd.R_below U.out hb);have xr0 : w2.cell? ⟨w.heap.size,0,none⟩ = some (.int .i64 0):=(bC KR2.out 0).trans rfl;have fr0:=bF KR2.out 0;have xr1 : w2.cell? ⟨w.heap.size,1,none⟩ = some (.int .i64 0):=(bC KR2.out 1).trans rfl;have fr1:=bF KR2.out 1;have xr2 : w2.cell? ⟨w.heap.size,2,none⟩ = some (.int .i64 0):=(bC KR2.out 2).trans rfl;have fr2:=bF KR2.out 2;have xr3 : w2.cell? ⟨w.heap.size,3,none⟩ = some (.int .i64 0):=(bC KR2.out 3).trans rfl;have fr3:=bF KR2.out 3;have xr4 : w2.cell? ⟨w.heap.size,4,none⟩ = some (.int .i64 0):=(bC KR2.out 4).trans rfl;have fr4:=bF KR2.out 4;have xr5 : w2.cell? ⟨w.heap.size,5,none⟩ = some (.int .i64 0):=(bC KR2.out 5).trans rfl;have fr5:=bF KR2.out 5;have xr6 : w2.cell? ⟨w.heap.size,6,none⟩ = some (.int .i64 0):=(bC KR2.out 6).trans rfl;have fr6:=bF KR2.out 6;have xr7 : w2.cell? ⟨w.heap.size,7,none⟩ = some (.int .i64 0):=(bC KR2.out 7).trans rfl;have fr7:=bF KR2.out 7;have xr8 : w2.cell? ⟨w.heap.size,8,none⟩ = some (.int .i64 0):=(bC KR2.out 8).trans rfl;have fr8:=bF KR2.out 8;have xr9 : w2.cell? ⟨w.heap.size,9,none⟩ = some (.slice none 0 0):=(bC KR2.out 9).trans rfl;have fr9:=bF KR2.out 9;have xr10 : w2.cell? ⟨w.heap.size,10,none⟩ = some (.slice none 0 0):=(bC KR2.out 10).trans rfl;have fr10:=bF KR2.out 10;have xr11 : w2.cell? ⟨w.heap.size,11,none⟩ = some (.slice none 0 0):=(bC KR2.out 11).trans rfl;have fr11:=bF KR2.out 11;clear hb)|(go_at_call 37;(with_reducible refine (conf_later.calls k (w.heap.size + 1) c.f0 c.f1 c.f2 c.f3 c.f4 c.f5 c.f6 c.f7 c.f8 v9 v10 v11 L9 L10 L11 line kk M9 M10 M11 w1 _ ?s1 ?s2 ?s3 ?s4 ?s5 ?s6 ?s7 F1.out).mono ?_);(case s1=>exact G2.out);(case s2=>exact B2.out);(case s3=>exact LB.out);(case s4=>exact KC2.out);(case s5=>exact S2.out);(case s6=>exact T2.out);(case s7=>exact U2.out);rintro e_ w3 ⟨rfl,u9,u10,u11,q1,q2,q3,q4,q5⟩;have KR3:=Am ((q5.block _ LT.out).trans Z1.out);have KC3:=Am q1;have S3:=Am q2;have T3:=Am q3;have U3:=Am q4;have B3:=Am q5;have G3:=Am (Glob.below GW.out q5);have xr0 : w3.cell? ⟨w.heap.size,0,none⟩ = some (.int .i64 0):=(bC KR3.out 0).trans rfl;have fr0:=bF KR3.out 0;have xr1 : w3.cell? ⟨w.heap.size,1,none⟩ = some (.int .i64 0):=(bC KR3.out 1).trans rfl;have fr1:=bF KR3.out 1;have xr2 : w3.cell? ⟨w.heap.size,2,none⟩ = some (.int .i64 0):=(bC KR3.out 2).trans rfl;have fr2:=bF KR3.out 2;have xr3 : w3.cell? ⟨w.heap.size,3,none⟩ = some (.int .i64 0):=(bC KR3.out 3).trans rfl;have fr3:=bF KR3.out 3;have xr4 : w3.cell? ⟨w.heap.size,4,none⟩ = some (.int .i64 0):=(bC KR3.out 4).trans rfl;have fr4:=bF KR3.out 4;have xr5 : w3.cell? ⟨w.heap.size,5,none⟩ = some (.int .i64 0):=(bC KR3.out 5).trans rfl;have fr5:=bF KR3.out 5;have xr6 : w3.cell? ⟨w.heap.size,6,none⟩ = some (.int .i64 0):=(bC KR3.out 6).trans rfl;have fr6:=bF KR3.out 6;have xr7 : w3.cell? ⟨w.heap.size,7,none⟩ = some (.int .i64 0):=(bC KR3.out 7).trans rfl;have fr7:=bF KR3.out 7;have xr8 : w3.cell? ⟨w.heap.size,8,none⟩ = some (.int .i64 0):=(bC KR3.out 8).trans rfl;have fr8:=bF KR3.out 8;have xr9 : w3.cell? ⟨w.heap.size,9,none⟩ = some (.slice none 0 0):=(bC KR3.out 9).trans rfl;have fr9:=bF KR3.out 9;have xr10 : w3.cell? ⟨w.heap.size,10,none⟩ = some (.slice none 0 0):=(bC KR3.out 10).trans rfl;have fr10:=bF KR3.out 10;have xr11 : w3.cell? ⟨w.heap.size,11,none⟩ = some (.slice none 0 0):=(bC KR3.out 11).trans rfl;have fr11:=bF KR3.out 11;clear q1 q2 q3 q4 q5))
   try rw [Exit.noGoto_ret]
   refine bodyPost_ret (results_ctt rfl _ _ w.heap.size 28 #[.int .i64 0,.int .i64 0,.int .i64 0,.int .i64 0,.int .i64 0,.int .i64 0,.int .i64 0,.int .i64 0,.int .i64 0,.slice none 0 0,.slice none 0 0,.slice none 0 0] (0,0) _ rfl (put12 KR3.out (.int .i64 0) (.int .i64 0) (.int .i64 0) (.int .i64 0) (.int .i64 0) (.int .i64 0) (.int .i64 0) (.int .i64 0) (.int .i64 0) (.slice none 0 0) (.slice none 0 0) (.slice none 0 0) ) Tryd.underlying28 rfl (by kernel_rfl)) rfl ?_
   exact ⟨_,_,_,rfl,Kd.R_nil _ _ _ _ _,Kd.R_nil _ _ _ _ _,Kd.R_nil _ _ _ _ _,below12 (UP.out _ B3.out) (Nat.le_refl _) (.int .i64 0) (.int .i64 0) (.int .i64 0) (.int .i64 0) (.int .i64 0) (.int .i64 0) (.int .i64 0) (.int .i64 0) (.int .i64 0) (.slice none 0 0) (.slice none 0 0) (.slice none 0 0) ⟩
def smallB : ByteArray:=⟨#[112,111,108,105,99,121,32,101,97,115,121,10,104,97,108,102,32,51,54,48,48,10,113,117,97,110,116,117,109,32,49,48,10,114,101,113,117,101,117,101,115,32,50,10,119,101,105,103,104,116,115,32,49,32,50,32,51,32,52,32,53,10,112,97,114,116,105,116,105,111,110,32,109,97,105,110,32,111,114,100,101,114,32,53,32,112,114,105,111,114,105,116,121,32,49,32,108,105,109,105,116,32,56,54,52,48,48,10,113,111,115,32,110,111,114,109,97,108,32,112,114,105,111,114,105,116,121,32,48,32,109,111,115,116,32,49,48,48,10,97,99,99,111,117,110,116,32,114,111,111,116,32,115,104,97,114,101,115,32,49,10]⟩
def gangerlaw10_small.f : Option ByteArray:=some smallB
theorem gangerlaw10_small.calls (r : ByteArray) (w : World) (h : gangerlaw10_small.f = some r) :
  Calls Tryd.prog 23 #[] w fun e w'=>e = .returned (.string r)∧Below w.heap.size w w':=by
 obtain rfl:=Option.some.inj h
 clear h
 unfold smallB
 go_enter Tryd.func23,Tryd.ntmps23
 go_wp2
 go_ret
 exact ⟨rfl,by repeat (first|exact Below.refl _ _|apply pN)⟩
def gangerlaw10_known.f (k : Nat)  : Option (Bool):=(gangerlaw10_small.f).bind fun t229=>((conf_Parse.f k t229).bind fun bt230=>((conf_Print.f k bt230.1 bt230.2.1 bt230.2.2.1 bt230.2.2.2.1 bt230.2.2.2.2.1 bt230.2.2.2.2.2.1 bt230.2.2.2.2.2.2.1 bt230.2.2.2.2.2.2.2.1 bt230.2.2.2.2.2.2.2.2.1 bt230.2.2.2.2.2.2.2.2.2.1 bt230.2.2.2.2.2.2.2.2.2.2.1 bt230.2.2.2.2.2.2.2.2.2.2.2.1).bind fun bt251=>((conf_Parse.f k (⟨#[112,111,108,105,99,121,32,101,97,115,121,10,104,97,108,102,32,120,10]⟩ : ByteArray)).bind fun bt253=>(if bt230.2.2.2.2.2.2.2.2.2.2.2.2.1 = 0 then (if bt230.2.2.2.2.2.2.2.2.2.2.2.2.2 = 0 then (if bt230.1 = 2 then (if bt230.2.1 = 3600 then (if (bt230.2.2.2.2.2.2.2.2.2.1.length : Int) = 1 then (if 0 < (bt230.2.2.2.2.2.2.2.2.2.1.length : Int) then (if ((((rd_T50 bt230.2.2.2.2.2.2.2.2.2.1 0).f0).toList) == ([109,97,105,110] : List UInt8) && (((rd_T50 bt230.2.2.2.2.2.2.2.2.2.1 0).f1) == 5 && (((rd_T50 bt230.2.2.2.2.2.2.2.2.2.1 0).f2) == 1 && (((rd_T50 bt230.2.2.2.2.2.2.2.2.2.1 0).f3) == 86400)))) = true then ((gangerlaw10_small.f).bind fun t275=>(if bt251.1.toList = t275.toList then (if bt251.2 = 0 then (if bt253.2.2.2.2.2.2.2.2.2.2.2.2.1 = 2 then (if bt253.2.2.2.2.2.2.2.2.2.2.2.2.2 = 60 then ((conf_Check.f k 0 0 0 0 0 0 0 0 0 ([] : List (S50)) ([] : List (S52)) ([] : List (S48))).bind fun t276=>(some (t276 == 100))) else (none)) else (none)) else (none)) else (none))) else (none)) else (none)) else (none)) else (none)) else (none)) else (none)) else (none)))))
theorem gangerlaw10_known.mono : ∀ k,LeO (gangerlaw10_known.f k ) (gangerlaw10_known.f (k + 1) ):=by
 intro  k
 unfold gangerlaw10_known.f
 repeat' first
   | (with_reducible exact conf_Check.mono _ _ _ _ _ _ _ _ _ _ _ _ _)
   | (with_reducible exact conf_Parse.mono _ _)
   | (with_reducible exact conf_Print.mono _ _ _ _ _ _ _ _ _ _ _ _ _)
   | (with_reducible exact LeO.refl _)
   | (with_reducible exact LeO.none _)
   | (with_reducible refine LeO.ite ?_ ?_)
   | (with_reducible refine LeO.bind ?_ (fun _=>?_))
   | exact conf_Check.mono _ _ _ _ _ _ _ _ _ _ _ _ _
   | exact conf_Parse.mono _ _
   | exact conf_Print.mono _ _ _ _ _ _ _ _ _ _ _ _ _
   | exact LeO.none _
   | refine LeO.ite ?_ ?_
   | refine LeO.bind ?_ (fun _=>?_)
set_option maxHeartbeats 8000000 in
set_option maxRecDepth 100000 in
theorem gangerlaw10_known.calls (k : Nat)  (r : Bool) (w : World) (hG : Glob w) (h : gangerlaw10_known.f k  = some r) :
  Calls Tryd.prog 10 #[] w fun e w'=>e = .returned (.bool r)∧Below w.heap.size w w':=by
 have hu28:=Tryd.underlying28
 have hu50:=Tryd.underlying50
 have HG:=Am hG
 clear hG
 have HB:=Am (Below.refl w.heap.size w)
 have H : ((gangerlaw10_small.f).bind fun t229=>((conf_Parse.f k t229).bind fun bt230=>((conf_Print.f k bt230.1 bt230.2.1 bt230.2.2.1 bt230.2.2.2.1 bt230.2.2.2.2.1 bt230.2.2.2.2.2.1 bt230.2.2.2.2.2.2.1 bt230.2.2.2.2.2.2.2.1 bt230.2.2.2.2.2.2.2.2.1 bt230.2.2.2.2.2.2.2.2.2.1 bt230.2.2.2.2.2.2.2.2.2.2.1 bt230.2.2.2.2.2.2.2.2.2.2.2.1).bind fun bt251=>((conf_Parse.f k (⟨#[112,111,108,105,99,121,32,101,97,115,121,10,104,97,108,102,32,120,10]⟩ : ByteArray)).bind fun bt253=>(if bt230.2.2.2.2.2.2.2.2.2.2.2.2.1 = 0 then (if bt230.2.2.2.2.2.2.2.2.2.2.2.2.2 = 0 then (if bt230.1 = 2 then (if bt230.2.1 = 3600 then (if (bt230.2.2.2.2.2.2.2.2.2.1.length : Int) = 1 then (if 0 < (bt230.2.2.2.2.2.2.2.2.2.1.length : Int) then (if ((((rd_T50 bt230.2.2.2.2.2.2.2.2.2.1 0).f0).toList) == ([109,97,105,110] : List UInt8) && (((rd_T50 bt230.2.2.2.2.2.2.2.2.2.1 0).f1) == 5 && (((rd_T50 bt230.2.2.2.2.2.2.2.2.2.1 0).f2) == 1 && (((rd_T50 bt230.2.2.2.2.2.2.2.2.2.1 0).f3) == 86400)))) = true then ((gangerlaw10_small.f).bind fun t275=>(if bt251.1.toList = t275.toList then (if bt251.2 = 0 then (if bt253.2.2.2.2.2.2.2.2.2.2.2.2.1 = 2 then (if bt253.2.2.2.2.2.2.2.2.2.2.2.2.2 = 60 then ((conf_Check.f k 0 0 0 0 0 0 0 0 0 ([] : List (S50)) ([] : List (S52)) ([] : List (S48))).bind fun t276=>(some (t276 == 100))) else (none)) else (none)) else (none)) else (none))) else (none)) else (none)) else (none)) else (none)) else (none)) else (none)) else (none)))))) = some r:=h
 clear h
 replace H:=oB H
 obtain ⟨t229,A10,H⟩:=H
 try dsimp only at H
 have A1:=Am A10
 clear A10
 replace H:=oB H
 obtain ⟨⟨t230,t231,t232,t233,t234,t235,t236,t237,t238,t239,t242,t245,t248,t249⟩,A20,H⟩:=H
 replace H : ((conf_Print.f k t230 t231 t232 t233 t234 t235 t236 t237 t238 t239 t242 t245).bind fun bt251=>((conf_Parse.f k (⟨#[112,111,108,105,99,121,32,101,97,115,121,10,104,97,108,102,32,120,10]⟩ : ByteArray)).bind fun bt253=>(if t248 = 0 then (if t249 = 0 then (if t230 = 2 then (if t231 = 3600 then (if (t239.length : Int) = 1 then (if 0 < (t239.length : Int) then (if ((((rd_T50 t239 0).f0).toList) == ([109,97,105,110] : List UInt8) && (((rd_T50 t239 0).f1) == 5 && (((rd_T50 t239 0).f2) == 1 && (((rd_T50 t239 0).f3) == 86400)))) = true then ((gangerlaw10_small.f).bind fun t275=>(if bt251.1.toList = t275.toList then (if bt251.2 = 0 then (if bt253.2.2.2.2.2.2.2.2.2.2.2.2.1 = 2 then (if bt253.2.2.2.2.2.2.2.2.2.2.2.2.2 = 60 then ((conf_Check.f k 0 0 0 0 0 0 0 0 0 ([] : List (S50)) ([] : List (S52)) ([] : List (S48))).bind fun t276=>(some (t276 == 100))) else (none)) else (none)) else (none)) else (none))) else (none)) else (none)) else (none)) else (none)) else (none)) else (none)) else (none)))) = some r:=H
 have A2:=Am A20
 clear A20
 replace H:=oB H
 obtain ⟨⟨t251,t252⟩,A30,H⟩:=H
 replace H : ((conf_Parse.f k (⟨#[112,111,108,105,99,121,32,101,97,115,121,10,104,97,108,102,32,120,10]⟩ : ByteArray)).bind fun bt253=>(if t248 = 0 then (if t249 = 0 then (if t230 = 2 then (if t231 = 3600 then (if (t239.length : Int) = 1 then (if 0 < (t239.length : Int) then (if ((((rd_T50 t239 0).f0).toList) == ([109,97,105,110] : List UInt8) && (((rd_T50 t239 0).f1) == 5 && (((rd_T50 t239 0).f2) == 1 && (((rd_T50 t239 0).f3) == 86400)))) = true then ((gangerlaw10_small.f).bind fun t275=>(if t251.toList = t275.toList then (if t252 = 0 then (if bt253.2.2.2.2.2.2.2.2.2.2.2.2.1 = 2 then (if bt253.2.2.2.2.2.2.2.2.2.2.2.2.2 = 60 then ((conf_Check.f k 0 0 0 0 0 0 0 0 0 ([] : List (S50)) ([] : List (S52)) ([] : List (S48))).bind fun t276=>(some (t276 == 100))) else (none)) else (none)) else (none)) else (none))) else (none)) else (none)) else (none)) else (none)) else (none)) else (none)) else (none))) = some r:=H
 have A3:=Am A30
 clear A30
 replace H:=oB H
 obtain ⟨⟨t253,t254,t255,t256,t257,t258,t259,t260,t261,t262,t265,t268,t271,t272⟩,A40,H⟩:=H
 replace H : (if t248 = 0 then (if t249 = 0 then (if t230 = 2 then (if t231 = 3600 then (if (t239.length : Int) = 1 then (if 0 < (t239.length : Int) then (if ((((rd_T50 t239 0).f0).toList) == ([109,97,105,110] : List UInt8) && (((rd_T50 t239 0).f1) == 5 && (((rd_T50 t239 0).f2) == 1 && (((rd_T50 t239 0).f3) == 86400)))) = true then ((gangerlaw10_small.f).bind fun t275=>(if t251.toList = t275.toList then (if t252 = 0 then (if t271 = 2 then (if t272 = 60 then ((conf_Check.f k 0 0 0 0 0 0 0 0 0 ([] : List (S50)) ([] : List (S52)) ([] : List (S48))).bind fun t276=>(some (t276 == 100))) else (none)) else (none)) else (none)) else (none))) else (none)) else (none)) else (none)) else (none)) else (none)) else (none)) else (none)) = some r:=H
 have A4:=Am A40
 clear A40
 by_cases c5 : t248 = 0
 rotate_left
 ·rw [if_neg c5] at H
  exact absurd H (by simp)
 rw [if_pos c5] at H
 have c5b0 : (t248 == 0) = true:=beq_iff_eq.mpr c5
 have c5b1 : (t248 != 0) = false:=bne_eq_false_iff_eq.mpr c5
 clear c5
 by_cases c6 : t249 = 0
 rotate_left
 ·rw [if_neg c6] at H
  exact absurd H (by simp)
 rw [if_pos c6] at H
 have c6b0 : (t249 == 0) = true:=beq_iff_eq.mpr c6
 have c6b1 : (t249 != 0) = false:=bne_eq_false_iff_eq.mpr c6
 clear c6
 by_cases c7 : t230 = 2
 rotate_left
 ·rw [if_neg c7] at H
  exact absurd H (by simp)
 rw [if_pos c7] at H
 have c7b0 : (t230 == 2) = true:=beq_iff_eq.mpr c7
 have c7b1 : (t230 != 2) = false:=bne_eq_false_iff_eq.mpr c7
 clear c7
 by_cases c8 : t231 = 3600
 rotate_left
 ·rw [if_neg c8] at H
  exact absurd H (by simp)
 rw [if_pos c8] at H
 have c8b0 : (t231 == 3600) = true:=beq_iff_eq.mpr c8
 have c8b1 : (t231 != 3600) = false:=bne_eq_false_iff_eq.mpr c8
 clear c8
 by_cases c9 : (t239.length : Int) = 1
 rotate_left
 ·rw [if_neg c9] at H
  exact absurd H (by simp)
 rw [if_pos c9] at H
 have c9b0 : ((t239.length : Int) == 1) = true:=beq_iff_eq.mpr c9
 have c9b1 : ((t239.length : Int) != 1) = false:=bne_eq_false_iff_eq.mpr c9
 clear c9
 by_cases c10 : 0 < (t239.length : Int)
 rotate_left
 ·rw [if_neg c10] at H
  exact absurd H (by simp)
 rw [if_pos c10] at H
 have c10b0 : decide (0 < (t239.length : Int)) = true:=decide_eq_true c10
 have c10b1 : decide (0 < t239.length) = true:=decide_eq_true (by omega)
 clear c10
 by_cases c11 : ((((rd_T50 t239 0).f0).toList) == ([109,97,105,110] : List UInt8) && (((rd_T50 t239 0).f1) == 5 && (((rd_T50 t239 0).f2) == 1 && (((rd_T50 t239 0).f3) == 86400)))) = true
 rotate_left
 ·rw [if_neg c11] at H
  exact absurd H (by simp)
 rw [if_pos c11] at H
 have c11b0 : ((((rd_T50 t239 0).f0).toList) == ([109,97,105,110] : List UInt8) && (((rd_T50 t239 0).f1) == 5 && (((rd_T50 t239 0).f2) == 1 && (((rd_T50 t239 0).f3) == 86400)))) = true:=c11
 (try (have c11b1 : decide ((((rd_T50 t239 0).f0).toList) = ([109,97,105,110] : List UInt8) && (((rd_T50 t239 0).f1) == 5 && (((rd_T50 t239 0).f2) == 1 && (((rd_T50 t239 0).f3) == 86400)))) = true:=by simpa using c11))
 (try (have c11b2 : ((((rd_T50 t239 0).f0).toList) == ([109,97,105,110] : List UInt8) && (((rd_T50 t239 0).f1) == 5 && (((rd_T50 t239 0).f2) == 1 && (((rd_T50 t239 0).f3) == 86400)))) = true:=by simpa using c11))
 clear c11
 replace H:=oB H
 obtain ⟨t275,A120,H⟩:=H
 try dsimp only at H
 have A12:=Am A120
 clear A120
 by_cases c13 : t251.toList = t275.toList
 rotate_left
 ·rw [if_neg c13] at H
  exact absurd H (by simp)
 rw [if_pos c13] at H
 have c13b0 : (t251.toList == t275.toList) = true:=beq_iff_eq.mpr c13
 have c13b1 : (t251.toList != t275.toList) = false:=bne_eq_false_iff_eq.mpr c13
 clear c13
 by_cases c14 : t252 = 0
 rotate_left
 ·rw [if_neg c14] at H
  exact absurd H (by simp)
 rw [if_pos c14] at H
 have c14b0 : (t252 == 0) = true:=beq_iff_eq.mpr c14
 have c14b1 : (t252 != 0) = false:=bne_eq_false_iff_eq.mpr c14
 clear c14
 by_cases c15 : t271 = 2
 rotate_left
 ·rw [if_neg c15] at H
  exact absurd H (by simp)
 rw [if_pos c15] at H
 have c15b0 : (t271 == 2) = true:=beq_iff_eq.mpr c15
 have c15b1 : (t271 != 2) = false:=bne_eq_false_iff_eq.mpr c15
 clear c15
 by_cases c16 : t272 = 60
 rotate_left
 ·rw [if_neg c16] at H
  exact absurd H (by simp)
 rw [if_pos c16] at H
 have c16b0 : (t272 == 60) = true:=beq_iff_eq.mpr c16
 have c16b1 : (t272 != 60) = false:=bne_eq_false_iff_eq.mpr c16
 clear c16
 replace H:=oB H
 obtain ⟨t276,A170,H⟩:=H
 try dsimp only at H
 have A17:=Am A170
 clear A170
 obtain rfl:=Option.some.inj H
 go_enter Tryd.func10,Tryd.ntmps10
 go_wp2_with (first|((with_reducible refine gC (f:=23) rfl ?_);refine goesL_ (some 10) rfl rfl Tryd.func23 (by kernel_rfl) rfl #[] rfl (by (try simp only [mT,mC,mN]);first|done|rfl|(simp only [lD,lT];rfl)) ?_;(with_reducible refine (gangerlaw10_small.calls  t229 _ A1.out).mono ?_);rintro e w18 ⟨rfl,hb⟩;refine ⟨_,rfl,?_⟩;have n0_:=Am (below_step (by repeat (first|(with_reducible first|exact HB.out|apply bL|apply pN|apply bE)|exact HB.out)) hb);clear HB;have HB:=n0_;clear n0_)|((with_reducible refine gC (f:=17) rfl ?_);refine goesL_ (some 11) rfl rfl Tryd.func17 (by kernel_rfl) rfl #[.string t229] rfl (by (try simp only [mT,mC,mN]);first|done|rfl|(simp only [lD,lT];rfl)) ?_;(with_reducible refine (conf_Parse.calls k t229 t230 t231 t232 t233 t234 t235 t236 t237 t238 t239 t242 t245 t248 t249 _ ?side1 A2.out).mono ?_);(case side1=>exact Glob.below HG.out (by repeat (first|(with_reducible first|exact HB.out|apply bL|apply pN|apply bE)|exact HB.out)));rintro e w19 ⟨v240,v243,v246,rfl,ho0,ho1,ho2,hb⟩;refine ⟨_,rfl,?_⟩;have n0_:=Am (Kd.R_lower ho0 (bZ (by repeat (first|(with_reducible first|exact HB.out|apply bL|apply pN|apply bE)|exact HB.out))));have n1_:=Am (Kd.R_lower ho1 (bZ (by repeat (first|(with_reducible first|exact HB.out|apply bL|apply pN|apply bE)|exact HB.out))));have n2_:=Am (Kd.R_lower ho2 (bZ (by repeat (first|(with_reducible first|exact HB.out|apply bL|apply pN|apply bE)|exact HB.out))));have n3_:=Am (below_step (by repeat (first|(with_reducible first|exact HB.out|apply bL|apply pN|apply bE)|exact HB.out)) hb);clear HB;have HO241:=n0_;have HO244:=n1_;have HO247:=n2_;have HB:=n3_;clear n0_ n1_ n2_ n3_)|((with_reducible refine gD (N:=1) rfl ?_);(try (refine gate_guard (by rfl) ?_;dsimp only));refine box_event ?hg (N:=1) ?hd (cs:=#[.int .i64 0,.int .i64 0,.int .i64 0,.int .i64 0,.int .i64 0,.int .i64 0,.int .i64 0,.int .i64 0,.int .i64 0,.slice none 0 0,.slice none 0 0,.slice none 0 0]) (t:=28) ?hr ?_;(case hd=>rfl);(case hg=>rfl);(case hr=>first|(go_simp;done)|(go_simp;rfl));intro gb250 hg w20 hbox hb;have n0_:=Am (Kd.R_below (by (with_reducible repeat (first|apply Kd.R_alloc|apply Kd.R_drewN|apply Kd.R_drew));exact HO241.out) hb);have n1_:=Am (Kd.R_below (by (with_reducible repeat (first|apply Kd.R_alloc|apply Kd.R_drewN|apply Kd.R_drew));exact HO244.out) hb);have n2_:=Am (Kd.R_below (by (with_reducible repeat (first|apply Kd.R_alloc|apply Kd.R_drewN|apply Kd.R_drew));exact HO247.out) hb);have n3_:=Am (below_step (by repeat (first|(with_reducible first|exact HB.out|apply bL|apply pN|apply bE)|exact HB.out)) hb);have n4_:=Am (hbox);have n5_:=Am ((by rw [hg];exact (bZ (by repeat (first|(with_reducible first|exact HB.out|apply bL|apply pN|apply bE)|exact HB.out))) : w.heap.size≤gb250));have n6_:=n5_;clear HO241;clear HO244;clear HO247;clear HB;have HO241:=n0_;have HO244:=n1_;have HO247:=n2_;have HB:=n3_;have BK250:=n4_;have GW250:=n5_;have GE250:=n6_;clear n0_ n1_ n2_ n3_ n4_ n5_ n6_;clear hb hbox hg;obtain ⟨X21_0,X21_1,X21_2,X21_3,X21_4,X21_5,X21_6,X21_7,X21_8,X21_9,X21_10,X21_11,Y21_0,Y21_1,Y21_2,Y21_3,Y21_4,Y21_5,Y21_6,Y21_7,Y21_8,Y21_9,Y21_10,Y21_11⟩:=kc12 (w:=w20) (g:=gb250) BK250.out;obtain ⟨Ao22,co22,eo22⟩:=Kd.R_slice HO241.out;subst eo22;obtain ⟨Ao23,co23,eo23⟩:=Kd.R_slice HO244.out;subst eo23;obtain ⟨Ao24,co24,eo24⟩:=Kd.R_slice HO247.out;subst eo24)|((with_reducible refine gC (f:=13) rfl ?_);refine goesL_ (some 17) rfl rfl Tryd.func13 (by kernel_rfl) rfl #[.agg #[.int .i64 t230,.int .i64 t231,.int .i64 t232,.int .i64 t233,.int .i64 t234,.int .i64 t235,.int .i64 t236,.int .i64 t237,.int .i64 t238,.slice Ao22 t239.length co22,.slice Ao23 t242.length co23,.slice Ao24 t245.length co24]] rfl (by (try simp only [mT,mC,mN]);first|done|rfl|(simp only [lD,lT];rfl)) ?_;(with_reducible refine (conf_Print.calls k t230 t231 t232 t233 t234 t235 t236 t237 t238 _ _ t239 _ _ t242 _ _ t245 t251 t252 _ ?side1 ?side2 ?side3 ?side4 ?side5 ?side6 ?side7 A3.out).mono ?_);(case side1=>exact Glob.below HG.out (by repeat (first|(with_reducible first|exact HB.out|apply bL|apply pN|apply bE|refine bS ?_ GE250.out)|exact HB.out)));(case side2=>refine (Kd.R_reads' (e:=50) (base:=w.heap.size) (ok:=fun k_=>True) (n:=t239.length) (c:=co22) ?_).2.2;exact (by (with_reducible repeat (first|apply Kd.R_alloc|apply Kd.R_drewN|apply Kd.R_drew));exact (Kd.R_mono (rf12 (g:=gb250) (Kd.R_types HO241.out BK250.out (by decide)) (fun _ hk=>hk.2)) (fun _ h_=>h_.1))));(case side3=>exact (Kd.R_reads' HO241.out).2.1);(case side4=>refine (Kd.R_reads' (e:=52) (base:=w.heap.size) (ok:=fun k_=>True) (n:=t242.length) (c:=co23) ?_).2.2;exact (by (with_reducible repeat (first|apply Kd.R_alloc|apply Kd.R_drewN|apply Kd.R_drew));exact (Kd.R_mono (rf12 (g:=gb250) (Kd.R_types HO244.out BK250.out (by decide)) (fun _ hk=>hk.2)) (fun _ h_=>h_.1))));(case side5=>exact (Kd.R_reads' HO244.out).2.1);(case side6=>refine (Kd.R_reads' (e:=48) (base:=w.heap.size) (ok:=fun k_=>True) (n:=t245.length) (c:=co24) ?_).2.2;exact (by (with_reducible repeat (first|apply Kd.R_alloc|apply Kd.R_drewN|apply Kd.R_drew));exact (Kd.R_mono (rf12 (g:=gb250) (Kd.R_types HO247.out BK250.out (by decide)) (fun _ hk=>hk.2)) (fun _ h_=>h_.1))));(case side7=>exact (Kd.R_reads' HO247.out).2.1);rintro e w25 ⟨rfl,hb⟩;refine ⟨_,rfl,?_⟩;have n0_:=Am (Kd.R_below (by (with_reducible repeat (first|apply Kd.R_alloc|apply Kd.R_drewN|apply Kd.R_drew));exact (Kd.R_mono (rf12 (g:=gb250) (Kd.R_types HO241.out BK250.out (by decide)) (fun _ hk=>hk.2)) (fun _ h_=>h_.1))) hb);have n1_:=Am (Kd.R_below (by (with_reducible repeat (first|apply Kd.R_alloc|apply Kd.R_drewN|apply Kd.R_drew));exact (Kd.R_mono (rf12 (g:=gb250) (Kd.R_types HO244.out BK250.out (by decide)) (fun _ hk=>hk.2)) (fun _ h_=>h_.1))) hb);have n2_:=Am (Kd.R_below (by (with_reducible repeat (first|apply Kd.R_alloc|apply Kd.R_drewN|apply Kd.R_drew));exact (Kd.R_mono (rf12 (g:=gb250) (Kd.R_types HO247.out BK250.out (by decide)) (fun _ hk=>hk.2)) (fun _ h_=>h_.1))) hb);have n3_:=Am (blk_below (g:=gb250) (o:=.cells #[.int .i64 t230,.int .i64 t231,.int .i64 t232,.int .i64 t233,.int .i64 t234,.int .i64 t235,.int .i64 t236,.int .i64 t237,.int .i64 t238,.slice Ao22 t239.length co22,.slice Ao23 t242.length co23,.slice Ao24 t245.length co24] 28 (0,0)) (by (with_reducible repeat (first|refine bN ?_ _|refine bD ?_|refine bA ?_ _));refine blk_put (cs:=#[.int .i64 t230,.int .i64 t231,.int .i64 t232,.int .i64 t233,.int .i64 t234,.int .i64 t235,.int .i64 t236,.int .i64 t237,.int .i64 t238,.slice Ao22 t239.length co22,.slice Ao23 t242.length co23,.slice none 0 0]) ?_ 11 _ rfl;(with_reducible repeat (first|refine bN ?_ _|refine bD ?_|refine bA ?_ _));refine blk_put (cs:=#[.int .i64 t230,.int .i64 t231,.int .i64 t232,.int .i64 t233,.int .i64 t234,.int .i64 t235,.int .i64 t236,.int .i64 t237,.int .i64 t238,.slice Ao22 t239.length co22,.slice none 0 0,.slice none 0 0]) ?_ 10 _ rfl;(with_reducible repeat (first|refine bN ?_ _|refine bD ?_|refine bA ?_ _));refine blk_put (cs:=#[.int .i64 t230,.int .i64 t231,.int .i64 t232,.int .i64 t233,.int .i64 t234,.int .i64 t235,.int .i64 t236,.int .i64 t237,.int .i64 t238,.slice none 0 0,.slice none 0 0,.slice none 0 0]) ?_ 9 _ rfl;(with_reducible repeat (first|refine bN ?_ _|refine bD ?_|refine bA ?_ _));refine blk_put (cs:=#[.int .i64 t230,.int .i64 t231,.int .i64 t232,.int .i64 t233,.int .i64 t234,.int .i64 t235,.int .i64 t236,.int .i64 t237,.int .i64 0,.slice none 0 0,.slice none 0 0,.slice none 0 0]) ?_ 8 _ rfl;(with_reducible repeat (first|refine bN ?_ _|refine bD ?_|refine bA ?_ _));refine blk_put (cs:=#[.int .i64 t230,.int .i64 t231,.int .i64 t232,.int .i64 t233,.int .i64 t234,.int .i64 t235,.int .i64 t236,.int .i64 0,.int .i64 0,.slice none 0 0,.slice none 0 0,.slice none 0 0]) ?_ 7 _ rfl;(with_reducible repeat (first|refine bN ?_ _|refine bD ?_|refine bA ?_ _));refine blk_put (cs:=#[.int .i64 t230,.int .i64 t231,.int .i64 t232,.int .i64 t233,.int .i64 t234,.int .i64 t235,.int .i64 0,.int .i64 0,.int .i64 0,.slice none 0 0,.slice none 0 0,.slice none 0 0]) ?_ 6 _ rfl;(with_reducible repeat (first|refine bN ?_ _|refine bD ?_|refine bA ?_ _));refine blk_put (cs:=#[.int .i64 t230,.int .i64 t231,.int .i64 t232,.int .i64 t233,.int .i64 t234,.int .i64 0,.int .i64 0,.int .i64 0,.int .i64 0,.slice none 0 0,.slice none 0 0,.slice none 0 0]) ?_ 5 _ rfl;(with_reducible repeat (first|refine bN ?_ _|refine bD ?_|refine bA ?_ _));refine blk_put (cs:=#[.int .i64 t230,.int .i64 t231,.int .i64 t232,.int .i64 t233,.int .i64 0,.int .i64 0,.int .i64 0,.int .i64 0,.int .i64 0,.slice none 0 0,.slice none 0 0,.slice none 0 0]) ?_ 4 _ rfl;(with_reducible repeat (first|refine bN ?_ _|refine bD ?_|refine bA ?_ _));refine blk_put (cs:=#[.int .i64 t230,.int .i64 t231,.int .i64 t232,.int .i64 0,.int .i64 0,.int .i64 0,.int .i64 0,.int .i64 0,.int .i64 0,.slice none 0 0,.slice none 0 0,.slice none 0 0]) ?_ 3 _ rfl;(with_reducible repeat (first|refine bN ?_ _|refine bD ?_|refine bA ?_ _));refine blk_put (cs:=#[.int .i64 t230,.int .i64 t231,.int .i64 0,.int .i64 0,.int .i64 0,.int .i64 0,.int .i64 0,.int .i64 0,.int .i64 0,.slice none 0 0,.slice none 0 0,.slice none 0 0]) ?_ 2 _ rfl;(with_reducible repeat (first|refine bN ?_ _|refine bD ?_|refine bA ?_ _));refine blk_put (cs:=#[.int .i64 t230,.int .i64 0,.int .i64 0,.int .i64 0,.int .i64 0,.int .i64 0,.int .i64 0,.int .i64 0,.int .i64 0,.slice none 0 0,.slice none 0 0,.slice none 0 0]) ?_ 1 _ rfl;(with_reducible repeat (first|refine bN ?_ _|refine bD ?_|refine bA ?_ _));refine blk_put (cs:=#[.int .i64 0,.int .i64 0,.int .i64 0,.int .i64 0,.int .i64 0,.int .i64 0,.int .i64 0,.int .i64 0,.int .i64 0,.slice none 0 0,.slice none 0 0,.slice none 0 0]) ?_ 0 _ rfl;(with_reducible repeat (first|refine bN ?_ _|refine bD ?_|refine bA ?_ _));exact BK250.out) hb);have n4_:=Am (below_step (by repeat (first|(with_reducible first|exact HB.out|apply bL|apply pN|apply bE|refine bS ?_ GE250.out)|exact HB.out)) hb);clear HO241;clear HO244;clear HO247;clear BK250;clear HB;have HO241:=n0_;have HO244:=n1_;have HO247:=n2_;have BK250:=n3_;have HB:=n4_;clear n0_ n1_ n2_ n3_ n4_)|((with_reducible refine gC (f:=17) rfl ?_);refine goesL_ (some 21) rfl rfl Tryd.func17 (by kernel_rfl) rfl #[.string (⟨#[112,111,108,105,99,121,32,101,97,115,121,10,104,97,108,102,32,120,10]⟩ : ByteArray)] rfl (by (try simp only [mT,mC,mN]);first|done|rfl|(simp only [lD,lT];rfl)) ?_;(with_reducible refine (conf_Parse.calls k (⟨#[112,111,108,105,99,121,32,101,97,115,121,10,104,97,108,102,32,120,10]⟩ : ByteArray) t253 t254 t255 t256 t257 t258 t259 t260 t261 t262 t265 t268 t271 t272 _ ?side1 A4.out).mono ?_);(case side1=>exact Glob.below HG.out (by repeat (first|(with_reducible first|exact HB.out|apply bL|apply pN|apply bE|refine bS ?_ GE250.out)|exact HB.out)));rintro e w26 ⟨v263,v266,v269,rfl,ho0,ho1,ho2,hb⟩;refine ⟨_,rfl,?_⟩;have n0_:=Am (Kd.R_elder' (by (with_reducible repeat (first|apply Kd.R_alloc|apply Kd.R_drewN|apply Kd.R_drew));exact HO241.out) (Kd.R_base ho0) hb);have n1_:=Am (Kd.R_elder' (by (with_reducible repeat (first|apply Kd.R_alloc|apply Kd.R_drewN|apply Kd.R_drew));exact HO244.out) (Kd.R_base ho1) hb);have n2_:=Am (Kd.R_elder' (by (with_reducible repeat (first|apply Kd.R_alloc|apply Kd.R_drewN|apply Kd.R_drew));exact HO247.out) (Kd.R_base ho2) hb);have n3_:=Am (Kd.R_lower (Kd.R_new' ho0 (Kd.R_lt (by (with_reducible repeat (first|apply Kd.R_alloc|apply Kd.R_drewN|apply Kd.R_drew));exact HO241.out))) (bZ (by repeat (first|(with_reducible first|exact HB.out|apply bL|apply pN|apply bE|refine bS ?_ GE250.out)|exact HB.out))));have n4_:=Am (Kd.R_lower (Kd.R_new' ho1 (Kd.R_lt (by (with_reducible repeat (first|apply Kd.R_alloc|apply Kd.R_drewN|apply Kd.R_drew));exact HO244.out))) (bZ (by repeat (first|(with_reducible first|exact HB.out|apply bL|apply pN|apply bE|refine bS ?_ GE250.out)|exact HB.out))));have n5_:=Am (Kd.R_lower (Kd.R_new' ho2 (Kd.R_lt (by (with_reducible repeat (first|apply Kd.R_alloc|apply Kd.R_drewN|apply Kd.R_drew));exact HO247.out))) (bZ (by repeat (first|(with_reducible first|exact HB.out|apply bL|apply pN|apply bE|refine bS ?_ GE250.out)|exact HB.out))));have n6_:=Am (blk_below (g:=gb250) (by (with_reducible repeat (first|refine bN ?_ _|refine bD ?_|refine bA ?_ _));exact BK250.out) hb);have n7_:=Am (below_step (by repeat (first|(with_reducible first|exact HB.out|apply bL|apply pN|apply bE|refine bS ?_ GE250.out)|exact HB.out)) hb);clear HO241;clear HO244;clear HO247;clear BK250;clear HB;have HO241:=n0_;have HO244:=n1_;have HO247:=n2_;have HO264:=n3_;have HO267:=n4_;have HO270:=n5_;have BK250:=n6_;have HB:=n7_;clear n0_ n1_ n2_ n3_ n4_ n5_ n6_ n7_)|((with_reducible refine gD (N:=6) rfl ?_);(try (refine gate_guard (by rfl) ?_;dsimp only));refine box_event ?hg (N:=6) ?hd (cs:=#[.int .i64 0,.int .i64 0,.int .i64 0,.int .i64 0,.int .i64 0,.int .i64 0,.int .i64 0,.int .i64 0,.int .i64 0,.slice none 0 0,.slice none 0 0,.slice none 0 0]) (t:=28) ?hr ?_;(case hd=>rfl);(case hg=>rfl);(case hr=>first|(go_simp;done)|(go_simp;rfl));intro gb273 hg w27 hbox hb;have n0_:=Am (Kd.R_below (by (with_reducible repeat (first|apply Kd.R_alloc|apply Kd.R_drewN|apply Kd.R_drew));exact HO241.out) hb);have n1_:=Am (Kd.R_below (by (with_reducible repeat (first|apply Kd.R_alloc|apply Kd.R_drewN|apply Kd.R_drew));exact HO244.out) hb);have n2_:=Am (Kd.R_below (by (with_reducible repeat (first|apply Kd.R_alloc|apply Kd.R_drewN|apply Kd.R_drew));exact HO247.out) hb);have n3_:=Am (Kd.R_below (by (with_reducible repeat (first|apply Kd.R_alloc|apply Kd.R_drewN|apply Kd.R_drew));exact HO264.out) hb);have n4_:=Am (Kd.R_below (by (with_reducible repeat (first|apply Kd.R_alloc|apply Kd.R_drewN|apply Kd.R_drew));exact HO267.out) hb);have n5_:=Am (Kd.R_below (by (with_reducible repeat (first|apply Kd.R_alloc|apply Kd.R_drewN|apply Kd.R_drew));exact HO270.out) hb);have n6_:=Am (blk_below (g:=gb250) (by (with_reducible repeat (first|refine bN ?_ _|refine bD ?_|refine bA ?_ _));exact BK250.out) hb);have n7_:=Am (below_step (by repeat (first|(with_reducible first|exact HB.out|apply bL|apply pN|apply bE|refine bS ?_ GE250.out)|exact HB.out)) hb);have n8_:=Am (hbox);have n9_:=Am ((by rw [hg];exact (bZ (by repeat (first|(with_reducible first|exact HB.out|apply bL|apply pN|apply bE|refine bS ?_ GE250.out)|exact HB.out))) : w.heap.size≤gb273));have n10_:=n9_;have n11_:=Am ((by rw [hg];exact Nat.ne_of_lt (blk_lt (g:=gb250) (by (with_reducible repeat (first|refine bN ?_ _|refine bD ?_|refine bA ?_ _));exact BK250.out)) : gb250 ≠ gb273));have n12_:=Am ((by rw [hg];exact Nat.ne_of_gt (blk_lt (g:=gb250) (by (with_reducible repeat (first|refine bN ?_ _|refine bD ?_|refine bA ?_ _));exact BK250.out)) : gb273 ≠ gb250));clear HO241;clear HO244;clear HO247;clear HO264;clear HO267;clear HO270;clear BK250;clear HB;have HO241:=n0_;have HO244:=n1_;have HO247:=n2_;have HO264:=n3_;have HO267:=n4_;have HO270:=n5_;have BK250:=n6_;have HB:=n7_;have BK273:=n8_;have GW273:=n9_;have GE273:=n10_;have NB250_273:=n11_;have NB273_250:=n12_;clear n0_ n1_ n2_ n3_ n4_ n5_ n6_ n7_ n8_ n9_ n10_ n11_ n12_;clear hb hbox hg;have hnb28:=NB273_250.out;have hnc28:=NB250_273.out;obtain ⟨X29_0,X29_1,X29_2,X29_3,X29_4,X29_5,X29_6,X29_7,X29_8,X29_9,X29_10,X29_11,Y29_0,Y29_1,Y29_2,Y29_3,Y29_4,Y29_5,Y29_6,Y29_7,Y29_8,Y29_9,Y29_10,Y29_11⟩:=kc12 (w:=w27) (g:=gb273) BK273.out;obtain ⟨Ao30,co30,eo30⟩:=Kd.R_slice HO264.out;subst eo30;obtain ⟨Ao31,co31,eo31⟩:=Kd.R_slice HO267.out;subst eo31;obtain ⟨Ao32,co32,eo32⟩:=Kd.R_slice HO270.out;subst eo32;obtain ⟨X33_0,X33_1,X33_2,X33_3,X33_4,X33_5,X33_6,X33_7,X33_8,X33_9,X33_10,X33_11,Y33_0,Y33_1,Y33_2,Y33_3,Y33_4,Y33_5,Y33_6,Y33_7,Y33_8,Y33_9,Y33_10,Y33_11⟩:=kc12 (w:=w27) (g:=gb250) BK250.out;have p274 : 0≤(0 : Int):=(by omega);have q274 : 0 < (t239.length : Int):=of_decide_eq_true (by first|(with_reducible assumption)|assumption);obtain ⟨ad274,e274,hx274_0,hx274_1,hx274_2,hx274_3⟩:=at_T50 (Kd.R_reads' HO241.out).2.2 0 p274 q274;cases e274;have qi274 : (0 < t239.length) = True:=eq_true (by omega);(try rw [show ((0 : Int)).toNat = 0 from rfl] at hx274_0);(try rw [show 0 * 4 = 0 from rfl] at hx274_0);(try rw [Addr.add_zero'] at hx274_0);(try rw [show ((0 : Int)).toNat = 0 from rfl] at hx274_1);(try rw [show 0 * 4 = 0 from rfl] at hx274_1);(try rw [Addr.add_zero'] at hx274_1);(try rw [show ((0 : Int)).toNat = 0 from rfl] at hx274_2);(try rw [show 0 * 4 = 0 from rfl] at hx274_2);(try rw [Addr.add_zero'] at hx274_2);(try rw [show ((0 : Int)).toNat = 0 from rfl] at hx274_3);(try rw [show 0 * 4 = 0 from rfl] at hx274_3);(try rw [Addr.add_zero'] at hx274_3);have hn274_0 : ad274.block ≠ gb273:=Kd.own_blk (Kd.R_ne HO241.out BK273.out (by decide));have hn274_1 : ad274.block ≠ gb273:=Kd.own_blk (Kd.R_ne HO241.out BK273.out (by decide));have hn274_2 : ad274.block ≠ gb273:=Kd.own_blk (Kd.R_ne HO241.out BK273.out (by decide));have hn274_3 : ad274.block ≠ gb273:=Kd.own_blk (Kd.R_ne HO241.out BK273.out (by decide));have hn274_4 : ad274.block ≠ gb273:=Kd.own_blk (Kd.R_ne HO241.out BK273.out (by decide));have hn274_5 : ad274.block ≠ gb273:=Kd.own_blk (Kd.R_ne HO241.out BK273.out (by decide));have hn274_6 : ad274.block ≠ gb273:=Kd.own_blk (Kd.R_ne HO241.out BK273.out (by decide));have hn274_7 : ad274.block ≠ gb273:=Kd.own_blk (Kd.R_ne HO241.out BK273.out (by decide));have hn274_8 : ad274.block ≠ gb273:=Kd.own_blk (Kd.R_ne HO241.out BK273.out (by decide));have hn274_9 : ad274.block ≠ gb273:=Kd.own_blk (Kd.R_ne HO241.out BK273.out (by decide));have hn274_10 : ad274.block ≠ gb273:=Kd.own_blk (Kd.R_ne HO241.out BK273.out (by decide));have hn274_11 : ad274.block ≠ gb273:=Kd.own_blk (Kd.R_ne HO241.out BK273.out (by decide));replace hx274_0:=(cell_far (p:=⟨gb273,0,none⟩) (by first|(rw [add_block];exact hn274_0)|(show (Addr.add _ _).block ≠ _;rw [add_block];exact hn274_0)|exact hn274_0) (.int .i64 t253)).trans hx274_0;replace hx274_1:=(cell_far (p:=⟨gb273,0,none⟩) (by first|(rw [add_block];exact hn274_0)|(show (Addr.add _ _).block ≠ _;rw [add_block];exact hn274_0)|exact hn274_0) (.int .i64 t253)).trans hx274_1;replace hx274_2:=(cell_far (p:=⟨gb273,0,none⟩) (by first|(rw [add_block];exact hn274_0)|(show (Addr.add _ _).block ≠ _;rw [add_block];exact hn274_0)|exact hn274_0) (.int .i64 t253)).trans hx274_2;replace hx274_3:=(cell_far (p:=⟨gb273,0,none⟩) (by first|(rw [add_block];exact hn274_0)|(show (Addr.add _ _).block ≠ _;rw [add_block];exact hn274_0)|exact hn274_0) (.int .i64 t253)).trans hx274_3;replace hx274_0:=(cell_far (p:=⟨gb273,1,none⟩) (by first|(rw [add_block];exact hn274_1)|(show (Addr.add _ _).block ≠ _;rw [add_block];exact hn274_1)|exact hn274_1) (.int .i64 t254)).trans hx274_0;replace hx274_1:=(cell_far (p:=⟨gb273,1,none⟩) (by first|(rw [add_block];exact hn274_1)|(show (Addr.add _ _).block ≠ _;rw [add_block];exact hn274_1)|exact hn274_1) (.int .i64 t254)).trans hx274_1;replace hx274_2:=(cell_far (p:=⟨gb273,1,none⟩) (by first|(rw [add_block];exact hn274_1)|(show (Addr.add _ _).block ≠ _;rw [add_block];exact hn274_1)|exact hn274_1) (.int .i64 t254)).trans hx274_2;replace hx274_3:=(cell_far (p:=⟨gb273,1,none⟩) (by first|(rw [add_block];exact hn274_1)|(show (Addr.add _ _).block ≠ _;rw [add_block];exact hn274_1)|exact hn274_1) (.int .i64 t254)).trans hx274_3;replace hx274_0:=(cell_far (p:=⟨gb273,2,none⟩) (by first|(rw [add_block];exact hn274_2)|(show (Addr.add _ _).block ≠ _;rw [add_block];exact hn274_2)|exact hn274_2) (.int .i64 t255)).trans hx274_0;replace hx274_1:=(cell_far (p:=⟨gb273,2,none⟩) (by first|(rw [add_block];exact hn274_2)|(show (Addr.add _ _).block ≠ _;rw [add_block];exact hn274_2)|exact hn274_2) (.int .i64 t255)).trans hx274_1;replace hx274_2:=(cell_far (p:=⟨gb273,2,none⟩) (by first|(rw [add_block];exact hn274_2)|(show (Addr.add _ _).block ≠ _;rw [add_block];exact hn274_2)|exact hn274_2) (.int .i64 t255)).trans hx274_2;replace hx274_3:=(cell_far (p:=⟨gb273,2,none⟩) (by first|(rw [add_block];exact hn274_2)|(show (Addr.add _ _).block ≠ _;rw [add_block];exact hn274_2)|exact hn274_2) (.int .i64 t255)).trans hx274_3;replace hx274_0:=(cell_far (p:=⟨gb273,3,none⟩) (by first|(rw [add_block];exact hn274_3)|(show (Addr.add _ _).block ≠ _;rw [add_block];exact hn274_3)|exact hn274_3) (.int .i64 t256)).trans hx274_0;replace hx274_1:=(cell_far (p:=⟨gb273,3,none⟩) (by first|(rw [add_block];exact hn274_3)|(show (Addr.add _ _).block ≠ _;rw [add_block];exact hn274_3)|exact hn274_3) (.int .i64 t256)).trans hx274_1;replace hx274_2:=(cell_far (p:=⟨gb273,3,none⟩) (by first|(rw [add_block];exact hn274_3)|(show (Addr.add _ _).block ≠ _;rw [add_block];exact hn274_3)|exact hn274_3) (.int .i64 t256)).trans hx274_2;replace hx274_3:=(cell_far (p:=⟨gb273,3,none⟩) (by first|(rw [add_block];exact hn274_3)|(show (Addr.add _ _).block ≠ _;rw [add_block];exact hn274_3)|exact hn274_3) (.int .i64 t256)).trans hx274_3;replace hx274_0:=(cell_far (p:=⟨gb273,4,none⟩) (by first|(rw [add_block];exact hn274_4)|(show (Addr.add _ _).block ≠ _;rw [add_block];exact hn274_4)|exact hn274_4) (.int .i64 t257)).trans hx274_0;replace hx274_1:=(cell_far (p:=⟨gb273,4,none⟩) (by first|(rw [add_block];exact hn274_4)|(show (Addr.add _ _).block ≠ _;rw [add_block];exact hn274_4)|exact hn274_4) (.int .i64 t257)).trans hx274_1;replace hx274_2:=(cell_far (p:=⟨gb273,4,none⟩) (by first|(rw [add_block];exact hn274_4)|(show (Addr.add _ _).block ≠ _;rw [add_block];exact hn274_4)|exact hn274_4) (.int .i64 t257)).trans hx274_2;replace hx274_3:=(cell_far (p:=⟨gb273,4,none⟩) (by first|(rw [add_block];exact hn274_4)|(show (Addr.add _ _).block ≠ _;rw [add_block];exact hn274_4)|exact hn274_4) (.int .i64 t257)).trans hx274_3;replace hx274_0:=(cell_far (p:=⟨gb273,5,none⟩) (by first|(rw [add_block];exact hn274_5)|(show (Addr.add _ _).block ≠ _;rw [add_block];exact hn274_5)|exact hn274_5) (.int .i64 t258)).trans hx274_0;replace hx274_1:=(cell_far (p:=⟨gb273,5,none⟩) (by first|(rw [add_block];exact hn274_5)|(show (Addr.add _ _).block ≠ _;rw [add_block];exact hn274_5)|exact hn274_5) (.int .i64 t258)).trans hx274_1;replace hx274_2:=(cell_far (p:=⟨gb273,5,none⟩) (by first|(rw [add_block];exact hn274_5)|(show (Addr.add _ _).block ≠ _;rw [add_block];exact hn274_5)|exact hn274_5) (.int .i64 t258)).trans hx274_2;replace hx274_3:=(cell_far (p:=⟨gb273,5,none⟩) (by first|(rw [add_block];exact hn274_5)|(show (Addr.add _ _).block ≠ _;rw [add_block];exact hn274_5)|exact hn274_5) (.int .i64 t258)).trans hx274_3;replace hx274_0:=(cell_far (p:=⟨gb273,6,none⟩) (by first|(rw [add_block];exact hn274_6)|(show (Addr.add _ _).block ≠ _;rw [add_block];exact hn274_6)|exact hn274_6) (.int .i64 t259)).trans hx274_0;replace hx274_1:=(cell_far (p:=⟨gb273,6,none⟩) (by first|(rw [add_block];exact hn274_6)|(show (Addr.add _ _).block ≠ _;rw [add_block];exact hn274_6)|exact hn274_6) (.int .i64 t259)).trans hx274_1;replace hx274_2:=(cell_far (p:=⟨gb273,6,none⟩) (by first|(rw [add_block];exact hn274_6)|(show (Addr.add _ _).block ≠ _;rw [add_block];exact hn274_6)|exact hn274_6) (.int .i64 t259)).trans hx274_2;replace hx274_3:=(cell_far (p:=⟨gb273,6,none⟩) (by first|(rw [add_block];exact hn274_6)|(show (Addr.add _ _).block ≠ _;rw [add_block];exact hn274_6)|exact hn274_6) (.int .i64 t259)).trans hx274_3;replace hx274_0:=(cell_far (p:=⟨gb273,7,none⟩) (by first|(rw [add_block];exact hn274_7)|(show (Addr.add _ _).block ≠ _;rw [add_block];exact hn274_7)|exact hn274_7) (.int .i64 t260)).trans hx274_0;replace hx274_1:=(cell_far (p:=⟨gb273,7,none⟩) (by first|(rw [add_block];exact hn274_7)|(show (Addr.add _ _).block ≠ _;rw [add_block];exact hn274_7)|exact hn274_7) (.int .i64 t260)).trans hx274_1;replace hx274_2:=(cell_far (p:=⟨gb273,7,none⟩) (by first|(rw [add_block];exact hn274_7)|(show (Addr.add _ _).block ≠ _;rw [add_block];exact hn274_7)|exact hn274_7) (.int .i64 t260)).trans hx274_2;replace hx274_3:=(cell_far (p:=⟨gb273,7,none⟩) (by first|(rw [add_block];exact hn274_7)|(show (Addr.add _ _).block ≠ _;rw [add_block];exact hn274_7)|exact hn274_7) (.int .i64 t260)).trans hx274_3;replace hx274_0:=(cell_far (p:=⟨gb273,8,none⟩) (by first|(rw [add_block];exact hn274_8)|(show (Addr.add _ _).block ≠ _;rw [add_block];exact hn274_8)|exact hn274_8) (.int .i64 t261)).trans hx274_0;replace hx274_1:=(cell_far (p:=⟨gb273,8,none⟩) (by first|(rw [add_block];exact hn274_8)|(show (Addr.add _ _).block ≠ _;rw [add_block];exact hn274_8)|exact hn274_8) (.int .i64 t261)).trans hx274_1;replace hx274_2:=(cell_far (p:=⟨gb273,8,none⟩) (by first|(rw [add_block];exact hn274_8)|(show (Addr.add _ _).block ≠ _;rw [add_block];exact hn274_8)|exact hn274_8) (.int .i64 t261)).trans hx274_2;replace hx274_3:=(cell_far (p:=⟨gb273,8,none⟩) (by first|(rw [add_block];exact hn274_8)|(show (Addr.add _ _).block ≠ _;rw [add_block];exact hn274_8)|exact hn274_8) (.int .i64 t261)).trans hx274_3;replace hx274_0:=(cell_far (p:=⟨gb273,9,none⟩) (by first|(rw [add_block];exact hn274_9)|(show (Addr.add _ _).block ≠ _;rw [add_block];exact hn274_9)|exact hn274_9) (.slice Ao30 t262.length co30)).trans hx274_0;replace hx274_1:=(cell_far (p:=⟨gb273,9,none⟩) (by first|(rw [add_block];exact hn274_9)|(show (Addr.add _ _).block ≠ _;rw [add_block];exact hn274_9)|exact hn274_9) (.slice Ao30 t262.length co30)).trans hx274_1;replace hx274_2:=(cell_far (p:=⟨gb273,9,none⟩) (by first|(rw [add_block];exact hn274_9)|(show (Addr.add _ _).block ≠ _;rw [add_block];exact hn274_9)|exact hn274_9) (.slice Ao30 t262.length co30)).trans hx274_2;replace hx274_3:=(cell_far (p:=⟨gb273,9,none⟩) (by first|(rw [add_block];exact hn274_9)|(show (Addr.add _ _).block ≠ _;rw [add_block];exact hn274_9)|exact hn274_9) (.slice Ao30 t262.length co30)).trans hx274_3;replace hx274_0:=(cell_far (p:=⟨gb273,10,none⟩) (by first|(rw [add_block];exact hn274_10)|(show (Addr.add _ _).block ≠ _;rw [add_block];exact hn274_10)|exact hn274_10) (.slice Ao31 t265.length co31)).trans hx274_0;replace hx274_1:=(cell_far (p:=⟨gb273,10,none⟩) (by first|(rw [add_block];exact hn274_10)|(show (Addr.add _ _).block ≠ _;rw [add_block];exact hn274_10)|exact hn274_10) (.slice Ao31 t265.length co31)).trans hx274_1;replace hx274_2:=(cell_far (p:=⟨gb273,10,none⟩) (by first|(rw [add_block];exact hn274_10)|(show (Addr.add _ _).block ≠ _;rw [add_block];exact hn274_10)|exact hn274_10) (.slice Ao31 t265.length co31)).trans hx274_2;replace hx274_3:=(cell_far (p:=⟨gb273,10,none⟩) (by first|(rw [add_block];exact hn274_10)|(show (Addr.add _ _).block ≠ _;rw [add_block];exact hn274_10)|exact hn274_10) (.slice Ao31 t265.length co31)).trans hx274_3;replace hx274_0:=(cell_far (p:=⟨gb273,11,none⟩) (by first|(rw [add_block];exact hn274_11)|(show (Addr.add _ _).block ≠ _;rw [add_block];exact hn274_11)|exact hn274_11) (.slice Ao32 t268.length co32)).trans hx274_0;replace hx274_1:=(cell_far (p:=⟨gb273,11,none⟩) (by first|(rw [add_block];exact hn274_11)|(show (Addr.add _ _).block ≠ _;rw [add_block];exact hn274_11)|exact hn274_11) (.slice Ao32 t268.length co32)).trans hx274_1;replace hx274_2:=(cell_far (p:=⟨gb273,11,none⟩) (by first|(rw [add_block];exact hn274_11)|(show (Addr.add _ _).block ≠ _;rw [add_block];exact hn274_11)|exact hn274_11) (.slice Ao32 t268.length co32)).trans hx274_2;replace hx274_3:=(cell_far (p:=⟨gb273,11,none⟩) (by first|(rw [add_block];exact hn274_11)|(show (Addr.add _ _).block ≠ _;rw [add_block];exact hn274_11)|exact hn274_11) (.slice Ao32 t268.length co32)).trans hx274_3;clear hn274_0;clear hn274_1;clear hn274_2;clear hn274_3;clear hn274_4;clear hn274_5;clear hn274_6;clear hn274_7;clear hn274_8;clear hn274_9;clear hn274_10;clear hn274_11;replace p274:=eq_true p274;replace q274:=eq_true q274)|(go_at_call 23;(with_reducible refine (gangerlaw10_small.calls  t275 _ A12.out).mono ?_);rintro e w34 ⟨rfl,hb⟩;have n0_:=Am (Kd.R_below (by (with_reducible repeat (first|apply Kd.R_alloc|apply Kd.R_drewN|apply Kd.R_drew));exact (Kd.R_mono (rf12 (g:=gb273) (Kd.R_types HO241.out BK273.out (by decide)) (fun _ hk=>hk.2)) (fun _ h_=>h_.1))) hb);have n1_:=Am (Kd.R_below (by (with_reducible repeat (first|apply Kd.R_alloc|apply Kd.R_drewN|apply Kd.R_drew));exact (Kd.R_mono (rf12 (g:=gb273) (Kd.R_types HO244.out BK273.out (by decide)) (fun _ hk=>hk.2)) (fun _ h_=>h_.1))) hb);have n2_:=Am (Kd.R_below (by (with_reducible repeat (first|apply Kd.R_alloc|apply Kd.R_drewN|apply Kd.R_drew));exact (Kd.R_mono (rf12 (g:=gb273) (Kd.R_types HO247.out BK273.out (by decide)) (fun _ hk=>hk.2)) (fun _ h_=>h_.1))) hb);have n3_:=Am (Kd.R_below (by (with_reducible repeat (first|apply Kd.R_alloc|apply Kd.R_drewN|apply Kd.R_drew));exact (Kd.R_mono (rf12 (g:=gb273) (Kd.R_types HO264.out BK273.out (by decide)) (fun _ hk=>hk.2)) (fun _ h_=>h_.1))) hb);have n4_:=Am (Kd.R_below (by (with_reducible repeat (first|apply Kd.R_alloc|apply Kd.R_drewN|apply Kd.R_drew));exact (Kd.R_mono (rf12 (g:=gb273) (Kd.R_types HO267.out BK273.out (by decide)) (fun _ hk=>hk.2)) (fun _ h_=>h_.1))) hb);have n5_:=Am (Kd.R_below (by (with_reducible repeat (first|apply Kd.R_alloc|apply Kd.R_drewN|apply Kd.R_drew));exact (Kd.R_mono (rf12 (g:=gb273) (Kd.R_types HO270.out BK273.out (by decide)) (fun _ hk=>hk.2)) (fun _ h_=>h_.1))) hb);have n6_:=Am (blk_below (g:=gb250) (o:=.cells #[.int .i64 t230,.int .i64 t231,.int .i64 t232,.int .i64 t233,.int .i64 t234,.int .i64 t235,.int .i64 t236,.int .i64 t237,.int .i64 t238,.slice (some ad274) t239.length co22,.slice Ao23 t242.length co23,.slice Ao24 t245.length co24] 28 (0,0)) (by (with_reducible repeat (first|refine bN ?_ _|refine bD ?_|refine bA ?_ _));refine blk_far ?_ NB250_273.out _;(with_reducible repeat (first|refine bN ?_ _|refine bD ?_|refine bA ?_ _));refine blk_far ?_ NB250_273.out _;(with_reducible repeat (first|refine bN ?_ _|refine bD ?_|refine bA ?_ _));refine blk_far ?_ NB250_273.out _;(with_reducible repeat (first|refine bN ?_ _|refine bD ?_|refine bA ?_ _));refine blk_far ?_ NB250_273.out _;(with_reducible repeat (first|refine bN ?_ _|refine bD ?_|refine bA ?_ _));refine blk_far ?_ NB250_273.out _;(with_reducible repeat (first|refine bN ?_ _|refine bD ?_|refine bA ?_ _));refine blk_far ?_ NB250_273.out _;(with_reducible repeat (first|refine bN ?_ _|refine bD ?_|refine bA ?_ _));refine blk_far ?_ NB250_273.out _;(with_reducible repeat (first|refine bN ?_ _|refine bD ?_|refine bA ?_ _));refine blk_far ?_ NB250_273.out _;(with_reducible repeat (first|refine bN ?_ _|refine bD ?_|refine bA ?_ _));refine blk_far ?_ NB250_273.out _;(with_reducible repeat (first|refine bN ?_ _|refine bD ?_|refine bA ?_ _));refine blk_far ?_ NB250_273.out _;(with_reducible repeat (first|refine bN ?_ _|refine bD ?_|refine bA ?_ _));refine blk_far ?_ NB250_273.out _;(with_reducible repeat (first|refine bN ?_ _|refine bD ?_|refine bA ?_ _));refine blk_far ?_ NB250_273.out _;(with_reducible repeat (first|refine bN ?_ _|refine bD ?_|refine bA ?_ _));exact BK250.out) hb);have n7_:=Am (blk_below (g:=gb273) (o:=.cells #[.int .i64 t253,.int .i64 t254,.int .i64 t255,.int .i64 t256,.int .i64 t257,.int .i64 t258,.int .i64 t259,.int .i64 t260,.int .i64 t261,.slice Ao30 t262.length co30,.slice Ao31 t265.length co31,.slice Ao32 t268.length co32] 28 (0,0)) (by (with_reducible repeat (first|refine bN ?_ _|refine bD ?_|refine bA ?_ _));refine blk_put (cs:=#[.int .i64 t253,.int .i64 t254,.int .i64 t255,.int .i64 t256,.int .i64 t257,.int .i64 t258,.int .i64 t259,.int .i64 t260,.int .i64 t261,.slice Ao30 t262.length co30,.slice Ao31 t265.length co31,.slice none 0 0]) ?_ 11 _ rfl;(with_reducible repeat (first|refine bN ?_ _|refine bD ?_|refine bA ?_ _));refine blk_put (cs:=#[.int .i64 t253,.int .i64 t254,.int .i64 t255,.int .i64 t256,.int .i64 t257,.int .i64 t258,.int .i64 t259,.int .i64 t260,.int .i64 t261,.slice Ao30 t262.length co30,.slice none 0 0,.slice none 0 0]) ?_ 10 _ rfl;(with_reducible repeat (first|refine bN ?_ _|refine bD ?_|refine bA ?_ _));refine blk_put (cs:=#[.int .i64 t253,.int .i64 t254,.int .i64 t255,.int .i64 t256,.int .i64 t257,.int .i64 t258,.int .i64 t259,.int .i64 t260,.int .i64 t261,.slice none 0 0,.slice none 0 0,.slice none 0 0]) ?_ 9 _ rfl;(with_reducible repeat (first|refine bN ?_ _|refine bD ?_|refine bA ?_ _));refine blk_put (cs:=#[.int .i64 t253,.int .i64 t254,.int .i64 t255,.int .i64 t256,.int .i64 t257,.int .i64 t258,.int .i64 t259,.int .i64 t260,.int .i64 0,.slice none 0 0,.slice none 0 0,.slice none 0 0]) ?_ 8 _ rfl;(with_reducible repeat (first|refine bN ?_ _|refine bD ?_|refine bA ?_ _));refine blk_put (cs:=#[.int .i64 t253,.int .i64 t254,.int .i64 t255,.int .i64 t256,.int .i64 t257,.int .i64 t258,.int .i64 t259,.int .i64 0,.int .i64 0,.slice none 0 0,.slice none 0 0,.slice none 0 0]) ?_ 7 _ rfl;(with_reducible repeat (first|refine bN ?_ _|refine bD ?_|refine bA ?_ _));refine blk_put (cs:=#[.int .i64 t253,.int .i64 t254,.int .i64 t255,.int .i64 t256,.int .i64 t257,.int .i64 t258,.int .i64 0,.int .i64 0,.int .i64 0,.slice none 0 0,.slice none 0 0,.slice none 0 0]) ?_ 6 _ rfl;(with_reducible repeat (first|refine bN ?_ _|refine bD ?_|refine bA ?_ _));refine blk_put (cs:=#[.int .i64 t253,.int .i64 t254,.int .i64 t255,.int .i64 t256,.int .i64 t257,.int .i64 0,.int .i64 0,.int .i64 0,.int .i64 0,.slice none 0 0,.slice none 0 0,.slice none 0 0]) ?_ 5 _ rfl;(with_reducible repeat (first|refine bN ?_ _|refine bD ?_|refine bA ?_ _));refine blk_put (cs:=#[.int .i64 t253,.int .i64 t254,.int .i64 t255,.int .i64 t256,.int .i64 0,.int .i64 0,.int .i64 0,.int .i64 0,.int .i64 0,.slice none 0 0,.slice none 0 0,.slice none 0 0]) ?_ 4 _ rfl;(with_reducible repeat (first|refine bN ?_ _|refine bD ?_|refine bA ?_ _));refine blk_put (cs:=#[.int .i64 t253,.int .i64 t254,.int .i64 t255,.int .i64 0,.int .i64 0,.int .i64 0,.int .i64 0,.int .i64 0,.int .i64 0,.slice none 0 0,.slice none 0 0,.slice none 0 0]) ?_ 3 _ rfl;(with_reducible repeat (first|refine bN ?_ _|refine bD ?_|refine bA ?_ _));refine blk_put (cs:=#[.int .i64 t253,.int .i64 t254,.int .i64 0,.int .i64 0,.int .i64 0,.int .i64 0,.int .i64 0,.int .i64 0,.int .i64 0,.slice none 0 0,.slice none 0 0,.slice none 0 0]) ?_ 2 _ rfl;(with_reducible repeat (first|refine bN ?_ _|refine bD ?_|refine bA ?_ _));refine blk_put (cs:=#[.int .i64 t253,.int .i64 0,.int .i64 0,.int .i64 0,.int .i64 0,.int .i64 0,.int .i64 0,.int .i64 0,.int .i64 0,.slice none 0 0,.slice none 0 0,.slice none 0 0]) ?_ 1 _ rfl;(with_reducible repeat (first|refine bN ?_ _|refine bD ?_|refine bA ?_ _));refine blk_put (cs:=#[.int .i64 0,.int .i64 0,.int .i64 0,.int .i64 0,.int .i64 0,.int .i64 0,.int .i64 0,.int .i64 0,.int .i64 0,.slice none 0 0,.slice none 0 0,.slice none 0 0]) ?_ 0 _ rfl;(with_reducible repeat (first|refine bN ?_ _|refine bD ?_|refine bA ?_ _));exact BK273.out) hb);have n8_:=Am (below_step (by repeat (first|(with_reducible first|exact HB.out|apply bL|apply pN|apply bE|refine bS ?_ GE250.out|refine bS ?_ GE273.out)|exact HB.out)) hb);clear HO241;clear HO244;clear HO247;clear HO264;clear HO267;clear HO270;clear BK250;clear BK273;clear HB;have HO241:=n0_;have HO244:=n1_;have HO247:=n2_;have HO264:=n3_;have HO267:=n4_;have HO270:=n5_;have BK250:=n6_;have BK273:=n7_;have HB:=n8_;clear n0_ n1_ n2_ n3_ n4_ n5_ n6_ n7_ n8_)|(go_at_call 12;(refine (conf_Check.calls k 0 0 0 0 0 0 0 0 0 _ _ ([] : List (S50)) _ _ ([] : List (S52)) _ _ ([] : List (S48)) t276 _ ?side1 ?side2 ?side3 ?side4 ?side5 ?side6 ?side7 A17.out).mono ?_);(case side1=>exact Glob.below HG.out (by repeat (first|(with_reducible first|exact HB.out|apply bL|apply pN|apply bE|refine bS ?_ GE250.out|refine bS ?_ GE273.out)|exact HB.out)));(case side2=>exact Kd.C_nil _ _);(case side3=>exact Nat.le_refl _);(case side4=>exact Kd.C_nil _ _);(case side5=>exact Nat.le_refl _);(case side6=>exact Kd.C_nil _ _);(case side7=>exact Nat.le_refl _);rintro e w35 ⟨rfl,hb⟩;have n0_:=Am (Kd.R_below (by (with_reducible repeat (first|apply Kd.R_alloc|apply Kd.R_drewN|apply Kd.R_drew));exact HO241.out) hb);have n1_:=Am (Kd.R_below (by (with_reducible repeat (first|apply Kd.R_alloc|apply Kd.R_drewN|apply Kd.R_drew));exact HO244.out) hb);have n2_:=Am (Kd.R_below (by (with_reducible repeat (first|apply Kd.R_alloc|apply Kd.R_drewN|apply Kd.R_drew));exact HO247.out) hb);have n3_:=Am (Kd.R_below (by (with_reducible repeat (first|apply Kd.R_alloc|apply Kd.R_drewN|apply Kd.R_drew));exact HO264.out) hb);have n4_:=Am (Kd.R_below (by (with_reducible repeat (first|apply Kd.R_alloc|apply Kd.R_drewN|apply Kd.R_drew));exact HO267.out) hb);have n5_:=Am (Kd.R_below (by (with_reducible repeat (first|apply Kd.R_alloc|apply Kd.R_drewN|apply Kd.R_drew));exact HO270.out) hb);have n6_:=Am (blk_below (g:=gb250) (by (with_reducible repeat (first|refine bN ?_ _|refine bD ?_|refine bA ?_ _));exact BK250.out) hb);have n7_:=Am (blk_below (g:=gb273) (by (with_reducible repeat (first|refine bN ?_ _|refine bD ?_|refine bA ?_ _));exact BK273.out) hb);have n8_:=Am (below_step (by repeat (first|(with_reducible first|exact HB.out|apply bL|apply pN|apply bE|refine bS ?_ GE250.out|refine bS ?_ GE273.out)|exact HB.out)) hb);clear HO241;clear HO244;clear HO247;clear HO264;clear HO267;clear HO270;clear BK250;clear BK273;clear HB;have HO241:=n0_;have HO244:=n1_;have HO247:=n2_;have HO264:=n3_;have HO267:=n4_;have HO270:=n5_;have BK250:=n6_;have BK273:=n7_;have HB:=n8_;clear n0_ n1_ n2_ n3_ n4_ n5_ n6_ n7_ n8_))
 go_ret
 exact ⟨by first|rfl|(simp [errW_none,errW_some] <;> rfl)|(simp [*,errW_none,errW_some] <;> rfl),by repeat (first|(with_reducible first|exact HB.out|apply bL|apply pN|apply bE|refine bS ?_ GE250.out|refine bS ?_ GE273.out)|exact HB.out)⟩
def gangerref10_Copy.f (a0_0 : Int) (a0_1 : Int) (a0_2 : Int) (a0_3 : Int) (a0_4 : Int) (a0_5 : Int) (a0_6 : Int) (a0_7 : Int) (a0_8 : Int) (l0_9 : List (S50)) (l0_10 : List (S52)) (l0_11 : List (S48)) : Option (Int × Int × Int × Int × Int × Int × Int × Int × Int × (List (S50)) × (List (S52)) × (List (S48))):=if ([] : List (S50)).length + l0_9.length < 3518437208883 then (if ([] : List (S52)).length + l0_10.length < 4398046511104 then (if ([] : List (S48)).length + l0_11.length < 3518437208883 then (some (a0_0,a0_1,a0_2,a0_3,a0_4,a0_5,a0_6,a0_7,a0_8,(([] : List (S50)) ++ l0_9),(([] : List (S52)) ++ l0_10),(([] : List (S48)) ++ l0_11))) else (none)) else (none)) else (none)
set_option maxHeartbeats 8000000 in
set_option maxRecDepth 100000 in
theorem gangerref10_Copy.calls (a0_0 : Int) (a0_1 : Int) (a0_2 : Int) (a0_3 : Int) (a0_4 : Int) (a0_5 : Int) (a0_6 : Int) (a0_7 : Int) (a0_8 : Int) (A0_9 : Option Addr) (c0_9 : Nat) (l0_9 : List (S50)) (A0_10 : Option Addr) (c0_10 : Nat) (l0_10 : List (S52)) (A0_11 : Option Addr) (c0_11 : Nat) (l0_11 : List (S48)) (r1 : Int) (r2 : Int) (r3 : Int) (r4 : Int) (r5 : Int) (r6 : Int) (r7 : Int) (r8 : Int) (r9 : Int) (r10 : List (S50)) (r11 : List (S52)) (r12 : List (S48)) (w : World) (hr0_9 : Kd.C k50 w A0_9 l0_9.length l0_9) (hc0_9 : l0_9.length≤c0_9) (hr0_10 : Kd.C k52 w A0_10 l0_10.length l0_10) (hc0_10 : l0_10.length≤c0_10) (hr0_11 : Kd.C k48 w A0_11 l0_11.length l0_11) (hc0_11 : l0_11.length≤c0_11) (h : gangerref10_Copy.f a0_0 a0_1 a0_2 a0_3 a0_4 a0_5 a0_6 a0_7 a0_8 l0_9 l0_10 l0_11 = some (r1,r2,r3,r4,r5,r6,r7,r8,r9,r10,r11,r12)) :
  Calls Tryd.prog 11 #[.agg #[.int .i64 a0_0,.int .i64 a0_1,.int .i64 a0_2,.int .i64 a0_3,.int .i64 a0_4,.int .i64 a0_5,.int .i64 a0_6,.int .i64 a0_7,.int .i64 a0_8,.slice A0_9 l0_9.length c0_9,.slice A0_10 l0_10.length c0_10,.slice A0_11 l0_11.length c0_11]] w fun e w'=>∃ v9_ v10_ v11_ : Value,e = .returned (.agg #[.int .i64 r1,.int .i64 r2,.int .i64 r3,.int .i64 r4,.int .i64 r5,.int .i64 r6,.int .i64 r7,.int .i64 r8,.int .i64 r9,v9_,v10_,v11_])∧Kd.R k50 50 w' w.heap.size (fun _=>True) v9_ r10∧Kd.R k52 52 w' w.heap.size (fun _=>True) v10_ r11∧Kd.R k48 48 w' w.heap.size (fun _=>True) v11_ r12∧Below w.heap.size w w':=by
 have hu28:=Tryd.underlying28
 have HR0_9:=Am hr0_9
 have HC0_9:=Am hc0_9
 clear hr0_9 hc0_9
 have HR0_10:=Am hr0_10
 have HC0_10:=Am hc0_10
 clear hr0_10 hc0_10
 have HR0_11:=Am hr0_11
 have HC0_11:=Am hc0_11
 clear hr0_11 hc0_11
 have HB:=Am (Below.refl w.heap.size w)
 have H : (if ([] : List (S50)).length + l0_9.length < 3518437208883 then (if ([] : List (S52)).length + l0_10.length < 4398046511104 then (if ([] : List (S48)).length + l0_11.length < 3518437208883 then (some (a0_0,a0_1,a0_2,a0_3,a0_4,a0_5,a0_6,a0_7,a0_8,(([] : List (S50)) ++ l0_9),(([] : List (S52)) ++ l0_10),(([] : List (S48)) ++ l0_11))) else (none)) else (none)) else (none)) = some (r1,r2,r3,r4,r5,r6,r7,r8,r9,r10,r11,r12):=h
 clear h
 by_cases c2 : ([] : List (S50)).length + l0_9.length < 3518437208883
 rotate_left
 ·rw [if_neg c2] at H
  exact absurd H (by simp)
 rw [if_pos c2] at H
 have LMc2:=Am c2
 clear c2
 obtain ⟨y279,hy279⟩ : ∃ y_ : List (S50),y_ = (([] : List (S50)) ++ l0_9):=⟨_,rfl⟩
 replace H : (if ([] : List (S52)).length + l0_10.length < 4398046511104 then (if ([] : List (S48)).length + l0_11.length < 3518437208883 then (some (a0_0,a0_1,a0_2,a0_3,a0_4,a0_5,a0_6,a0_7,a0_8,y279,(([] : List (S52)) ++ l0_10),(([] : List (S48)) ++ l0_11))) else (none)) else (none)) = some (r1,r2,r3,r4,r5,r6,r7,r8,r9,r10,r11,r12):=by first|(rw [hy279];with_reducible exact H)|(have H2_:=(Option.bind_some _ _).symm.trans H;rw [hy279];with_reducible exact H2_)|(have H2_:=(Option.bind_some _ _).symm.trans H;with_reducible exact H2_)|with_reducible exact H|(rw [hy279];exact H)|exact H
 have Ny279:=Am hy279
 clear hy279
 by_cases c3 : ([] : List (S52)).length + l0_10.length < 4398046511104
 rotate_left
 ·rw [if_neg c3] at H
  exact absurd H (by simp)
 rw [if_pos c3] at H
 have LMc3:=Am c3
 clear c3
 obtain ⟨y282,hy282⟩ : ∃ y_ : List (S52),y_ = (([] : List (S52)) ++ l0_10):=⟨_,rfl⟩
 replace H : (if ([] : List (S48)).length + l0_11.length < 3518437208883 then (some (a0_0,a0_1,a0_2,a0_3,a0_4,a0_5,a0_6,a0_7,a0_8,y279,y282,(([] : List (S48)) ++ l0_11))) else (none)) = some (r1,r2,r3,r4,r5,r6,r7,r8,r9,r10,r11,r12):=by first|(rw [hy282];with_reducible exact H)|(have H2_:=(Option.bind_some _ _).symm.trans H;rw [hy282];with_reducible exact H2_)|(have H2_:=(Option.bind_some _ _).symm.trans H;with_reducible exact H2_)|with_reducible exact H|(rw [hy282];exact H)|exact H
 have Ny282:=Am hy282
 clear hy282
 by_cases c4 : ([] : List (S48)).length + l0_11.length < 3518437208883
 rotate_left
 ·rw [if_neg c4] at H
  exact absurd H (by simp)
 rw [if_pos c4] at H
 have LMc4:=Am c4
 clear c4
 obtain ⟨y285,hy285⟩ : ∃ y_ : List (S48),y_ = (([] : List (S48)) ++ l0_11):=⟨_,rfl⟩
 replace H : (some (a0_0,a0_1,a0_2,a0_3,a0_4,a0_5,a0_6,a0_7,a0_8,y279,y282,y285)) = some (r1,r2,r3,r4,r5,r6,r7,r8,r9,r10,r11,r12):=by first|(rw [hy285];with_reducible exact H)|(have H2_:=(Option.bind_some _ _).symm.trans H;rw [hy285];with_reducible exact H2_)|(have H2_:=(Option.bind_some _ _).symm.trans H;with_reducible exact H2_)|with_reducible exact H|(rw [hy285];exact H)|exact H
 have Ny285:=Am hy285
 clear hy285
 simp only [Option.some.injEq,Prod.mk.injEq] at H
 obtain ⟨rfl,rfl,rfl,rfl,rfl,rfl,rfl,rfl,rfl,rfl,rfl,rfl⟩:=H
 go_enter Tryd.func11,Tryd.ntmps11
 go_wp2_with (first|((with_reducible refine gD (N:=1) rfl ?_);refine box_event ?hg (N:=1) ?hd (cs:=#[.int .i64 a0_0,.int .i64 a0_1,.int .i64 a0_2,.int .i64 a0_3,.int .i64 a0_4,.int .i64 a0_5,.int .i64 a0_6,.int .i64 a0_7,.int .i64 a0_8,.slice A0_9 l0_9.length c0_9,.slice A0_10 l0_10.length c0_10,.slice A0_11 l0_11.length c0_11]) (t:=28) ?hr ?_;(case hd=>rfl);(case hg=>rfl);(case hr=>first|(go_simp;done)|(go_simp;rfl));intro gb277 hg w5 hbox hb;have n0_:=Am (below_step (by repeat (first|(with_reducible first|exact HB.out|apply bL|apply pN|apply bE)|exact HB.out)) hb);have n1_:=Am (hbox);have n2_:=Am ((by rw [hg];exact (bZ (by repeat (first|(with_reducible first|exact HB.out|apply bL|apply pN|apply bE)|exact HB.out))) : w.heap.size≤gb277));have n3_:=n2_;clear HB;have HB:=n0_;have BK277:=n1_;have GW277:=n2_;have GE277:=n3_;clear n0_ n1_ n2_ n3_;clear hb hbox hg)|((with_reducible refine gD (N:=2) rfl ?_);refine box_event ?hg (N:=2) ?hd (cs:=#[.int .i64 0,.int .i64 0,.int .i64 0,.int .i64 0,.int .i64 0,.int .i64 0,.int .i64 0,.int .i64 0,.int .i64 0,.slice none 0 0,.slice none 0 0,.slice none 0 0]) (t:=28) ?hr ?_;(case hd=>rfl);(case hg=>rfl);(case hr=>first|(go_simp;done)|(go_simp;rfl));intro gb278 hg w6 hbox hb;have n0_:=Am (blk_below (g:=gb277) (by (with_reducible repeat (first|refine bN ?_ _|refine bD ?_|refine bA ?_ _));exact BK277.out) hb);have n1_:=Am (below_step (by repeat (first|(with_reducible first|exact HB.out|apply bL|apply pN|apply bE|refine bS ?_ GE277.out)|exact HB.out)) hb);have n2_:=Am (hbox);have n3_:=Am ((by rw [hg];exact (bZ (by repeat (first|(with_reducible first|exact HB.out|apply bL|apply pN|apply bE|refine bS ?_ GE277.out)|exact HB.out))) : w.heap.size≤gb278));have n4_:=n3_;have n5_:=Am ((by rw [hg];exact Nat.ne_of_lt (blk_lt (g:=gb277) (by (with_reducible repeat (first|refine bN ?_ _|refine bD ?_|refine bA ?_ _));exact BK277.out)) : gb277 ≠ gb278));have n6_:=Am ((by rw [hg];exact Nat.ne_of_gt (blk_lt (g:=gb277) (by (with_reducible repeat (first|refine bN ?_ _|refine bD ?_|refine bA ?_ _));exact BK277.out)) : gb278 ≠ gb277));clear BK277;clear HB;have BK277:=n0_;have HB:=n1_;have BK278:=n2_;have GW278:=n3_;have GE278:=n4_;have NB277_278:=n5_;have NB278_277:=n6_;clear n0_ n1_ n2_ n3_ n4_ n5_ n6_;clear hb hbox hg;have hnb7:=NB277_278.out;have hnc7:=NB278_277.out;obtain ⟨X8_0,X8_1,X8_2,X8_3,X8_4,X8_5,X8_6,X8_7,X8_8,X8_9,X8_10,X8_11,Y8_0,Y8_1,Y8_2,Y8_3,Y8_4,Y8_5,Y8_6,Y8_7,Y8_8,Y8_9,Y8_10,Y8_11⟩:=kc12 (w:=w6) (g:=gb277) BK277.out)|((with_reducible refine gate_builtin (b:=.append) (xs:=#[.tmp 6,.tmp 8]) rfl ?_);at_builtin;refine Kd.R_append_rows k50 (w0:=w) w.heap.size rfl (.tmp 6) (.tmp 8) 24 50 (.agg #[(.string ⟨#[]⟩),(.int .i64 0),(.int .i64 0),(.int .i64 0)]) 40 rfl Tryd.underlying24 info50 rfl (by decide) (by omega) (.slice none 0 0) ([] : List (S50)) l0_9 _ _ _ (fun _=>True) (fun _=>False) rfl rfl ?aO ?aR (fun _ _ h=>h) (fun _ h=>h.elim) ?aF ?aB ?aS ?aL ?_;(case aR=>repeat (first|exact (Kd.C_below HR0_9.out HB.out)|(with_reducible refine Kd.C_alloc ?_ _)|(with_reducible refine Kd.C_drewN ?_ _)|(with_reducible refine Kd.C_drew ?_)));(case aB=>exact (by repeat (first|(with_reducible first|exact HB.out|apply bL|apply pN|apply bE|refine bS ?_ GE277.out|refine bS ?_ GE278.out)|exact HB.out)));(case aF=>exact (fun _ _=>trivial));(case aO=>exact ((Kd.R_nil _ _ _ _ (fun _=>True))));(case aS=>exact (bZ (by repeat (first|(with_reducible first|exact HB.out|apply bL|apply pN|apply bE|refine bS ?_ GE277.out|refine bS ?_ GE278.out)|exact HB.out))));(case aL=>have:=LMc2.out;omega);intro v280 w9 ho hb hg hat;rw [← Ny279.out] at ho;have n0_:=Am (blk_grown (g:=gb277) (by (with_reducible repeat (first|refine bN ?_ _|refine bD ?_|refine bA ?_ _));exact BK277.out) hg (by simp [Value.ownBlock]));have n1_:=Am (blk_grown (g:=gb278) (by (with_reducible repeat (first|refine bN ?_ _|refine bD ?_|refine bA ?_ _));exact BK278.out) hg (by simp [Value.ownBlock]));have n2_:=Am (hb);have n3_:=Am (ho);clear BK277;clear BK278;clear HB;have BK277:=n0_;have BK278:=n1_;have HB:=n2_;have HO281:=n3_;clear n0_ n1_ n2_ n3_;clear ho hb hg hat;obtain ⟨X10_0,X10_1,X10_2,X10_3,X10_4,X10_5,X10_6,X10_7,X10_8,X10_9,X10_10,X10_11,Y10_0,Y10_1,Y10_2,Y10_3,Y10_4,Y10_5,Y10_6,Y10_7,Y10_8,Y10_9,Y10_10,Y10_11⟩:=kc12 (w:=w9) (g:=gb277) BK277.out)|((with_reducible refine gate_builtin (b:=.append) (xs:=#[.tmp 10,.tmp 12]) rfl ?_);at_builtin;refine Kd.R_append_rows k52 (w0:=w) w.heap.size rfl (.tmp 10) (.tmp 12) 25 52 (.agg #[(.string ⟨#[]⟩),(.int .i64 0),(.int .i64 0)]) 32 rfl Tryd.underlying25 info52 rfl (by decide) (by omega) (.slice none 0 0) ([] : List (S52)) l0_10 _ _ _ (fun _=>True) (fun _=>False) rfl rfl ?aO ?aR (fun _ _ h=>h) (fun _ h=>h.elim) ?aF ?aB ?aS ?aL ?_;(case aR=>repeat (first|exact (Kd.C_below HR0_10.out HB.out)|(with_reducible refine Kd.C_alloc ?_ _)|(with_reducible refine Kd.C_drewN ?_ _)|(with_reducible refine Kd.C_drew ?_)));(case aB=>exact (by repeat (first|(with_reducible first|exact HB.out|apply bL|apply pN|apply bE|refine bS ?_ GE277.out|refine bS ?_ GE278.out)|exact HB.out)));(case aF=>exact (fun _ _=>trivial));(case aO=>exact ((Kd.R_nil _ _ _ _ (fun _=>True))));(case aS=>exact (bZ (by repeat (first|(with_reducible first|exact HB.out|apply bL|apply pN|apply bE|refine bS ?_ GE277.out|refine bS ?_ GE278.out)|exact HB.out))));(case aL=>have:=LMc3.out;omega);intro v283 w11 ho hb hg hat;rw [← Ny282.out] at ho;have n0_:=Am (blk_grown (g:=gb277) (by (with_reducible repeat (first|refine bN ?_ _|refine bD ?_|refine bA ?_ _));exact BK277.out) hg (by simp [Value.ownBlock]));have n1_:=Am (blk_grown (g:=gb278) (by (with_reducible repeat (first|refine bN ?_ _|refine bD ?_|refine bA ?_ _));exact BK278.out) hg (by simp [Value.ownBlock]));have n2_:=Am (Kd.R_grown (by (with_reducible repeat (first|apply Kd.R_alloc|apply Kd.R_drewN|apply Kd.R_drew));exact HO281.out) hg (fun _ _=>by simp [Value.ownBlock]));have n3_:=Am (hb);have n4_:=Am (ho);clear BK277;clear BK278;clear HO281;clear HB;have BK277:=n0_;have BK278:=n1_;have HO281:=n2_;have HB:=n3_;have HO284:=n4_;clear n0_ n1_ n2_ n3_ n4_;clear ho hb hg hat;obtain ⟨X12_0,X12_1,X12_2,X12_3,X12_4,X12_5,X12_6,X12_7,X12_8,X12_9,X12_10,X12_11,Y12_0,Y12_1,Y12_2,Y12_3,Y12_4,Y12_5,Y12_6,Y12_7,Y12_8,Y12_9,Y12_10,Y12_11⟩:=kc12 (w:=w11) (g:=gb277) BK277.out)|((with_reducible refine gate_builtin (b:=.append) (xs:=#[.tmp 14,.tmp 16]) rfl ?_);at_builtin;refine Kd.R_append_rows k48 (w0:=w) w.heap.size rfl (.tmp 14) (.tmp 16) 26 48 (.agg #[(.string ⟨#[]⟩),(.string ⟨#[]⟩),(.int .i64 0)]) 40 rfl Tryd.underlying26 info48 rfl (by decide) (by omega) (.slice none 0 0) ([] : List (S48)) l0_11 _ _ _ (fun _=>True) (fun _=>False) rfl rfl ?aO ?aR (fun _ _ h=>h) (fun _ h=>h.elim) ?aF ?aB ?aS ?aL ?_;(case aR=>repeat (first|exact (Kd.C_below HR0_11.out HB.out)|(with_reducible refine Kd.C_alloc ?_ _)|(with_reducible refine Kd.C_drewN ?_ _)|(with_reducible refine Kd.C_drew ?_)));(case aB=>exact (by repeat (first|(with_reducible first|exact HB.out|apply bL|apply pN|apply bE|refine bS ?_ GE277.out|refine bS ?_ GE278.out)|exact HB.out)));(case aF=>exact (fun _ _=>trivial));(case aO=>exact ((Kd.R_nil _ _ _ _ (fun _=>True))));(case aS=>exact (bZ (by repeat (first|(with_reducible first|exact HB.out|apply bL|apply pN|apply bE|refine bS ?_ GE277.out|refine bS ?_ GE278.out)|exact HB.out))));(case aL=>have:=LMc4.out;omega);intro v286 w13 ho hb hg hat;rw [← Ny285.out] at ho;have n0_:=Am (blk_grown (g:=gb277) (by (with_reducible repeat (first|refine bN ?_ _|refine bD ?_|refine bA ?_ _));exact BK277.out) hg (by simp [Value.ownBlock]));have n1_:=Am (blk_grown (g:=gb278) (by (with_reducible repeat (first|refine bN ?_ _|refine bD ?_|refine bA ?_ _));exact BK278.out) hg (by simp [Value.ownBlock]));have n2_:=Am (Kd.R_grown (by (with_reducible repeat (first|apply Kd.R_alloc|apply Kd.R_drewN|apply Kd.R_drew));exact HO281.out) hg (fun _ _=>by simp [Value.ownBlock]));have n3_:=Am (Kd.R_grown (by (with_reducible repeat (first|apply Kd.R_alloc|apply Kd.R_drewN|apply Kd.R_drew));exact HO284.out) hg (fun _ _=>by simp [Value.ownBlock]));have n4_:=Am (hb);have n5_:=Am (ho);clear BK277;clear BK278;clear HO281;clear HO284;clear HB;have BK277:=n0_;have BK278:=n1_;have HO281:=n2_;have HO284:=n3_;have HB:=n4_;have HO287:=n5_;clear n0_ n1_ n2_ n3_ n4_ n5_;clear ho hb hg hat;obtain ⟨Ao14,co14,eo14⟩:=Kd.R_slice HO281.out;subst eo14;obtain ⟨X15_0,X15_1,X15_2,X15_3,X15_4,X15_5,X15_6,X15_7,X15_8,X15_9,X15_10,X15_11,Y15_0,Y15_1,Y15_2,Y15_3,Y15_4,Y15_5,Y15_6,Y15_7,Y15_8,Y15_9,Y15_10,Y15_11⟩:=kc12 (w:=w13) (g:=gb277) BK277.out;obtain ⟨Ao16,co16,eo16⟩:=Kd.R_slice HO284.out;subst eo16;obtain ⟨Ao17,co17,eo17⟩:=Kd.R_slice HO287.out;subst eo17;obtain ⟨X18_0,X18_1,X18_2,X18_3,X18_4,X18_5,X18_6,X18_7,X18_8,X18_9,X18_10,X18_11,Y18_0,Y18_1,Y18_2,Y18_3,Y18_4,Y18_5,Y18_6,Y18_7,Y18_8,Y18_9,Y18_10,Y18_11⟩:=kc12 (w:=w13) (g:=gb278) BK278.out))
 refine bodyPost_ret (results_cell_row rfl _ _ gb278 28 #[.int .i64 a0_0,.int .i64 a0_1,.int .i64 a0_2,.int .i64 a0_3,.int .i64 a0_4,.int .i64 a0_5,.int .i64 a0_6,.int .i64 a0_7,.int .i64 a0_8,.slice Ao14 y279.length co14,.slice Ao16 y282.length co16,.slice Ao17 y285.length co17] (0,0) _ rfl (by (with_reducible repeat (first|refine bN ?_ _|refine bD ?_|refine bA ?_ _));refine blk_put (cs:=#[.int .i64 a0_0,.int .i64 a0_1,.int .i64 a0_2,.int .i64 a0_3,.int .i64 a0_4,.int .i64 a0_5,.int .i64 a0_6,.int .i64 a0_7,.int .i64 a0_8,.slice Ao14 y279.length co14,.slice Ao16 y282.length co16,.slice none 0 0]) ?_ 11 _ rfl;(with_reducible repeat (first|refine bN ?_ _|refine bD ?_|refine bA ?_ _));refine blk_put (cs:=#[.int .i64 a0_0,.int .i64 a0_1,.int .i64 a0_2,.int .i64 a0_3,.int .i64 a0_4,.int .i64 a0_5,.int .i64 a0_6,.int .i64 a0_7,.int .i64 a0_8,.slice Ao14 y279.length co14,.slice none 0 0,.slice none 0 0]) ?_ 10 _ rfl;(with_reducible repeat (first|refine bN ?_ _|refine bD ?_|refine bA ?_ _));refine blk_put (cs:=#[.int .i64 a0_0,.int .i64 a0_1,.int .i64 a0_2,.int .i64 a0_3,.int .i64 a0_4,.int .i64 a0_5,.int .i64 a0_6,.int .i64 a0_7,.int .i64 a0_8,.slice none 0 0,.slice none 0 0,.slice none 0 0]) ?_ 9 _ rfl;(with_reducible repeat (first|refine bN ?_ _|refine bD ?_|refine bA ?_ _));refine blk_put (cs:=#[.int .i64 a0_0,.int .i64 a0_1,.int .i64 a0_2,.int .i64 a0_3,.int .i64 a0_4,.int .i64 a0_5,.int .i64 a0_6,.int .i64 a0_7,.int .i64 0,.slice none 0 0,.slice none 0 0,.slice none 0 0]) ?_ 8 _ rfl;(with_reducible repeat (first|refine bN ?_ _|refine bD ?_|refine bA ?_ _));refine blk_put (cs:=#[.int .i64 a0_0,.int .i64 a0_1,.int .i64 a0_2,.int .i64 a0_3,.int .i64 a0_4,.int .i64 a0_5,.int .i64 a0_6,.int .i64 0,.int .i64 0,.slice none 0 0,.slice none 0 0,.slice none 0 0]) ?_ 7 _ rfl;(with_reducible repeat (first|refine bN ?_ _|refine bD ?_|refine bA ?_ _));refine blk_put (cs:=#[.int .i64 a0_0,.int .i64 a0_1,.int .i64 a0_2,.int .i64 a0_3,.int .i64 a0_4,.int .i64 a0_5,.int .i64 0,.int .i64 0,.int .i64 0,.slice none 0 0,.slice none 0 0,.slice none 0 0]) ?_ 6 _ rfl;(with_reducible repeat (first|refine bN ?_ _|refine bD ?_|refine bA ?_ _));refine blk_put (cs:=#[.int .i64 a0_0,.int .i64 a0_1,.int .i64 a0_2,.int .i64 a0_3,.int .i64 a0_4,.int .i64 0,.int .i64 0,.int .i64 0,.int .i64 0,.slice none 0 0,.slice none 0 0,.slice none 0 0]) ?_ 5 _ rfl;(with_reducible repeat (first|refine bN ?_ _|refine bD ?_|refine bA ?_ _));refine blk_put (cs:=#[.int .i64 a0_0,.int .i64 a0_1,.int .i64 a0_2,.int .i64 a0_3,.int .i64 0,.int .i64 0,.int .i64 0,.int .i64 0,.int .i64 0,.slice none 0 0,.slice none 0 0,.slice none 0 0]) ?_ 4 _ rfl;(with_reducible repeat (first|refine bN ?_ _|refine bD ?_|refine bA ?_ _));refine blk_put (cs:=#[.int .i64 a0_0,.int .i64 a0_1,.int .i64 a0_2,.int .i64 0,.int .i64 0,.int .i64 0,.int .i64 0,.int .i64 0,.int .i64 0,.slice none 0 0,.slice none 0 0,.slice none 0 0]) ?_ 3 _ rfl;(with_reducible repeat (first|refine bN ?_ _|refine bD ?_|refine bA ?_ _));refine blk_put (cs:=#[.int .i64 a0_0,.int .i64 a0_1,.int .i64 0,.int .i64 0,.int .i64 0,.int .i64 0,.int .i64 0,.int .i64 0,.int .i64 0,.slice none 0 0,.slice none 0 0,.slice none 0 0]) ?_ 2 _ rfl;(with_reducible repeat (first|refine bN ?_ _|refine bD ?_|refine bA ?_ _));refine blk_put (cs:=#[.int .i64 a0_0,.int .i64 0,.int .i64 0,.int .i64 0,.int .i64 0,.int .i64 0,.int .i64 0,.int .i64 0,.int .i64 0,.slice none 0 0,.slice none 0 0,.slice none 0 0]) ?_ 1 _ rfl;(with_reducible repeat (first|refine bN ?_ _|refine bD ?_|refine bA ?_ _));refine blk_put (cs:=#[.int .i64 0,.int .i64 0,.int .i64 0,.int .i64 0,.int .i64 0,.int .i64 0,.int .i64 0,.int .i64 0,.int .i64 0,.slice none 0 0,.slice none 0 0,.slice none 0 0]) ?_ 0 _ rfl;(with_reducible repeat (first|refine bN ?_ _|refine bD ?_|refine bA ?_ _));refine blk_far ?_ NB278_277.out _;(with_reducible repeat (first|refine bN ?_ _|refine bD ?_|refine bA ?_ _));refine blk_far ?_ NB278_277.out _;(with_reducible repeat (first|refine bN ?_ _|refine bD ?_|refine bA ?_ _));refine blk_far ?_ NB278_277.out _;(with_reducible repeat (first|refine bN ?_ _|refine bD ?_|refine bA ?_ _));exact BK278.out) Tryd.underlying28 rfl (by kernel_rfl)) rfl ?_
 exact ⟨_,_,_,by first|rfl|(simp [errW_none,errW_some] <;> rfl)|(simp [*,errW_none,errW_some] <;> rfl),by (with_reducible repeat (first|apply Kd.R_alloc|apply Kd.R_drewN|apply Kd.R_drew));exact Kd.R_mono (Kd.R_far (p:=⟨gb278,11,none⟩) (Kd.R_far (p:=⟨gb278,10,none⟩) (Kd.R_far (p:=⟨gb278,9,none⟩) (Kd.R_far (p:=⟨gb278,8,none⟩) (Kd.R_far (p:=⟨gb278,7,none⟩) (Kd.R_far (p:=⟨gb278,6,none⟩) (Kd.R_far (p:=⟨gb278,5,none⟩) (Kd.R_far (p:=⟨gb278,4,none⟩) (Kd.R_far (p:=⟨gb278,3,none⟩) (Kd.R_far (p:=⟨gb278,2,none⟩) (Kd.R_far (p:=⟨gb278,1,none⟩) (Kd.R_far (p:=⟨gb278,0,none⟩) (Kd.R_far (p:=⟨gb277,11,none⟩) (Kd.R_far (p:=⟨gb277,10,none⟩) (Kd.R_far (p:=⟨gb277,9,none⟩) (Kd.R_types (Kd.R_types HO281.out BK277.out (by decide)) BK278.out (by decide)) (fun _ hk=>hk.1.2) (.slice Ao14 y279.length co14)) (fun _ hk=>hk.1.2) (.slice Ao16 y282.length co16)) (fun _ hk=>hk.1.2) (.slice Ao17 y285.length co17)) (fun _ hk=>hk.2) (.int .i64 a0_0)) (fun _ hk=>hk.2) (.int .i64 a0_1)) (fun _ hk=>hk.2) (.int .i64 a0_2)) (fun _ hk=>hk.2) (.int .i64 a0_3)) (fun _ hk=>hk.2) (.int .i64 a0_4)) (fun _ hk=>hk.2) (.int .i64 a0_5)) (fun _ hk=>hk.2) (.int .i64 a0_6)) (fun _ hk=>hk.2) (.int .i64 a0_7)) (fun _ hk=>hk.2) (.int .i64 a0_8)) (fun _ hk=>hk.2) (.slice Ao14 y279.length co14)) (fun _ hk=>hk.2) (.slice Ao16 y282.length co16)) (fun _ hk=>hk.2) (.slice Ao17 y285.length co17)) (fun _ hk=>trivial),by (with_reducible repeat (first|apply Kd.R_alloc|apply Kd.R_drewN|apply Kd.R_drew));exact Kd.R_mono (Kd.R_far (p:=⟨gb278,11,none⟩) (Kd.R_far (p:=⟨gb278,10,none⟩) (Kd.R_far (p:=⟨gb278,9,none⟩) (Kd.R_far (p:=⟨gb278,8,none⟩) (Kd.R_far (p:=⟨gb278,7,none⟩) (Kd.R_far (p:=⟨gb278,6,none⟩) (Kd.R_far (p:=⟨gb278,5,none⟩) (Kd.R_far (p:=⟨gb278,4,none⟩) (Kd.R_far (p:=⟨gb278,3,none⟩) (Kd.R_far (p:=⟨gb278,2,none⟩) (Kd.R_far (p:=⟨gb278,1,none⟩) (Kd.R_far (p:=⟨gb278,0,none⟩) (Kd.R_far (p:=⟨gb277,11,none⟩) (Kd.R_far (p:=⟨gb277,10,none⟩) (Kd.R_far (p:=⟨gb277,9,none⟩) (Kd.R_types (Kd.R_types HO284.out BK277.out (by decide)) BK278.out (by decide)) (fun _ hk=>hk.1.2) (.slice Ao14 y279.length co14)) (fun _ hk=>hk.1.2) (.slice Ao16 y282.length co16)) (fun _ hk=>hk.1.2) (.slice Ao17 y285.length co17)) (fun _ hk=>hk.2) (.int .i64 a0_0)) (fun _ hk=>hk.2) (.int .i64 a0_1)) (fun _ hk=>hk.2) (.int .i64 a0_2)) (fun _ hk=>hk.2) (.int .i64 a0_3)) (fun _ hk=>hk.2) (.int .i64 a0_4)) (fun _ hk=>hk.2) (.int .i64 a0_5)) (fun _ hk=>hk.2) (.int .i64 a0_6)) (fun _ hk=>hk.2) (.int .i64 a0_7)) (fun _ hk=>hk.2) (.int .i64 a0_8)) (fun _ hk=>hk.2) (.slice Ao14 y279.length co14)) (fun _ hk=>hk.2) (.slice Ao16 y282.length co16)) (fun _ hk=>hk.2) (.slice Ao17 y285.length co17)) (fun _ hk=>trivial),by (with_reducible repeat (first|apply Kd.R_alloc|apply Kd.R_drewN|apply Kd.R_drew));exact Kd.R_mono (Kd.R_far (p:=⟨gb278,11,none⟩) (Kd.R_far (p:=⟨gb278,10,none⟩) (Kd.R_far (p:=⟨gb278,9,none⟩) (Kd.R_far (p:=⟨gb278,8,none⟩) (Kd.R_far (p:=⟨gb278,7,none⟩) (Kd.R_far (p:=⟨gb278,6,none⟩) (Kd.R_far (p:=⟨gb278,5,none⟩) (Kd.R_far (p:=⟨gb278,4,none⟩) (Kd.R_far (p:=⟨gb278,3,none⟩) (Kd.R_far (p:=⟨gb278,2,none⟩) (Kd.R_far (p:=⟨gb278,1,none⟩) (Kd.R_far (p:=⟨gb278,0,none⟩) (Kd.R_far (p:=⟨gb277,11,none⟩) (Kd.R_far (p:=⟨gb277,10,none⟩) (Kd.R_far (p:=⟨gb277,9,none⟩) (Kd.R_types (Kd.R_types HO287.out BK277.out (by decide)) BK278.out (by decide)) (fun _ hk=>hk.1.2) (.slice Ao14 y279.length co14)) (fun _ hk=>hk.1.2) (.slice Ao16 y282.length co16)) (fun _ hk=>hk.1.2) (.slice Ao17 y285.length co17)) (fun _ hk=>hk.2) (.int .i64 a0_0)) (fun _ hk=>hk.2) (.int .i64 a0_1)) (fun _ hk=>hk.2) (.int .i64 a0_2)) (fun _ hk=>hk.2) (.int .i64 a0_3)) (fun _ hk=>hk.2) (.int .i64 a0_4)) (fun _ hk=>hk.2) (.int .i64 a0_5)) (fun _ hk=>hk.2) (.int .i64 a0_6)) (fun _ hk=>hk.2) (.int .i64 a0_7)) (fun _ hk=>hk.2) (.int .i64 a0_8)) (fun _ hk=>hk.2) (.slice Ao14 y279.length co14)) (fun _ hk=>hk.2) (.slice Ao16 y282.length co16)) (fun _ hk=>hk.2) (.slice Ao17 y285.length co17)) (fun _ hk=>trivial),by repeat (first|(with_reducible first|exact HB.out|apply bL|apply pN|apply bE|refine bS ?_ GE277.out|refine bS ?_ GE278.out)|exact HB.out)⟩
def gangerref09_more.f (a0 : ByteArray) (a1 : Int) : Option (Int × Bool):=if a1 ≥ (a0.size : Int) then (some (0,false)) else (if 0≤a1 then (if a1 < (a0.size : Int) then (if (bt a0 a1) < 128 then (some (0,false)) else (if (bt a0 a1) > 191 then (some (0,false)) else (some (wrap64 ((wrap64 (bt a0 a1)) - 128),true)))) else (none)) else (none))
set_option maxHeartbeats 8000000 in
set_option maxRecDepth 100000 in
theorem gangerref09_more.calls (a0 : ByteArray) (a1 : Int) (r1 : Int) (r2 : Bool) (w : World) (h : gangerref09_more.f a0 a1 = some (r1,r2)) :
  Calls Tryd.prog 49 #[.string a0,.int .i64 a1] w fun e w'=>e = .returned (.tuple #[.int .i64 r1,.bool r2])∧Drawn0 w w':=by
 have H : (if a1 ≥ (a0.size : Int) then (some (0,false)) else (if 0≤a1 then (if a1 < (a0.size : Int) then (if (bt a0 a1) < 128 then (some (0,false)) else (if (bt a0 a1) > 191 then (some (0,false)) else (some (wrap64 ((wrap64 (bt a0 a1)) - 128),true)))) else (none)) else (none))) = some (r1,r2):=h
 clear h
 by_cases c3 : a1 ≥ (a0.size : Int)
 ·rw [if_pos c3] at H
  have c3b0 : decide ((a0.size : Int)≤a1) = true:=decide_eq_true c3
  clear c3
  simp only [Option.some.injEq,Prod.mk.injEq] at H
  obtain ⟨rfl,rfl⟩:=H
  go_enter Tryd.func49,Tryd.ntmps49
  go_wp2
  go_ret2
  exact ⟨by first|rfl|(simp;done)|(simp [*];done),by repeat (first|exact Drawn0.refl _|apply Drawn0.step)⟩
 rw [if_neg c3] at H
 have c3b0 : decide ((a0.size : Int)≤a1) = false:=decide_eq_false c3
 clear c3
 by_cases c4 : 0≤a1
 rotate_left
 ·rw [if_neg c4] at H
  exact absurd H (by simp)
 rw [if_pos c4] at H
 have c4b0 : decide (0≤a1) = true:=decide_eq_true c4
 clear c4
 by_cases c5 : a1 < (a0.size : Int)
 rotate_left
 ·rw [if_neg c5] at H
  exact absurd H (by simp)
 rw [if_pos c5] at H
 have c5b0 : decide (a1 < (a0.size : Int)) = true:=decide_eq_true c5
 clear c5
 by_cases c7 : (bt a0 a1) < 128
 ·rw [if_pos c7] at H
  have c7b0 : decide ((bt a0 a1) < 128) = true:=decide_eq_true c7
  clear c7
  simp only [Option.some.injEq,Prod.mk.injEq] at H
  obtain ⟨rfl,rfl⟩:=H
  have p6 : 0≤(a1 : Int):=of_decide_eq_true (by first|(with_reducible assumption)|assumption)
  have q6 : a1 < (a0.size : Int):=of_decide_eq_true (by first|(with_reducible assumption)|assumption)
  have hx6:=bt_at a0 a1
  replace p6:=eq_true p6
  replace q6:=eq_true q6
  go_enter Tryd.func49,Tryd.ntmps49
  go_wp2
  go_ret2
  exact ⟨by first|rfl|(simp;done)|(simp [*];done),by repeat (first|exact Drawn0.refl _|apply Drawn0.step)⟩
 rw [if_neg c7] at H
 have c7b0 : decide ((bt a0 a1) < 128) = false:=decide_eq_false c7
 clear c7
 by_cases c9 : (bt a0 a1) > 191
 ·rw [if_pos c9] at H
  have c9b0 : decide (191 < (bt a0 a1)) = true:=decide_eq_true c9
  clear c9
  simp only [Option.some.injEq,Prod.mk.injEq] at H
  obtain ⟨rfl,rfl⟩:=H
  have p6 : 0≤(a1 : Int):=of_decide_eq_true (by first|(with_reducible assumption)|assumption)
  have q6 : a1 < (a0.size : Int):=of_decide_eq_true (by first|(with_reducible assumption)|assumption)
  have hx6:=bt_at a0 a1
  replace p6:=eq_true p6
  replace q6:=eq_true q6
  have p8 : 0≤(a1 : Int):=of_decide_eq_true (by first|(with_reducible assumption)|assumption)
  have q8 : a1 < (a0.size : Int):=of_decide_eq_true (by first|(with_reducible assumption)|assumption)
  have hx8:=bt_at a0 a1
  replace p8:=eq_true p8
  replace q8:=eq_true q8
  go_enter Tryd.func49,Tryd.ntmps49
  go_wp2
  go_ret2
  exact ⟨by first|rfl|(simp;done)|(simp [*];done),by repeat (first|exact Drawn0.refl _|apply Drawn0.step)⟩
 rw [if_neg c9] at H
 have c9b0 : decide (191 < (bt a0 a1)) = false:=decide_eq_false c9
 clear c9
 simp only [Option.some.injEq,Prod.mk.injEq] at H
 obtain ⟨rfl,rfl⟩:=H
 have p6 : 0≤(a1 : Int):=of_decide_eq_true (by first|(with_reducible assumption)|assumption)
 have q6 : a1 < (a0.size : Int):=of_decide_eq_true (by first|(with_reducible assumption)|assumption)
 have hx6:=bt_at a0 a1
 replace p6:=eq_true p6
 replace q6:=eq_true q6
 have p8 : 0≤(a1 : Int):=of_decide_eq_true (by first|(with_reducible assumption)|assumption)
 have q8 : a1 < (a0.size : Int):=of_decide_eq_true (by first|(with_reducible assumption)|assumption)
 have hx8:=bt_at a0 a1
 replace p8:=eq_true p8
 replace q8:=eq_true q8
 have p10 : 0≤(a1 : Int):=of_decide_eq_true (by first|(with_reducible assumption)|assumption)
 have q10 : a1 < (a0.size : Int):=of_decide_eq_true (by first|(with_reducible assumption)|assumption)
 have hx10:=bt_at a0 a1
 replace p10:=eq_true p10
 replace q10:=eq_true q10
 go_enter Tryd.func49,Tryd.ntmps49
 go_wp2
 go_ret2
 exact ⟨by first|rfl|(simp;done)|(simp [*];done),by repeat (first|exact Drawn0.refl _|apply Drawn0.step)⟩
end Go.Proofs.YtgidipomfbikiaaDoor.P
