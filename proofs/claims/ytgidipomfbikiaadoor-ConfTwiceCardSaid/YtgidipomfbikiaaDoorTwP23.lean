/- cut to what one law reaches -/
import Derived.Test.YtgidipomfbikiaaDoorTwShort
import Derived.Test.YtgidipomfbikiaaDoorTwP0
import Derived.Test.YtgidipomfbikiaaDoorTwP5
import Derived.Test.YtgidipomfbikiaaDoorTwP7
import Derived.Test.YtgidipomfbikiaaDoorTwP12
namespace Go.Proofs.YtgidipomfbikiaaDoor.P
open Go.RowKit Go.Proofs.YtgidipomfbikiaaDoorW.PrintWords Go.Proofs.YtgidipomfbikiaaDoorW.PrintLast Go.Proofs.YtgidipomfbikiaaDoorW.PrintMore
attribute [local go_sem] max2_int min2_int max_two min_two max_three min_three max_four min_four   -- for this text's walks alone
set_option linter.unusedVariables false
set_option linter.unusedSimpArgs false
attribute [local go_sem] isSome_setCell
theorem size_setCell_ (w : World) (p : Addr) (v : Value) : (w.setCell p v).heap.size = w.heap.size:=by simp [World.setCell]
structure Cop (W : World) (B lo hi g : Nat) (h : Hd) (A9 : Option Addr) (c9 : Nat) (A10 : Option Addr) (c10 : Nat) (A11 : Option Addr) (c11 : Nat) (P : List S50) (Q : List S52) (A : List S48) : Prop where
 bl : B≤lo
 gl : lo≤g
 gh : g < hi
 hw : hi≤W.heap.size
 b : W.heap[g]? = some (.cells #[.int .i64 h.f0,.int .i64 h.f1,.int .i64 h.f2,.int .i64 h.f3,.int .i64 h.f4,.int .i64 h.f5,.int .i64 h.f6,.int .i64 h.f7,.int .i64 h.f8,.slice A9 P.length c9,.slice A10 Q.length c10,.slice A11 A.length c11] 28 (0,0))
 r9 : Kd.R k50 50 W B (fun k=>lo≤k∧k < hi) (.slice A9 P.length c9) P
 r10 : Kd.R k52 52 W B (fun k=>lo≤k∧k < hi) (.slice A10 Q.length c10) Q
 r11 : Kd.R k48 48 W B (fun k=>lo≤k∧k < hi) (.slice A11 A.length c11) A
section
variable {W W' : World} {B lo hi g : Nat} {h : Hd} {A9 : Option Addr} {c9 : Nat} {A10 : Option Addr} {c10 : Nat} {A11 : Option Addr} {c11 : Nat} {P : List S50} {Q : List S52} {A : List S48}
theorem Cop.below (c : Cop W B lo hi g h A9 c9 A10 c10 A11 c11 P Q A) (hb : Below W.heap.size W W') : Cop W' B lo hi g h A9 c9 A10 c10 A11 c11 P Q A :=
 ⟨c.bl,c.gl,c.gh,Nat.le_trans c.hw hb.size,blk_below c.b hb,Kd.R_below c.r9 hb,Kd.R_below c.r10 hb,Kd.R_below c.r11 hb⟩
theorem Cop.drew (c : Cop W B lo hi g h A9 c9 A10 c10 A11 c11 P Q A) : Cop W.drew B lo hi g h A9 c9 A10 c10 A11 c11 P Q A:=c.below (below_drew (Below.refl _ _))
theorem Cop.drewN (c : Cop W B lo hi g h A9 c9 A10 c10 A11 c11 P Q A) (m : Nat) : Cop (W.drewN m) B lo hi g h A9 c9 A10 c10 A11 c11 P Q A:=c.below (pN (Below.refl _ _) m)
theorem Cop.alloc (c : Cop W B lo hi g h A9 c9 A10 c10 A11 c11 P Q A) (o : Obj) : Cop (W.alloc o) B lo hi g h A9 c9 A10 c10 A11 c11 P Q A:=c.below (bL (Below.refl _ _) o)
theorem Cop.set (c : Cop W B lo hi g h A9 c9 A10 c10 A11 c11 P Q A) {q : Nat} (hq : q < lo ∨ hi≤q) (j : Nat) (v : Value) : Cop (W.setCell ⟨q,j,none⟩ v) B lo hi g h A9 c9 A10 c10 A11 c11 P Q A:=by
 have e : ∀ k,(lo≤k∧k < hi)→k ≠ q:=fun k hk=>by omega
 refine ⟨c.bl,c.gl,c.gh,?_,blk_far c.b (p:=⟨q,j,none⟩) (e g ⟨c.gl,c.gh⟩) v,Kd.R_far (p:=⟨q,j,none⟩) c.r9 e v,Kd.R_far (p:=⟨q,j,none⟩) c.r10 e v,Kd.R_far (p:=⟨q,j,none⟩) c.r11 e v⟩
 have:=c.hw
 have h2 : W.heap.size = (W.setCell ⟨q,j,none⟩ v).heap.size:=(size_setCell_ W _ v).symm
 omega
theorem Cop.grown (c : Cop W B lo hi g h A9 c9 A10 c10 A11 c11 P Q A) {row : Option Nat} (hg : W.grownBy W' row) (hr : ∀ k,row = some k→k < lo ∨ hi≤k) : Cop W' B lo hi g h A9 c9 A10 c10 A11 c11 P Q A:=by
 have hr : ∀ k,lo≤k→k < hi→some k ≠ row:=fun k h1 h2 e=>by have:=hr k e.symm;omega
 exact ⟨c.bl,c.gl,c.gh,Nat.le_trans c.hw hg.size,(hg.block g (blk_lt c.b) (hr g c.gl c.gh)).trans c.b,Kd.R_grown c.r9 hg (fun k hk=>hr k hk.1 hk.2),Kd.R_grown c.r10 hg (fun k hk=>hr k hk.1 hk.2),Kd.R_grown c.r11 hg (fun k hk=>hr k hk.1 hk.2)⟩
theorem Cop.new (q9 : Kd.R k50 50 W lo (fun _=>True) (.slice A9 P.length c9) P) (q10 : Kd.R k52 52 W lo (fun _=>True) (.slice A10 Q.length c10) Q) (q11 : Kd.R k48 48 W lo (fun _=>True) (.slice A11 A.length c11) A) (hB : B≤lo) (hl : lo≤W.heap.size)
  (hb : Below W.heap.size W W') (hx : W'.heap[W.heap.size]? = some (.cells #[.int .i64 h.f0,.int .i64 h.f1,.int .i64 h.f2,.int .i64 h.f3,.int .i64 h.f4,.int .i64 h.f5,.int .i64 h.f6,.int .i64 h.f7,.int .i64 h.f8,.slice A9 P.length c9,.slice A10 Q.length c10,.slice A11 A.length c11] 28 (0,0))) : Cop W' B lo (W.heap.size + 1) W.heap.size h A9 c9 A10 c10 A11 c11 P Q A:=by
 refine ⟨hB,hl,by omega,blk_lt hx,hx,Kd.R_lower (Kd.R_mono (Kd.R_below (Kd.R_bound q9) hb) ?_) hB,Kd.R_lower (Kd.R_mono (Kd.R_below (Kd.R_bound q10) hb) ?_) hB,Kd.R_lower (Kd.R_mono (Kd.R_below (Kd.R_bound q11) hb) ?_) hB⟩
 all_goals exact fun k hk=>⟨hk.2.1,by have:=hk.2.2.1;omega⟩
theorem Cop.row11 (c : Cop W B lo hi g h A9 c9 A10 c10 A11 c11 P Q A) (hp : 0 < A.length) : ∃ go,A11 = some ⟨go,0,none⟩∧lo≤go∧go < hi:=by
 obtain ⟨go,cap,e,_,_,_⟩:=Kd.R_form c.r11 hp
 injection e with e1 e2 e3
 refine ⟨go,e1,c.r11.1 go ?_⟩
 rw [e1];simp [Value.ownBlock]
theorem Cop.put {go : Nat} (c : Cop W B lo hi g h A9 c9 A10 c10 (some ⟨go,0,none⟩) c11 P Q A) (i : Int) (h0 : 0≤i) (h1 : i < (A.length : Int)) (x : ByteArray) :
  ((W.cell? ⟨go,i.toNat * 3,none⟩ = some (.string (rd_T48 A i).f0)∧W.cell? ⟨go,i.toNat * 3 + 1,none⟩ = some (.string (rd_T48 A i).f1))∧(W.frozen? ⟨go,i.toNat * 3,none⟩ = false∧W.frozen? ⟨go,i.toNat * 3 + 1,none⟩ = false)) ∧
  (Cop (W.setCell ⟨go,i.toNat * 3,none⟩ (.string x)) B lo hi g h A9 c9 A10 c10 (some ⟨go,0,none⟩) c11 P Q (A.set i.toNat (⟨x,(rd_T48 A i).f1,(rd_T48 A i).f2⟩ : S48))∧Cop (W.setCell ⟨go,i.toNat * 3 + 1,none⟩ (.string x)) B lo hi g h A9 c9 A10 c10 (some ⟨go,0,none⟩) c11 P Q (A.set i.toNat (⟨(rd_T48 A i).f0,x,(rd_T48 A i).f2⟩ : S48))):=by
 obtain ⟨ce,hcl,hM,hcc,hfr⟩:=Kd.R_elem c.r11 z48 i h0 h1
 obtain rfl:=k48_openM hM
 have hgo:=c.r11.1 go (by simp [Value.ownBlock])
 have ty:=Kd.R_typed c.r11
 have far : ∀ (j : Nat) (y : Value),(W.setCell ⟨go,j,none⟩ y).heap[g]? = some (.cells #[.int .i64 h.f0,.int .i64 h.f1,.int .i64 h.f2,.int .i64 h.f3,.int .i64 h.f4,.int .i64 h.f5,.int .i64 h.f6,.int .i64 h.f7,.int .i64 h.f8,.slice A9 P.length c9,.slice A10 Q.length c10,.slice (some ⟨go,0,none⟩) A.length c11] 28 (0,0))∧hi≤(W.setCell ⟨go,j,none⟩ y).heap.size∧Kd.R k50 50 (W.setCell ⟨go,j,none⟩ y) B (fun k=>lo≤k∧k < hi) (.slice A9 P.length c9) P∧Kd.R k52 52 (W.setCell ⟨go,j,none⟩ y) B (fun k=>lo≤k∧k < hi) (.slice A10 Q.length c10) Q:=by
  intro j y
  obtain ⟨cs,hcs⟩:=ty go (by simp [Value.ownBlock])
  have hne : g ≠ go:=by
   intro e2
   have e3:=c.b
   rw [e2] at e3
   have:=e3.symm.trans hcs
   simp at this
  have h2 : W.heap.size = (W.setCell ⟨go,j,none⟩ y).heap.size:=(size_setCell_ W _ y).symm
  have h3:=c.hw
  exact ⟨blk_far c.b (p:=⟨go,j,none⟩) hne y,by omega,Kd.R_set c.r9 hcs (by decide) j y,Kd.R_set c.r10 hcs (by decide) j y⟩
 refine ⟨⟨⟨hcc 0 _ rfl,hcc 1 _ rfl⟩,⟨hfr 0,hfr 1⟩⟩,?_,?_⟩
 ·obtain ⟨f1,f2,f3,f4⟩:=far (i.toNat * 3) (.string x)
  have s0:=(Kd.R_seg c.r11 i h0 h1 (seg:=[.string x]) (j:=0) hcl hcc (show 1≤3 from by decide) (x':=(⟨x,(rd_T48 A i).f1,(rd_T48 A i).f2⟩ : S48)) (k48_mkM _ _ _ (⟨x,(rd_T48 A i).f1,(rd_T48 A i).f2⟩ : S48)) (fun _ hk=>hk)).1
  exact ⟨c.bl,c.gl,c.gh,f2,by rw [List.length_set];exact f1,f3,f4,by rw [List.length_set];exact s0⟩
 ·obtain ⟨f1,f2,f3,f4⟩:=far (i.toNat * 3 + 1) (.string x)
  have s0:=(Kd.R_seg c.r11 i h0 h1 (seg:=[.string x]) (j:=1) hcl hcc (show 2≤3 from by decide) (x':=(⟨(rd_T48 A i).f0,x,(rd_T48 A i).f2⟩ : S48)) (k48_mkM _ _ _ (⟨(rd_T48 A i).f0,x,(rd_T48 A i).f2⟩ : S48)) (fun _ hk=>hk)).1
  exact ⟨c.bl,c.gl,c.gh,f2,by rw [List.length_set];exact f1,f3,f4,by rw [List.length_set];exact s0⟩
theorem Cop.app9 {v1 : Value} {x : S50} {PN : List S50} (c : Cop W B lo hi g h A9 c9 A10 c10 A11 c11 P Q A) (e : PN = P ++ [x]) (hR : Kd.R k50 50 W' B (fun k=>lo≤k) v1 PN) (hg : W.grownBy W' (.slice A9 P.length c9 : Value).ownBlock) : ∃ A' c',v1 = .slice A' PN.length c'∧Cop (W'.setCell ⟨g,9,none⟩ v1) B lo W'.heap.size g h A' c' A10 c10 A11 c11 PN Q A∧W'.cell? ⟨g,9,none⟩ = some (.slice A9 P.length c9)∧W'.frozen? ⟨g,9,none⟩ = false:=by
 obtain ⟨A',c',rfl⟩:=Kd.R_slice hR
 have ne : some g ≠ (.slice A9 P.length c9 : Value).ownBlock:=Kd.R_ne c.r9 c.b (by decide)
 have kb:=(hg.block g (blk_lt c.b) ne).trans c.b
 have hz:=hg.size
 have hw:=c.hw
 have hs : (W'.setCell ⟨g,9,none⟩ (.slice A' PN.length c')).heap.size = W'.heap.size:=size_setCell_ W' _ _
 refine ⟨A',c',rfl,⟨c.bl,c.gl,by have:=c.gh;omega,by omega,blk_put kb 9 _ rfl,Kd.R_set (Kd.R_mono (Kd.R_bound hR) (fun k hk=>⟨hk.1,hk.2.2.1⟩)) kb (by decide) 9 _,?_,?_⟩,(bC kb 9).trans rfl,bF kb 9⟩
 ·exact Kd.R_set (Kd.R_mono (Kd.R_over' c.r10 (Kd.R_typed c.r9) (by decide) hg) (fun k hk=>⟨hk.1,by omega⟩)) kb (by decide) 9 _
 ·exact Kd.R_set (Kd.R_mono (Kd.R_over' c.r11 (Kd.R_typed c.r9) (by decide) hg) (fun k hk=>⟨hk.1,by omega⟩)) kb (by decide) 9 _
theorem Cop.app10 {v1 : Value} {x : S52} {QN : List S52} (c : Cop W B lo hi g h A9 c9 A10 c10 A11 c11 P Q A) (e : QN = Q ++ [x]) (hR : Kd.R k52 52 W' B (fun k=>lo≤k) v1 QN) (hg : W.grownBy W' (.slice A10 Q.length c10 : Value).ownBlock) : ∃ A' c',v1 = .slice A' QN.length c'∧Cop (W'.setCell ⟨g,10,none⟩ v1) B lo W'.heap.size g h A9 c9 A' c' A11 c11 P QN A∧W'.cell? ⟨g,10,none⟩ = some (.slice A10 Q.length c10)∧W'.frozen? ⟨g,10,none⟩ = false:=by
 obtain ⟨A',c',rfl⟩:=Kd.R_slice hR
 have ne : some g ≠ (.slice A10 Q.length c10 : Value).ownBlock:=Kd.R_ne c.r10 c.b (by decide)
 have kb:=(hg.block g (blk_lt c.b) ne).trans c.b
 have hz:=hg.size
 have hw:=c.hw
 have hs : (W'.setCell ⟨g,10,none⟩ (.slice A' QN.length c')).heap.size = W'.heap.size:=size_setCell_ W' _ _
 refine ⟨A',c',rfl,⟨c.bl,c.gl,by have:=c.gh;omega,by omega,blk_put kb 10 _ rfl,?_,Kd.R_set (Kd.R_mono (Kd.R_bound hR) (fun k hk=>⟨hk.1,hk.2.2.1⟩)) kb (by decide) 10 _,?_⟩,(bC kb 10).trans rfl,bF kb 10⟩
 ·exact Kd.R_set (Kd.R_mono (Kd.R_over' c.r9 (Kd.R_typed c.r10) (by decide) hg) (fun k hk=>⟨hk.1,by omega⟩)) kb (by decide) 10 _
 ·exact Kd.R_set (Kd.R_mono (Kd.R_over' c.r11 (Kd.R_typed c.r10) (by decide) hg) (fun k hk=>⟨hk.1,by omega⟩)) kb (by decide) 10 _
theorem Cop.cell (c : Cop W B lo hi g h A9 c9 A10 c10 A11 c11 P Q A) (j : Nat) : W.cell? ⟨g,j,none⟩ = (#[.int .i64 h.f0,.int .i64 h.f1,.int .i64 h.f2,.int .i64 h.f3,.int .i64 h.f4,.int .i64 h.f5,.int .i64 h.f6,.int .i64 h.f7,.int .i64 h.f8,.slice A9 P.length c9,.slice A10 Q.length c10,.slice A11 A.length c11] : Array Value)[j]?:=bC c.b j
end
def idx2 (a : Int) (n : Nat) : Int:=wrap64 (Int.tmod (IntKind.u64.wrap a) (IntKind.u64.wrap (n : Int)))
theorem idx2_in (a : Int) (n : Nat) (h : 1≤n∧n≤1000000) : 0≤idx2 a n∧idx2 a n < n:=by
 have e : IntKind.u64.wrap (n : Int) = (n : Int):=by rw [IntKind.wrap_u64];omega
 unfold idx2
 rw [e,IntKind.wrap_u64]
 have h0 : 0≤a % 18446744073709551616:=Int.emod_nonneg _ (by omega)
 rw [Int.tmod_eq_emod_of_nonneg h0]
 generalize a % 18446744073709551616 = v at *
 have h1 : 0≤v % (n : Int):=Int.emod_nonneg _ (by omega)
 have h2 : v % (n : Int) < (n : Int):=Int.emod_lt_of_pos _ (by omega)
 generalize v % (n : Int) = m at *
 have e2 : wrap64 m = m:=by unfold wrap64;omega
 rw [e2];omega
def twK (k : Nat) : Option Bool:=(gangerlaw10_known.f k).bind fun t=>some t
def twT (k : Nat) (a0_0 a0_1 a0_2 a0_3 a0_4 a0_5 a0_6 a0_7 a0_8 : Int) (l0_9 : List S50) (l0_10 : List S52) (l0_11 : List S48) (i j m u v : Int) : Option Bool :=
 (if i = j then some 100 else conf_Check.f k a0_0 a0_1 a0_2 a0_3 a0_4 a0_5 a0_6 a0_7 a0_8 l0_9 l0_10 (l0_11.set i.toNat (⟨(rd_T48 l0_11 j).f0,(rd_T48 l0_11 i).f1,(rd_T48 l0_11 i).f2⟩ : S48))).bind fun e1=>(conf_Check.f k a0_0 a0_1 a0_2 a0_3 a0_4 a0_5 a0_6 a0_7 a0_8 l0_9 l0_10 (l0_11.set i.toNat (⟨(rd_T48 l0_11 i).f0,(rd_T48 l0_11 m).f0,(rd_T48 l0_11 i).f2⟩ : S48))).bind fun e2=>(if i = 0 then some 100 else conf_Check.f k a0_0 a0_1 a0_2 a0_3 a0_4 a0_5 a0_6 a0_7 a0_8 l0_9 l0_10 (l0_11.set i.toNat (⟨(rd_T48 l0_11 i).f0,(⟨#[]⟩ : ByteArray),(rd_T48 l0_11 i).f2⟩ : S48))).bind fun e3=>(conf_Check.f k a0_0 a0_1 a0_2 a0_3 a0_4 a0_5 a0_6 a0_7 a0_8 (l0_9 ++ [(⟨(rd_T50 l0_9 u).f0,(rd_T50 l0_9 u).f1,(rd_T50 l0_9 u).f2,(rd_T50 l0_9 u).f3⟩ : S50)]) l0_10 l0_11).bind fun e4=>(conf_Check.f k a0_0 a0_1 a0_2 a0_3 a0_4 a0_5 a0_6 a0_7 a0_8 l0_9 (l0_10 ++ [(⟨(rd_T52 l0_10 v).f0,(rd_T52 l0_10 v).f1,(rd_T52 l0_10 v).f2⟩ : S52)]) l0_11).bind fun e5 =>
  if e1 = 100∧e2 = 100∧e3 = 100∧e4 = 100∧e5 = 100 then twK k else none
def gangerlaw10_ConfTwice.f (k : Nat) (a0_0 : Int) (a0_1 : Int) (a0_2 : Int) (a0_3 : Int) (a0_4 : Int) (a0_5 : Int) (a0_6 : Int) (a0_7 : Int) (a0_8 : Int) (l0_9 : List (S50)) (l0_10 : List (S52)) (l0_11 : List (S48)) (a1 : Int) (a2 : Int) : Option (Bool) :=
 (gangerlaw10_long.f k a0_0 a0_1 a0_2 a0_3 a0_4 a0_5 a0_6 a0_7 a0_8 l0_9 l0_10 l0_11).bind fun t=>if t = true then twK k else if l0_11.length = 0 then twK k else if l0_9.length = 0 then twK k else if l0_10.length = 0 then twK k else
  (conf_Check.f k a0_0 a0_1 a0_2 a0_3 a0_4 a0_5 a0_6 a0_7 a0_8 l0_9 l0_10 l0_11).bind fun e=>if e = 0 then (if l0_9.length≤1000000∧l0_10.length≤1000000∧l0_11.length≤1000000 then twT k a0_0 a0_1 a0_2 a0_3 a0_4 a0_5 a0_6 a0_7 a0_8 l0_9 l0_10 l0_11 (idx2 a1 l0_11.length) (idx2 a2 l0_11.length) (mx (idx2 a1 l0_11.length) (idx2 a2 l0_11.length)) (idx2 a1 l0_9.length) (idx2 a2 l0_10.length) else none) else twK k
theorem twK.mono (k : Nat) : LeO (twK k) (twK (k + 1)):=LeO.bind (gangerlaw10_known.mono k) (fun _=>LeO.refl _)
set_option maxHeartbeats 64000000 in
set_option maxRecDepth 1000000 in
theorem gangerlaw10_ConfTwice.calls (k : Nat) (a0_0 : Int) (a0_1 : Int) (a0_2 : Int) (a0_3 : Int) (a0_4 : Int) (a0_5 : Int) (a0_6 : Int) (a0_7 : Int) (a0_8 : Int) (A0_9 : Option Addr) (c0_9 : Nat) (l0_9 : List (S50)) (A0_10 : Option Addr) (c0_10 : Nat) (l0_10 : List (S52)) (A0_11 : Option Addr) (c0_11 : Nat) (l0_11 : List (S48)) (a1 : Int) (a2 : Int) (r : Bool) (w : World) (hG : Glob w) (hr0_9 : Kd.C k50 w A0_9 l0_9.length l0_9) (hc0_9 : l0_9.length≤c0_9) (hr0_10 : Kd.C k52 w A0_10 l0_10.length l0_10) (hc0_10 : l0_10.length≤c0_10) (hr0_11 : Kd.C k48 w A0_11 l0_11.length l0_11) (hc0_11 : l0_11.length≤c0_11) (h : gangerlaw10_ConfTwice.f k a0_0 a0_1 a0_2 a0_3 a0_4 a0_5 a0_6 a0_7 a0_8 l0_9 l0_10 l0_11 a1 a2 = some r) :
  Calls Tryd.prog 6 #[.agg #[.int .i64 a0_0,.int .i64 a0_1,.int .i64 a0_2,.int .i64 a0_3,.int .i64 a0_4,.int .i64 a0_5,.int .i64 a0_6,.int .i64 a0_7,.int .i64 a0_8,.slice A0_9 l0_9.length c0_9,.slice A0_10 l0_10.length c0_10,.slice A0_11 l0_11.length c0_11],.int .i64 a1,.int .i64 a2] w fun e w'=>e = .returned (.bool r)∧Below w.heap.size w w':=by
 have hu28:=Tryd.underlying28
 have hu50:=Tryd.underlying50
 have hu52:=Tryd.underlying52
 have HG:=Am hG
 have HR9:=Am hr0_9
 have HC9:=Am hc0_9
 have HR10:=Am hr0_10
 have HC10:=Am hc0_10
 have HR11:=Am hr0_11
 have HC11:=Am hc0_11
 have HB:=Am (Below.refl w.heap.size w)
 clear hG hr0_9 hc0_9 hr0_10 hc0_10 hr0_11 hc0_11
 unfold gangerlaw10_ConfTwice.f at h
 replace h:=oB h
 obtain ⟨t,A1',h⟩:=h
 have A1:=Am A1'
 clear A1'
 cases t with
 | true =>
  rw [if_pos rfl] at h
  unfold twK at h
  replace h:=oB h
  obtain ⟨t9,A9',h⟩:=h
  have A9:=Am A9'
  clear A9'
  obtain rfl:=Option.some.inj h
  clear h
  go_enter Tryd.func6,Tryd.ntmps6
  go_wp2_with (first|((with_reducible refine gD (N:=3) rfl ?_);refine box_event ?hg (N:=3) ?hd (cs:=#[.int .i64 a0_0,.int .i64 a0_1,.int .i64 a0_2,.int .i64 a0_3,.int .i64 a0_4,.int .i64 a0_5,.int .i64 a0_6,.int .i64 a0_7,.int .i64 a0_8,.slice A0_9 l0_9.length c0_9,.slice A0_10 l0_10.length c0_10,.slice A0_11 l0_11.length c0_11]) (t:=28) ?hr ?_;(case hd=>rfl);(case hg=>rfl);(case hr=>first|(go_simp;done)|(go_simp;rfl));intro gc hg w1 hbox hb;have GEc : Aside0 (w.heap.size≤gc):=Am (by rw [hg];exact (bZ (by repeat (first|(with_reducible first|exact HB.out|apply bL|apply pN|apply bE)|exact HB.out))));have n0_:=Am (below_step (by repeat (first|(with_reducible first|exact HB.out|apply bL|apply pN|apply bE)|exact HB.out)) hb);clear HB;have HB:=n0_;clear n0_;have KC:=Am hbox;clear hb hbox hg;have zc0 : w1.cell? ⟨gc,0,none⟩ = some (.int .i64 a0_0):=(bC KC.out 0).trans rfl;have zc1 : w1.cell? ⟨gc,1,none⟩ = some (.int .i64 a0_1):=(bC KC.out 1).trans rfl;have zc2 : w1.cell? ⟨gc,2,none⟩ = some (.int .i64 a0_2):=(bC KC.out 2).trans rfl;have zc3 : w1.cell? ⟨gc,3,none⟩ = some (.int .i64 a0_3):=(bC KC.out 3).trans rfl;have zc4 : w1.cell? ⟨gc,4,none⟩ = some (.int .i64 a0_4):=(bC KC.out 4).trans rfl;have zc5 : w1.cell? ⟨gc,5,none⟩ = some (.int .i64 a0_5):=(bC KC.out 5).trans rfl;have zc6 : w1.cell? ⟨gc,6,none⟩ = some (.int .i64 a0_6):=(bC KC.out 6).trans rfl;have zc7 : w1.cell? ⟨gc,7,none⟩ = some (.int .i64 a0_7):=(bC KC.out 7).trans rfl;have zc8 : w1.cell? ⟨gc,8,none⟩ = some (.int .i64 a0_8):=(bC KC.out 8).trans rfl;have zc9 : w1.cell? ⟨gc,9,none⟩ = some (.slice A0_9 l0_9.length c0_9):=(bC KC.out 9).trans rfl;have zc10 : w1.cell? ⟨gc,10,none⟩ = some (.slice A0_10 l0_10.length c0_10):=(bC KC.out 10).trans rfl;have zc11 : w1.cell? ⟨gc,11,none⟩ = some (.slice A0_11 l0_11.length c0_11):=(bC KC.out 11).trans rfl;skip)|(go_at_call 9;(with_reducible refine (gangerlaw10_long.calls k a0_0 a0_1 a0_2 a0_3 a0_4 a0_5 a0_6 a0_7 a0_8 A0_9 c0_9 l0_9 A0_10 c0_10 l0_10 A0_11 c0_11 l0_11 _ _ ?s1 ?s2 ?s3 ?s4 ?s5 ?s6 A1.out).mono ?_);(case s1=>exact Kd.C_below HR9.out (by repeat (first|(with_reducible first|exact HB.out|apply bL|apply pN|apply bE)|exact HB.out)));(case s2=>exact HC9.out);(case s3=>exact Kd.C_below HR10.out (by repeat (first|(with_reducible first|exact HB.out|apply bL|apply pN|apply bE)|exact HB.out)));(case s4=>exact HC10.out);(case s5=>exact Kd.C_below HR11.out (by repeat (first|(with_reducible first|exact HB.out|apply bL|apply pN|apply bE)|exact HB.out)));(case s6=>exact HC11.out);rintro e w2 ⟨rfl,hb⟩;have n0_:=Am (below_step (by repeat (first|(with_reducible first|exact HB.out|apply bL|apply pN|apply bE)|exact HB.out)) hb);have n_KC:=Am (blk_below (g:=gc) (o:=.cells #[.int .i64 a0_0,.int .i64 a0_1,.int .i64 a0_2,.int .i64 a0_3,.int .i64 a0_4,.int .i64 a0_5,.int .i64 a0_6,.int .i64 a0_7,.int .i64 a0_8,.slice A0_9 l0_9.length c0_9,.slice A0_10 l0_10.length c0_10,.slice A0_11 l0_11.length c0_11] 28 (0,0)) (by (with_reducible repeat (first|refine bN ?_ _|refine bD ?_|refine bA ?_ _));exact KC.out) hb);clear HB KC;have HB:=n0_;have KC:=n_KC;clear n0_ n_KC;have zc0 : w2.cell? ⟨gc,0,none⟩ = some (.int .i64 a0_0):=(bC KC.out 0).trans rfl;have zc1 : w2.cell? ⟨gc,1,none⟩ = some (.int .i64 a0_1):=(bC KC.out 1).trans rfl;have zc2 : w2.cell? ⟨gc,2,none⟩ = some (.int .i64 a0_2):=(bC KC.out 2).trans rfl;have zc3 : w2.cell? ⟨gc,3,none⟩ = some (.int .i64 a0_3):=(bC KC.out 3).trans rfl;have zc4 : w2.cell? ⟨gc,4,none⟩ = some (.int .i64 a0_4):=(bC KC.out 4).trans rfl;have zc5 : w2.cell? ⟨gc,5,none⟩ = some (.int .i64 a0_5):=(bC KC.out 5).trans rfl;have zc6 : w2.cell? ⟨gc,6,none⟩ = some (.int .i64 a0_6):=(bC KC.out 6).trans rfl;have zc7 : w2.cell? ⟨gc,7,none⟩ = some (.int .i64 a0_7):=(bC KC.out 7).trans rfl;have zc8 : w2.cell? ⟨gc,8,none⟩ = some (.int .i64 a0_8):=(bC KC.out 8).trans rfl;have zc9 : w2.cell? ⟨gc,9,none⟩ = some (.slice A0_9 l0_9.length c0_9):=(bC KC.out 9).trans rfl;have zc10 : w2.cell? ⟨gc,10,none⟩ = some (.slice A0_10 l0_10.length c0_10):=(bC KC.out 10).trans rfl;have zc11 : w2.cell? ⟨gc,11,none⟩ = some (.slice A0_11 l0_11.length c0_11):=(bC KC.out 11).trans rfl;clear hb)|(go_at_call 10;(with_reducible refine (gangerlaw10_known.calls k _ _ ?s0 A9.out).mono ?_);(case s0=>exact Glob.below HG.out (by repeat (first|(with_reducible first|exact HB.out|apply bL|apply pN|apply bE)|exact HB.out)));rintro e w9 ⟨rfl,hb⟩;have n0_:=Am (below_step (by repeat (first|(with_reducible first|exact HB.out|apply bL|apply pN|apply bE)|exact HB.out)) hb);have n_KC:=Am (blk_below (g:=gc) (o:=.cells #[.int .i64 a0_0,.int .i64 a0_1,.int .i64 a0_2,.int .i64 a0_3,.int .i64 a0_4,.int .i64 a0_5,.int .i64 a0_6,.int .i64 a0_7,.int .i64 a0_8,.slice A0_9 l0_9.length c0_9,.slice A0_10 l0_10.length c0_10,.slice A0_11 l0_11.length c0_11] 28 (0,0)) (by (with_reducible repeat (first|refine bN ?_ _|refine bD ?_|refine bA ?_ _));exact KC.out) hb);clear HB KC;have HB:=n0_;have KC:=n_KC;clear n0_ n_KC;clear hb))
  go_ret
  exact ⟨rfl,by repeat (first|(with_reducible first|exact HB.out|apply bL|apply pN|apply bE)|exact HB.out)⟩
 | false =>
  rw [if_neg (by simp)] at h
  by_cases e11 : l0_11.length = 0
  ·rw [if_pos e11] at h
   have z11 : ((l0_11.length : Int) == 0) = true:=by rw [e11];rfl
   clear e11
   unfold twK at h
   replace h:=oB h
   obtain ⟨t9,A9',h⟩:=h
   have A9:=Am A9'
   clear A9'
   obtain rfl:=Option.some.inj h
   clear h
   go_enter Tryd.func6,Tryd.ntmps6
   go_wp2_with (first|((with_reducible refine gD (N:=3) rfl ?_);refine box_event ?hg (N:=3) ?hd (cs:=#[.int .i64 a0_0,.int .i64 a0_1,.int .i64 a0_2,.int .i64 a0_3,.int .i64 a0_4,.int .i64 a0_5,.int .i64 a0_6,.int .i64 a0_7,.int .i64 a0_8,.slice A0_9 l0_9.length c0_9,.slice A0_10 l0_10.length c0_10,.slice A0_11 l0_11.length c0_11]) (t:=28) ?hr ?_;(case hd=>rfl);(case hg=>rfl);(case hr=>first|(go_simp;done)|(go_simp;rfl));intro gc hg w1 hbox hb;have GEc : Aside0 (w.heap.size≤gc):=Am (by rw [hg];exact (bZ (by repeat (first|(with_reducible first|exact HB.out|apply bL|apply pN|apply bE)|exact HB.out))));have n0_:=Am (below_step (by repeat (first|(with_reducible first|exact HB.out|apply bL|apply pN|apply bE)|exact HB.out)) hb);clear HB;have HB:=n0_;clear n0_;have KC:=Am hbox;clear hb hbox hg;have zc0 : w1.cell? ⟨gc,0,none⟩ = some (.int .i64 a0_0):=(bC KC.out 0).trans rfl;have zc1 : w1.cell? ⟨gc,1,none⟩ = some (.int .i64 a0_1):=(bC KC.out 1).trans rfl;have zc2 : w1.cell? ⟨gc,2,none⟩ = some (.int .i64 a0_2):=(bC KC.out 2).trans rfl;have zc3 : w1.cell? ⟨gc,3,none⟩ = some (.int .i64 a0_3):=(bC KC.out 3).trans rfl;have zc4 : w1.cell? ⟨gc,4,none⟩ = some (.int .i64 a0_4):=(bC KC.out 4).trans rfl;have zc5 : w1.cell? ⟨gc,5,none⟩ = some (.int .i64 a0_5):=(bC KC.out 5).trans rfl;have zc6 : w1.cell? ⟨gc,6,none⟩ = some (.int .i64 a0_6):=(bC KC.out 6).trans rfl;have zc7 : w1.cell? ⟨gc,7,none⟩ = some (.int .i64 a0_7):=(bC KC.out 7).trans rfl;have zc8 : w1.cell? ⟨gc,8,none⟩ = some (.int .i64 a0_8):=(bC KC.out 8).trans rfl;have zc9 : w1.cell? ⟨gc,9,none⟩ = some (.slice A0_9 l0_9.length c0_9):=(bC KC.out 9).trans rfl;have zc10 : w1.cell? ⟨gc,10,none⟩ = some (.slice A0_10 l0_10.length c0_10):=(bC KC.out 10).trans rfl;have zc11 : w1.cell? ⟨gc,11,none⟩ = some (.slice A0_11 l0_11.length c0_11):=(bC KC.out 11).trans rfl;skip)|(go_at_call 9;(with_reducible refine (gangerlaw10_long.calls k a0_0 a0_1 a0_2 a0_3 a0_4 a0_5 a0_6 a0_7 a0_8 A0_9 c0_9 l0_9 A0_10 c0_10 l0_10 A0_11 c0_11 l0_11 _ _ ?s1 ?s2 ?s3 ?s4 ?s5 ?s6 A1.out).mono ?_);(case s1=>exact Kd.C_below HR9.out (by repeat (first|(with_reducible first|exact HB.out|apply bL|apply pN|apply bE)|exact HB.out)));(case s2=>exact HC9.out);(case s3=>exact Kd.C_below HR10.out (by repeat (first|(with_reducible first|exact HB.out|apply bL|apply pN|apply bE)|exact HB.out)));(case s4=>exact HC10.out);(case s5=>exact Kd.C_below HR11.out (by repeat (first|(with_reducible first|exact HB.out|apply bL|apply pN|apply bE)|exact HB.out)));(case s6=>exact HC11.out);rintro e w2 ⟨rfl,hb⟩;have n0_:=Am (below_step (by repeat (first|(with_reducible first|exact HB.out|apply bL|apply pN|apply bE)|exact HB.out)) hb);have n_KC:=Am (blk_below (g:=gc) (o:=.cells #[.int .i64 a0_0,.int .i64 a0_1,.int .i64 a0_2,.int .i64 a0_3,.int .i64 a0_4,.int .i64 a0_5,.int .i64 a0_6,.int .i64 a0_7,.int .i64 a0_8,.slice A0_9 l0_9.length c0_9,.slice A0_10 l0_10.length c0_10,.slice A0_11 l0_11.length c0_11] 28 (0,0)) (by (with_reducible repeat (first|refine bN ?_ _|refine bD ?_|refine bA ?_ _));exact KC.out) hb);clear HB KC;have HB:=n0_;have KC:=n_KC;clear n0_ n_KC;have zc0 : w2.cell? ⟨gc,0,none⟩ = some (.int .i64 a0_0):=(bC KC.out 0).trans rfl;have zc1 : w2.cell? ⟨gc,1,none⟩ = some (.int .i64 a0_1):=(bC KC.out 1).trans rfl;have zc2 : w2.cell? ⟨gc,2,none⟩ = some (.int .i64 a0_2):=(bC KC.out 2).trans rfl;have zc3 : w2.cell? ⟨gc,3,none⟩ = some (.int .i64 a0_3):=(bC KC.out 3).trans rfl;have zc4 : w2.cell? ⟨gc,4,none⟩ = some (.int .i64 a0_4):=(bC KC.out 4).trans rfl;have zc5 : w2.cell? ⟨gc,5,none⟩ = some (.int .i64 a0_5):=(bC KC.out 5).trans rfl;have zc6 : w2.cell? ⟨gc,6,none⟩ = some (.int .i64 a0_6):=(bC KC.out 6).trans rfl;have zc7 : w2.cell? ⟨gc,7,none⟩ = some (.int .i64 a0_7):=(bC KC.out 7).trans rfl;have zc8 : w2.cell? ⟨gc,8,none⟩ = some (.int .i64 a0_8):=(bC KC.out 8).trans rfl;have zc9 : w2.cell? ⟨gc,9,none⟩ = some (.slice A0_9 l0_9.length c0_9):=(bC KC.out 9).trans rfl;have zc10 : w2.cell? ⟨gc,10,none⟩ = some (.slice A0_10 l0_10.length c0_10):=(bC KC.out 10).trans rfl;have zc11 : w2.cell? ⟨gc,11,none⟩ = some (.slice A0_11 l0_11.length c0_11):=(bC KC.out 11).trans rfl;clear hb)|(go_at_call 10;(with_reducible refine (gangerlaw10_known.calls k _ _ ?s0 A9.out).mono ?_);(case s0=>exact Glob.below HG.out (by repeat (first|(with_reducible first|exact HB.out|apply bL|apply pN|apply bE)|exact HB.out)));rintro e w9 ⟨rfl,hb⟩;have n0_:=Am (below_step (by repeat (first|(with_reducible first|exact HB.out|apply bL|apply pN|apply bE)|exact HB.out)) hb);have n_KC:=Am (blk_below (g:=gc) (o:=.cells #[.int .i64 a0_0,.int .i64 a0_1,.int .i64 a0_2,.int .i64 a0_3,.int .i64 a0_4,.int .i64 a0_5,.int .i64 a0_6,.int .i64 a0_7,.int .i64 a0_8,.slice A0_9 l0_9.length c0_9,.slice A0_10 l0_10.length c0_10,.slice A0_11 l0_11.length c0_11] 28 (0,0)) (by (with_reducible repeat (first|refine bN ?_ _|refine bD ?_|refine bA ?_ _));exact KC.out) hb);clear HB KC;have HB:=n0_;have KC:=n_KC;clear n0_ n_KC;clear hb))
   go_ret
   exact ⟨rfl,by repeat (first|(with_reducible first|exact HB.out|apply bL|apply pN|apply bE)|exact HB.out)⟩
  rw [if_neg e11] at h
  have z11 : ((l0_11.length : Int) == 0) = false:=beq_eq_false_iff_ne.2 (by omega)
  by_cases e9 : l0_9.length = 0
  ·rw [if_pos e9] at h
   have z9 : ((l0_9.length : Int) == 0) = true:=by rw [e9];rfl
   clear e9
   unfold twK at h
   replace h:=oB h
   obtain ⟨t9,A9',h⟩:=h
   have A9:=Am A9'
   clear A9'
   obtain rfl:=Option.some.inj h
   clear h
   go_enter Tryd.func6,Tryd.ntmps6
   go_wp2_with (first|((with_reducible refine gD (N:=3) rfl ?_);refine box_event ?hg (N:=3) ?hd (cs:=#[.int .i64 a0_0,.int .i64 a0_1,.int .i64 a0_2,.int .i64 a0_3,.int .i64 a0_4,.int .i64 a0_5,.int .i64 a0_6,.int .i64 a0_7,.int .i64 a0_8,.slice A0_9 l0_9.length c0_9,.slice A0_10 l0_10.length c0_10,.slice A0_11 l0_11.length c0_11]) (t:=28) ?hr ?_;(case hd=>rfl);(case hg=>rfl);(case hr=>first|(go_simp;done)|(go_simp;rfl));intro gc hg w1 hbox hb;have GEc : Aside0 (w.heap.size≤gc):=Am (by rw [hg];exact (bZ (by repeat (first|(with_reducible first|exact HB.out|apply bL|apply pN|apply bE)|exact HB.out))));have n0_:=Am (below_step (by repeat (first|(with_reducible first|exact HB.out|apply bL|apply pN|apply bE)|exact HB.out)) hb);clear HB;have HB:=n0_;clear n0_;have KC:=Am hbox;clear hb hbox hg;have zc0 : w1.cell? ⟨gc,0,none⟩ = some (.int .i64 a0_0):=(bC KC.out 0).trans rfl;have zc1 : w1.cell? ⟨gc,1,none⟩ = some (.int .i64 a0_1):=(bC KC.out 1).trans rfl;have zc2 : w1.cell? ⟨gc,2,none⟩ = some (.int .i64 a0_2):=(bC KC.out 2).trans rfl;have zc3 : w1.cell? ⟨gc,3,none⟩ = some (.int .i64 a0_3):=(bC KC.out 3).trans rfl;have zc4 : w1.cell? ⟨gc,4,none⟩ = some (.int .i64 a0_4):=(bC KC.out 4).trans rfl;have zc5 : w1.cell? ⟨gc,5,none⟩ = some (.int .i64 a0_5):=(bC KC.out 5).trans rfl;have zc6 : w1.cell? ⟨gc,6,none⟩ = some (.int .i64 a0_6):=(bC KC.out 6).trans rfl;have zc7 : w1.cell? ⟨gc,7,none⟩ = some (.int .i64 a0_7):=(bC KC.out 7).trans rfl;have zc8 : w1.cell? ⟨gc,8,none⟩ = some (.int .i64 a0_8):=(bC KC.out 8).trans rfl;have zc9 : w1.cell? ⟨gc,9,none⟩ = some (.slice A0_9 l0_9.length c0_9):=(bC KC.out 9).trans rfl;have zc10 : w1.cell? ⟨gc,10,none⟩ = some (.slice A0_10 l0_10.length c0_10):=(bC KC.out 10).trans rfl;have zc11 : w1.cell? ⟨gc,11,none⟩ = some (.slice A0_11 l0_11.length c0_11):=(bC KC.out 11).trans rfl;skip)|(go_at_call 9;(with_reducible refine (gangerlaw10_long.calls k a0_0 a0_1 a0_2 a0_3 a0_4 a0_5 a0_6 a0_7 a0_8 A0_9 c0_9 l0_9 A0_10 c0_10 l0_10 A0_11 c0_11 l0_11 _ _ ?s1 ?s2 ?s3 ?s4 ?s5 ?s6 A1.out).mono ?_);(case s1=>exact Kd.C_below HR9.out (by repeat (first|(with_reducible first|exact HB.out|apply bL|apply pN|apply bE)|exact HB.out)));(case s2=>exact HC9.out);(case s3=>exact Kd.C_below HR10.out (by repeat (first|(with_reducible first|exact HB.out|apply bL|apply pN|apply bE)|exact HB.out)));(case s4=>exact HC10.out);(case s5=>exact Kd.C_below HR11.out (by repeat (first|(with_reducible first|exact HB.out|apply bL|apply pN|apply bE)|exact HB.out)));(case s6=>exact HC11.out);rintro e w2 ⟨rfl,hb⟩;have n0_:=Am (below_step (by repeat (first|(with_reducible first|exact HB.out|apply bL|apply pN|apply bE)|exact HB.out)) hb);have n_KC:=Am (blk_below (g:=gc) (o:=.cells #[.int .i64 a0_0,.int .i64 a0_1,.int .i64 a0_2,.int .i64 a0_3,.int .i64 a0_4,.int .i64 a0_5,.int .i64 a0_6,.int .i64 a0_7,.int .i64 a0_8,.slice A0_9 l0_9.length c0_9,.slice A0_10 l0_10.length c0_10,.slice A0_11 l0_11.length c0_11] 28 (0,0)) (by (with_reducible repeat (first|refine bN ?_ _|refine bD ?_|refine bA ?_ _));exact KC.out) hb);clear HB KC;have HB:=n0_;have KC:=n_KC;clear n0_ n_KC;have zc0 : w2.cell? ⟨gc,0,none⟩ = some (.int .i64 a0_0):=(bC KC.out 0).trans rfl;have zc1 : w2.cell? ⟨gc,1,none⟩ = some (.int .i64 a0_1):=(bC KC.out 1).trans rfl;have zc2 : w2.cell? ⟨gc,2,none⟩ = some (.int .i64 a0_2):=(bC KC.out 2).trans rfl;have zc3 : w2.cell? ⟨gc,3,none⟩ = some (.int .i64 a0_3):=(bC KC.out 3).trans rfl;have zc4 : w2.cell? ⟨gc,4,none⟩ = some (.int .i64 a0_4):=(bC KC.out 4).trans rfl;have zc5 : w2.cell? ⟨gc,5,none⟩ = some (.int .i64 a0_5):=(bC KC.out 5).trans rfl;have zc6 : w2.cell? ⟨gc,6,none⟩ = some (.int .i64 a0_6):=(bC KC.out 6).trans rfl;have zc7 : w2.cell? ⟨gc,7,none⟩ = some (.int .i64 a0_7):=(bC KC.out 7).trans rfl;have zc8 : w2.cell? ⟨gc,8,none⟩ = some (.int .i64 a0_8):=(bC KC.out 8).trans rfl;have zc9 : w2.cell? ⟨gc,9,none⟩ = some (.slice A0_9 l0_9.length c0_9):=(bC KC.out 9).trans rfl;have zc10 : w2.cell? ⟨gc,10,none⟩ = some (.slice A0_10 l0_10.length c0_10):=(bC KC.out 10).trans rfl;have zc11 : w2.cell? ⟨gc,11,none⟩ = some (.slice A0_11 l0_11.length c0_11):=(bC KC.out 11).trans rfl;clear hb)|(go_at_call 10;(with_reducible refine (gangerlaw10_known.calls k _ _ ?s0 A9.out).mono ?_);(case s0=>exact Glob.below HG.out (by repeat (first|(with_reducible first|exact HB.out|apply bL|apply pN|apply bE)|exact HB.out)));rintro e w9 ⟨rfl,hb⟩;have n0_:=Am (below_step (by repeat (first|(with_reducible first|exact HB.out|apply bL|apply pN|apply bE)|exact HB.out)) hb);have n_KC:=Am (blk_below (g:=gc) (o:=.cells #[.int .i64 a0_0,.int .i64 a0_1,.int .i64 a0_2,.int .i64 a0_3,.int .i64 a0_4,.int .i64 a0_5,.int .i64 a0_6,.int .i64 a0_7,.int .i64 a0_8,.slice A0_9 l0_9.length c0_9,.slice A0_10 l0_10.length c0_10,.slice A0_11 l0_11.length c0_11] 28 (0,0)) (by (with_reducible repeat (first|refine bN ?_ _|refine bD ?_|refine bA ?_ _));exact KC.out) hb);clear HB KC;have HB:=n0_;have KC:=n_KC;clear n0_ n_KC;clear hb))
   go_ret
   exact ⟨rfl,by repeat (first|(with_reducible first|exact HB.out|apply bL|apply pN|apply bE)|exact HB.out)⟩
  rw [if_neg e9] at h
  have z9 : ((l0_9.length : Int) == 0) = false:=beq_eq_false_iff_ne.2 (by omega)
  by_cases e10 : l0_10.length = 0
  ·rw [if_pos e10] at h
   have z10 : ((l0_10.length : Int) == 0) = true:=by rw [e10];rfl
   clear e10
   unfold twK at h
   replace h:=oB h
   obtain ⟨t9,A9',h⟩:=h
   have A9:=Am A9'
   clear A9'
   obtain rfl:=Option.some.inj h
   clear h
   go_enter Tryd.func6,Tryd.ntmps6
   go_wp2_with (first|((with_reducible refine gD (N:=3) rfl ?_);refine box_event ?hg (N:=3) ?hd (cs:=#[.int .i64 a0_0,.int .i64 a0_1,.int .i64 a0_2,.int .i64 a0_3,.int .i64 a0_4,.int .i64 a0_5,.int .i64 a0_6,.int .i64 a0_7,.int .i64 a0_8,.slice A0_9 l0_9.length c0_9,.slice A0_10 l0_10.length c0_10,.slice A0_11 l0_11.length c0_11]) (t:=28) ?hr ?_;(case hd=>rfl);(case hg=>rfl);(case hr=>first|(go_simp;done)|(go_simp;rfl));intro gc hg w1 hbox hb;have GEc : Aside0 (w.heap.size≤gc):=Am (by rw [hg];exact (bZ (by repeat (first|(with_reducible first|exact HB.out|apply bL|apply pN|apply bE)|exact HB.out))));have n0_:=Am (below_step (by repeat (first|(with_reducible first|exact HB.out|apply bL|apply pN|apply bE)|exact HB.out)) hb);clear HB;have HB:=n0_;clear n0_;have KC:=Am hbox;clear hb hbox hg;have zc0 : w1.cell? ⟨gc,0,none⟩ = some (.int .i64 a0_0):=(bC KC.out 0).trans rfl;have zc1 : w1.cell? ⟨gc,1,none⟩ = some (.int .i64 a0_1):=(bC KC.out 1).trans rfl;have zc2 : w1.cell? ⟨gc,2,none⟩ = some (.int .i64 a0_2):=(bC KC.out 2).trans rfl;have zc3 : w1.cell? ⟨gc,3,none⟩ = some (.int .i64 a0_3):=(bC KC.out 3).trans rfl;have zc4 : w1.cell? ⟨gc,4,none⟩ = some (.int .i64 a0_4):=(bC KC.out 4).trans rfl;have zc5 : w1.cell? ⟨gc,5,none⟩ = some (.int .i64 a0_5):=(bC KC.out 5).trans rfl;have zc6 : w1.cell? ⟨gc,6,none⟩ = some (.int .i64 a0_6):=(bC KC.out 6).trans rfl;have zc7 : w1.cell? ⟨gc,7,none⟩ = some (.int .i64 a0_7):=(bC KC.out 7).trans rfl;have zc8 : w1.cell? ⟨gc,8,none⟩ = some (.int .i64 a0_8):=(bC KC.out 8).trans rfl;have zc9 : w1.cell? ⟨gc,9,none⟩ = some (.slice A0_9 l0_9.length c0_9):=(bC KC.out 9).trans rfl;have zc10 : w1.cell? ⟨gc,10,none⟩ = some (.slice A0_10 l0_10.length c0_10):=(bC KC.out 10).trans rfl;have zc11 : w1.cell? ⟨gc,11,none⟩ = some (.slice A0_11 l0_11.length c0_11):=(bC KC.out 11).trans rfl;skip)|(go_at_call 9;(with_reducible refine (gangerlaw10_long.calls k a0_0 a0_1 a0_2 a0_3 a0_4 a0_5 a0_6 a0_7 a0_8 A0_9 c0_9 l0_9 A0_10 c0_10 l0_10 A0_11 c0_11 l0_11 _ _ ?s1 ?s2 ?s3 ?s4 ?s5 ?s6 A1.out).mono ?_);(case s1=>exact Kd.C_below HR9.out (by repeat (first|(with_reducible first|exact HB.out|apply bL|apply pN|apply bE)|exact HB.out)));(case s2=>exact HC9.out);(case s3=>exact Kd.C_below HR10.out (by repeat (first|(with_reducible first|exact HB.out|apply bL|apply pN|apply bE)|exact HB.out)));(case s4=>exact HC10.out);(case s5=>exact Kd.C_below HR11.out (by repeat (first|(with_reducible first|exact HB.out|apply bL|apply pN|apply bE)|exact HB.out)));(case s6=>exact HC11.out);rintro e w2 ⟨rfl,hb⟩;have n0_:=Am (below_step (by repeat (first|(with_reducible first|exact HB.out|apply bL|apply pN|apply bE)|exact HB.out)) hb);have n_KC:=Am (blk_below (g:=gc) (o:=.cells #[.int .i64 a0_0,.int .i64 a0_1,.int .i64 a0_2,.int .i64 a0_3,.int .i64 a0_4,.int .i64 a0_5,.int .i64 a0_6,.int .i64 a0_7,.int .i64 a0_8,.slice A0_9 l0_9.length c0_9,.slice A0_10 l0_10.length c0_10,.slice A0_11 l0_11.length c0_11] 28 (0,0)) (by (with_reducible repeat (first|refine bN ?_ _|refine bD ?_|refine bA ?_ _));exact KC.out) hb);clear HB KC;have HB:=n0_;have KC:=n_KC;clear n0_ n_KC;have zc0 : w2.cell? ⟨gc,0,none⟩ = some (.int .i64 a0_0):=(bC KC.out 0).trans rfl;have zc1 : w2.cell? ⟨gc,1,none⟩ = some (.int .i64 a0_1):=(bC KC.out 1).trans rfl;have zc2 : w2.cell? ⟨gc,2,none⟩ = some (.int .i64 a0_2):=(bC KC.out 2).trans rfl;have zc3 : w2.cell? ⟨gc,3,none⟩ = some (.int .i64 a0_3):=(bC KC.out 3).trans rfl;have zc4 : w2.cell? ⟨gc,4,none⟩ = some (.int .i64 a0_4):=(bC KC.out 4).trans rfl;have zc5 : w2.cell? ⟨gc,5,none⟩ = some (.int .i64 a0_5):=(bC KC.out 5).trans rfl;have zc6 : w2.cell? ⟨gc,6,none⟩ = some (.int .i64 a0_6):=(bC KC.out 6).trans rfl;have zc7 : w2.cell? ⟨gc,7,none⟩ = some (.int .i64 a0_7):=(bC KC.out 7).trans rfl;have zc8 : w2.cell? ⟨gc,8,none⟩ = some (.int .i64 a0_8):=(bC KC.out 8).trans rfl;have zc9 : w2.cell? ⟨gc,9,none⟩ = some (.slice A0_9 l0_9.length c0_9):=(bC KC.out 9).trans rfl;have zc10 : w2.cell? ⟨gc,10,none⟩ = some (.slice A0_10 l0_10.length c0_10):=(bC KC.out 10).trans rfl;have zc11 : w2.cell? ⟨gc,11,none⟩ = some (.slice A0_11 l0_11.length c0_11):=(bC KC.out 11).trans rfl;clear hb)|(go_at_call 10;(with_reducible refine (gangerlaw10_known.calls k _ _ ?s0 A9.out).mono ?_);(case s0=>exact Glob.below HG.out (by repeat (first|(with_reducible first|exact HB.out|apply bL|apply pN|apply bE)|exact HB.out)));rintro e w9 ⟨rfl,hb⟩;have n0_:=Am (below_step (by repeat (first|(with_reducible first|exact HB.out|apply bL|apply pN|apply bE)|exact HB.out)) hb);have n_KC:=Am (blk_below (g:=gc) (o:=.cells #[.int .i64 a0_0,.int .i64 a0_1,.int .i64 a0_2,.int .i64 a0_3,.int .i64 a0_4,.int .i64 a0_5,.int .i64 a0_6,.int .i64 a0_7,.int .i64 a0_8,.slice A0_9 l0_9.length c0_9,.slice A0_10 l0_10.length c0_10,.slice A0_11 l0_11.length c0_11] 28 (0,0)) (by (with_reducible repeat (first|refine bN ?_ _|refine bD ?_|refine bA ?_ _));exact KC.out) hb);clear HB KC;have HB:=n0_;have KC:=n_KC;clear n0_ n_KC;clear hb))
   go_ret
   exact ⟨rfl,by repeat (first|(with_reducible first|exact HB.out|apply bL|apply pN|apply bE)|exact HB.out)⟩
  rw [if_neg e10] at h
  have z10 : ((l0_10.length : Int) == 0) = false:=beq_eq_false_iff_ne.2 (by omega)
  replace h:=oB h
  obtain ⟨e,A2',h⟩:=h
  have A2:=Am A2'
  clear A2'
  by_cases e0 : e = 0
  case neg =>
   rw [if_neg e0] at h
   have z0 : (e != 0) = true:=bne_iff_ne.2 e0
   clear e0
   unfold twK at h
   replace h:=oB h
   obtain ⟨t9,A9',h⟩:=h
   have A9:=Am A9'
   clear A9'
   obtain rfl:=Option.some.inj h
   clear h
   go_enter Tryd.func6,Tryd.ntmps6
   go_wp2_with (first|((with_reducible refine gD (N:=3) rfl ?_);refine box_event ?hg (N:=3) ?hd (cs:=#[.int .i64 a0_0,.int .i64 a0_1,.int .i64 a0_2,.int .i64 a0_3,.int .i64 a0_4,.int .i64 a0_5,.int .i64 a0_6,.int .i64 a0_7,.int .i64 a0_8,.slice A0_9 l0_9.length c0_9,.slice A0_10 l0_10.length c0_10,.slice A0_11 l0_11.length c0_11]) (t:=28) ?hr ?_;(case hd=>rfl);(case hg=>rfl);(case hr=>first|(go_simp;done)|(go_simp;rfl));intro gc hg w1 hbox hb;have GEc : Aside0 (w.heap.size≤gc):=Am (by rw [hg];exact (bZ (by repeat (first|(with_reducible first|exact HB.out|apply bL|apply pN|apply bE)|exact HB.out))));have n0_:=Am (below_step (by repeat (first|(with_reducible first|exact HB.out|apply bL|apply pN|apply bE)|exact HB.out)) hb);clear HB;have HB:=n0_;clear n0_;have KC:=Am hbox;clear hb hbox hg;have zc0 : w1.cell? ⟨gc,0,none⟩ = some (.int .i64 a0_0):=(bC KC.out 0).trans rfl;have zc1 : w1.cell? ⟨gc,1,none⟩ = some (.int .i64 a0_1):=(bC KC.out 1).trans rfl;have zc2 : w1.cell? ⟨gc,2,none⟩ = some (.int .i64 a0_2):=(bC KC.out 2).trans rfl;have zc3 : w1.cell? ⟨gc,3,none⟩ = some (.int .i64 a0_3):=(bC KC.out 3).trans rfl;have zc4 : w1.cell? ⟨gc,4,none⟩ = some (.int .i64 a0_4):=(bC KC.out 4).trans rfl;have zc5 : w1.cell? ⟨gc,5,none⟩ = some (.int .i64 a0_5):=(bC KC.out 5).trans rfl;have zc6 : w1.cell? ⟨gc,6,none⟩ = some (.int .i64 a0_6):=(bC KC.out 6).trans rfl;have zc7 : w1.cell? ⟨gc,7,none⟩ = some (.int .i64 a0_7):=(bC KC.out 7).trans rfl;have zc8 : w1.cell? ⟨gc,8,none⟩ = some (.int .i64 a0_8):=(bC KC.out 8).trans rfl;have zc9 : w1.cell? ⟨gc,9,none⟩ = some (.slice A0_9 l0_9.length c0_9):=(bC KC.out 9).trans rfl;have zc10 : w1.cell? ⟨gc,10,none⟩ = some (.slice A0_10 l0_10.length c0_10):=(bC KC.out 10).trans rfl;have zc11 : w1.cell? ⟨gc,11,none⟩ = some (.slice A0_11 l0_11.length c0_11):=(bC KC.out 11).trans rfl;skip)|(go_at_call 9;(with_reducible refine (gangerlaw10_long.calls k a0_0 a0_1 a0_2 a0_3 a0_4 a0_5 a0_6 a0_7 a0_8 A0_9 c0_9 l0_9 A0_10 c0_10 l0_10 A0_11 c0_11 l0_11 _ _ ?s1 ?s2 ?s3 ?s4 ?s5 ?s6 A1.out).mono ?_);(case s1=>exact Kd.C_below HR9.out (by repeat (first|(with_reducible first|exact HB.out|apply bL|apply pN|apply bE)|exact HB.out)));(case s2=>exact HC9.out);(case s3=>exact Kd.C_below HR10.out (by repeat (first|(with_reducible first|exact HB.out|apply bL|apply pN|apply bE)|exact HB.out)));(case s4=>exact HC10.out);(case s5=>exact Kd.C_below HR11.out (by repeat (first|(with_reducible first|exact HB.out|apply bL|apply pN|apply bE)|exact HB.out)));(case s6=>exact HC11.out);rintro e w2 ⟨rfl,hb⟩;have n0_:=Am (below_step (by repeat (first|(with_reducible first|exact HB.out|apply bL|apply pN|apply bE)|exact HB.out)) hb);have n_KC:=Am (blk_below (g:=gc) (o:=.cells #[.int .i64 a0_0,.int .i64 a0_1,.int .i64 a0_2,.int .i64 a0_3,.int .i64 a0_4,.int .i64 a0_5,.int .i64 a0_6,.int .i64 a0_7,.int .i64 a0_8,.slice A0_9 l0_9.length c0_9,.slice A0_10 l0_10.length c0_10,.slice A0_11 l0_11.length c0_11] 28 (0,0)) (by (with_reducible repeat (first|refine bN ?_ _|refine bD ?_|refine bA ?_ _));exact KC.out) hb);clear HB KC;have HB:=n0_;have KC:=n_KC;clear n0_ n_KC;have zc0 : w2.cell? ⟨gc,0,none⟩ = some (.int .i64 a0_0):=(bC KC.out 0).trans rfl;have zc1 : w2.cell? ⟨gc,1,none⟩ = some (.int .i64 a0_1):=(bC KC.out 1).trans rfl;have zc2 : w2.cell? ⟨gc,2,none⟩ = some (.int .i64 a0_2):=(bC KC.out 2).trans rfl;have zc3 : w2.cell? ⟨gc,3,none⟩ = some (.int .i64 a0_3):=(bC KC.out 3).trans rfl;have zc4 : w2.cell? ⟨gc,4,none⟩ = some (.int .i64 a0_4):=(bC KC.out 4).trans rfl;have zc5 : w2.cell? ⟨gc,5,none⟩ = some (.int .i64 a0_5):=(bC KC.out 5).trans rfl;have zc6 : w2.cell? ⟨gc,6,none⟩ = some (.int .i64 a0_6):=(bC KC.out 6).trans rfl;have zc7 : w2.cell? ⟨gc,7,none⟩ = some (.int .i64 a0_7):=(bC KC.out 7).trans rfl;have zc8 : w2.cell? ⟨gc,8,none⟩ = some (.int .i64 a0_8):=(bC KC.out 8).trans rfl;have zc9 : w2.cell? ⟨gc,9,none⟩ = some (.slice A0_9 l0_9.length c0_9):=(bC KC.out 9).trans rfl;have zc10 : w2.cell? ⟨gc,10,none⟩ = some (.slice A0_10 l0_10.length c0_10):=(bC KC.out 10).trans rfl;have zc11 : w2.cell? ⟨gc,11,none⟩ = some (.slice A0_11 l0_11.length c0_11):=(bC KC.out 11).trans rfl;clear hb)|(go_at_call 12;(with_reducible refine (conf_Check.calls k a0_0 a0_1 a0_2 a0_3 a0_4 a0_5 a0_6 a0_7 a0_8 A0_9 c0_9 l0_9 A0_10 c0_10 l0_10 A0_11 c0_11 l0_11 _ _ ?s0 ?s1 ?s2 ?s3 ?s4 ?s5 ?s6 A2.out).mono ?_);(case s0=>exact Glob.below HG.out (by repeat (first|(with_reducible first|exact HB.out|apply bL|apply pN|apply bE)|exact HB.out)));(case s1=>exact Kd.C_below HR9.out (by repeat (first|(with_reducible first|exact HB.out|apply bL|apply pN|apply bE)|exact HB.out)));(case s2=>exact HC9.out);(case s3=>exact Kd.C_below HR10.out (by repeat (first|(with_reducible first|exact HB.out|apply bL|apply pN|apply bE)|exact HB.out)));(case s4=>exact HC10.out);(case s5=>exact Kd.C_below HR11.out (by repeat (first|(with_reducible first|exact HB.out|apply bL|apply pN|apply bE)|exact HB.out)));(case s6=>exact HC11.out);rintro e w3 ⟨rfl,hb⟩;have n0_:=Am (below_step (by repeat (first|(with_reducible first|exact HB.out|apply bL|apply pN|apply bE)|exact HB.out)) hb);have n_KC:=Am (blk_below (g:=gc) (o:=.cells #[.int .i64 a0_0,.int .i64 a0_1,.int .i64 a0_2,.int .i64 a0_3,.int .i64 a0_4,.int .i64 a0_5,.int .i64 a0_6,.int .i64 a0_7,.int .i64 a0_8,.slice A0_9 l0_9.length c0_9,.slice A0_10 l0_10.length c0_10,.slice A0_11 l0_11.length c0_11] 28 (0,0)) (by (with_reducible repeat (first|refine bN ?_ _|refine bD ?_|refine bA ?_ _));exact KC.out) hb);clear HB KC;have HB:=n0_;have KC:=n_KC;clear n0_ n_KC;clear hb)|(go_at_call 10;(with_reducible refine (gangerlaw10_known.calls k _ _ ?s0 A9.out).mono ?_);(case s0=>exact Glob.below HG.out (by repeat (first|(with_reducible first|exact HB.out|apply bL|apply pN|apply bE)|exact HB.out)));rintro e w9 ⟨rfl,hb⟩;have n0_:=Am (below_step (by repeat (first|(with_reducible first|exact HB.out|apply bL|apply pN|apply bE)|exact HB.out)) hb);have n_KC:=Am (blk_below (g:=gc) (o:=.cells #[.int .i64 a0_0,.int .i64 a0_1,.int .i64 a0_2,.int .i64 a0_3,.int .i64 a0_4,.int .i64 a0_5,.int .i64 a0_6,.int .i64 a0_7,.int .i64 a0_8,.slice A0_9 l0_9.length c0_9,.slice A0_10 l0_10.length c0_10,.slice A0_11 l0_11.length c0_11] 28 (0,0)) (by (with_reducible repeat (first|refine bN ?_ _|refine bD ?_|refine bA ?_ _));exact KC.out) hb);clear HB KC;have HB:=n0_;have KC:=n_KC;clear n0_ n_KC;clear hb))
   go_ret
   exact ⟨rfl,by repeat (first|(with_reducible first|exact HB.out|apply bL|apply pN|apply bE)|exact HB.out)⟩
  subst e0
  rw [if_pos rfl] at h
  by_cases sm : l0_9.length≤1000000∧l0_10.length≤1000000∧l0_11.length≤1000000
  case neg=>rw [if_neg sm] at h;cases h
  rw [if_pos sm] at h
  obtain ⟨s9,s10,s11⟩:=sm
  obtain ⟨hi0,hi1⟩:=idx2_in a1 l0_11.length ⟨by omega,s11⟩
  obtain ⟨hj0,hj1⟩:=idx2_in a2 l0_11.length ⟨by omega,s11⟩
  obtain ⟨hu0,hu1⟩:=idx2_in a1 l0_9.length ⟨by omega,s9⟩
  obtain ⟨hv0,hv1⟩:=idx2_in a2 l0_10.length ⟨by omega,s10⟩
  have n11 : ¬ (IntKind.u64.wrap (l0_11.length : Int)) = 0:=by rw [IntKind.wrap_u64];omega
  have n9 : ¬ (IntKind.u64.wrap (l0_9.length : Int)) = 0:=by rw [IntKind.wrap_u64];omega
  have n10 : ¬ (IntKind.u64.wrap (l0_10.length : Int)) = 0:=by rw [IntKind.wrap_u64];omega
  have hI : wrap64 (Int.tmod (IntKind.u64.wrap a1) (IntKind.u64.wrap (l0_11.length : Int))) = idx2 a1 l0_11.length:=rfl
  have hJ : wrap64 (Int.tmod (IntKind.u64.wrap a2) (IntKind.u64.wrap (l0_11.length : Int))) = idx2 a2 l0_11.length:=rfl
  have hU : wrap64 (Int.tmod (IntKind.u64.wrap a1) (IntKind.u64.wrap (l0_9.length : Int))) = idx2 a1 l0_9.length:=rfl
  have hV : wrap64 (Int.tmod (IntKind.u64.wrap a2) (IntKind.u64.wrap (l0_10.length : Int))) = idx2 a2 l0_10.length:=rfl
  generalize idx2 a1 l0_11.length = i at *
  generalize idx2 a2 l0_11.length = j at *
  generalize idx2 a1 l0_9.length = u at *
  generalize idx2 a2 l0_10.length = v at *
  have hIw : IntKind.i64.wrap (Int.tmod (IntKind.u64.wrap a1) (IntKind.u64.wrap (l0_11.length : Int))) = i:=by rw [iW];exact hI
  have hJw : IntKind.i64.wrap (Int.tmod (IntKind.u64.wrap a2) (IntKind.u64.wrap (l0_11.length : Int))) = j:=by rw [iW];exact hJ
  have hUw : IntKind.i64.wrap (Int.tmod (IntKind.u64.wrap a1) (IntKind.u64.wrap (l0_9.length : Int))) = u:=by rw [iW];exact hU
  have hVw : IntKind.i64.wrap (Int.tmod (IntKind.u64.wrap a2) (IntKind.u64.wrap (l0_10.length : Int))) = v:=by rw [iW];exact hV
  have w9 : IntKind.u64.wrap (l0_9.length : Int) = (l0_9.length : Int):=by rw [IntKind.wrap_u64];omega
  have w10 : IntKind.u64.wrap (l0_10.length : Int) = (l0_10.length : Int):=by rw [IntKind.wrap_u64];omega
  have w11 : IntKind.u64.wrap (l0_11.length : Int) = (l0_11.length : Int):=by rw [IntKind.wrap_u64];omega
  have hI2 : wrap64 (Int.tmod (IntKind.u64.wrap a1) (l0_11.length : Int)) = i:=by have q_:=hI;rw [w11] at q_;exact q_
  have hIw2 : IntKind.i64.wrap (Int.tmod (IntKind.u64.wrap a1) (l0_11.length : Int)) = i:=by rw [iW];exact hI2
  have hJ2 : wrap64 (Int.tmod (IntKind.u64.wrap a2) (l0_11.length : Int)) = j:=by have q_:=hJ;rw [w11] at q_;exact q_
  have hJw2 : IntKind.i64.wrap (Int.tmod (IntKind.u64.wrap a2) (l0_11.length : Int)) = j:=by rw [iW];exact hJ2
  have hU2 : wrap64 (Int.tmod (IntKind.u64.wrap a1) (l0_9.length : Int)) = u:=by have q_:=hU;rw [w9] at q_;exact q_
  have hUw2 : IntKind.i64.wrap (Int.tmod (IntKind.u64.wrap a1) (l0_9.length : Int)) = u:=by rw [iW];exact hU2
  have hV2 : wrap64 (Int.tmod (IntKind.u64.wrap a2) (l0_10.length : Int)) = v:=by have q_:=hV;rw [w10] at q_;exact q_
  have hVw2 : IntKind.i64.wrap (Int.tmod (IntKind.u64.wrap a2) (l0_10.length : Int)) = v:=by rw [iW];exact hV2
  obtain ⟨m,hm⟩ : ∃ m,mx i j = m:=⟨_,rfl⟩
  have hM2 : (if i < j then j else i) = m:=by rw [← hm];unfold mx;first|rfl|(split <;> split <;> omega)
  have hm0 : 0≤m:=by rw [← hm];unfold mx;split <;> omega
  have hm1 : m < (l0_11.length : Int):=by rw [← hm];unfold mx;split <;> omega
  rw [hm] at h
  unfold twT at h
  replace h:=oB h
  obtain ⟨c1,C1,h⟩:=h
  replace h:=oB h
  obtain ⟨c2,C2,h⟩:=h
  replace h:=oB h
  obtain ⟨c3,C3,h⟩:=h
  replace h:=oB h
  obtain ⟨c4,C4,h⟩:=h
  replace h:=oB h
  obtain ⟨c5,C5,h⟩:=h
  obtain ⟨XN,hXN⟩ : ∃ l_,l_ = (l0_11.set i.toNat (⟨(rd_T48 l0_11 j).f0,(rd_T48 l0_11 i).f1,(rd_T48 l0_11 i).f2⟩ : S48)):=⟨_,rfl⟩
  obtain ⟨YN,hYN⟩ : ∃ l_,l_ = (l0_11.set i.toNat (⟨(rd_T48 l0_11 i).f0,(rd_T48 l0_11 m).f0,(rd_T48 l0_11 i).f2⟩ : S48)):=⟨_,rfl⟩
  obtain ⟨ZN,hZN⟩ : ∃ l_,l_ = (l0_11.set i.toNat (⟨(rd_T48 l0_11 i).f0,(⟨#[]⟩ : ByteArray),(rd_T48 l0_11 i).f2⟩ : S48)):=⟨_,rfl⟩
  obtain ⟨PN,hPN⟩ : ∃ l_,l_ = (l0_9 ++ [(⟨(rd_T50 l0_9 u).f0,(rd_T50 l0_9 u).f1,(rd_T50 l0_9 u).f2,(rd_T50 l0_9 u).f3⟩ : S50)]):=⟨_,rfl⟩
  obtain ⟨QN,hQN⟩ : ∃ l_,l_ = (l0_10 ++ [(⟨(rd_T52 l0_10 v).f0,(rd_T52 l0_10 v).f1,(rd_T52 l0_10 v).f2⟩ : S52)]):=⟨_,rfl⟩
  rw [← hXN] at C1
  rw [← hYN] at C2
  rw [← hZN] at C3
  rw [← hPN] at C4
  rw [← hQN] at C5
  have HXN:=Am hXN
  clear hXN
  have HYN:=Am hYN
  clear hYN
  have HZN:=Am hZN
  clear hZN
  have HPN:=Am hPN
  clear hPN
  have HQN:=Am hQN
  clear hQN
  by_cases all : c1 = 100∧c2 = 100∧c3 = 100∧c4 = 100∧c5 = 100
  case neg=>rw [if_neg all] at h;cases h
  rw [if_pos all] at h
  obtain ⟨rfl,rfl,rfl,rfl,rfl⟩:=all
  have C1:=Am C1
  have C2:=Am C2
  have C3:=Am C3
  have C4:=Am C4
  have C5:=Am C5
  have hCopy : gangerref10_Copy.f a0_0 a0_1 a0_2 a0_3 a0_4 a0_5 a0_6 a0_7 a0_8 l0_9 l0_10 l0_11 = some (a0_0,a0_1,a0_2,a0_3,a0_4,a0_5,a0_6,a0_7,a0_8,l0_9,l0_10,l0_11):=by
   unfold gangerref10_Copy.f
   rw [if_pos (by simp;omega),if_pos (by simp;omega),if_pos (by simp;omega)]
   rfl
  obtain ⟨adA,eA,ej0,_,_⟩:=at_T48 HR11.out j hj0 hj1
  cases eA
  have em0 : w.cell? (adA.add (m.toNat * 3)) = some (.string (rd_T48 l0_11 m).f0):=by
   obtain ⟨ad2,e2,q,_,_⟩:=at_T48 HR11.out m hm0 hm1
   cases e2
   exact q
  unfold twK at h
  replace h:=oB h
  obtain ⟨t9,A9',h⟩:=h
  have A9:=Am A9'
  clear A9'
  obtain rfl:=Option.some.inj h
  clear h
  go_enter Tryd.func6,Tryd.ntmps6
  go_wp2_with (first|((with_reducible refine gD (N:=3) rfl ?_);refine box_event ?hg (N:=3) ?hd (cs:=#[.int .i64 a0_0,.int .i64 a0_1,.int .i64 a0_2,.int .i64 a0_3,.int .i64 a0_4,.int .i64 a0_5,.int .i64 a0_6,.int .i64 a0_7,.int .i64 a0_8,.slice A0_9 l0_9.length c0_9,.slice A0_10 l0_10.length c0_10,.slice (some adA) l0_11.length c0_11]) (t:=28) ?hr ?_;(case hd=>rfl);(case hg=>rfl);(case hr=>first|(go_simp;done)|(go_simp;rfl));intro gc hg w1 hbox hb;have GEc : Aside0 (w.heap.size≤gc):=Am (by rw [hg];exact (bZ (by repeat (first|(with_reducible first|exact HB.out|apply bL|apply pN|apply bE)|exact HB.out))));have n0_:=Am (below_step (by repeat (first|(with_reducible first|exact HB.out|apply bL|apply pN|apply bE)|exact HB.out)) hb);clear HB;have HB:=n0_;clear n0_;have KC:=Am hbox;clear hb hbox hg;have zc0 : w1.cell? ⟨gc,0,none⟩ = some (.int .i64 a0_0):=(bC KC.out 0).trans rfl;have zc1 : w1.cell? ⟨gc,1,none⟩ = some (.int .i64 a0_1):=(bC KC.out 1).trans rfl;have zc2 : w1.cell? ⟨gc,2,none⟩ = some (.int .i64 a0_2):=(bC KC.out 2).trans rfl;have zc3 : w1.cell? ⟨gc,3,none⟩ = some (.int .i64 a0_3):=(bC KC.out 3).trans rfl;have zc4 : w1.cell? ⟨gc,4,none⟩ = some (.int .i64 a0_4):=(bC KC.out 4).trans rfl;have zc5 : w1.cell? ⟨gc,5,none⟩ = some (.int .i64 a0_5):=(bC KC.out 5).trans rfl;have zc6 : w1.cell? ⟨gc,6,none⟩ = some (.int .i64 a0_6):=(bC KC.out 6).trans rfl;have zc7 : w1.cell? ⟨gc,7,none⟩ = some (.int .i64 a0_7):=(bC KC.out 7).trans rfl;have zc8 : w1.cell? ⟨gc,8,none⟩ = some (.int .i64 a0_8):=(bC KC.out 8).trans rfl;have zc9 : w1.cell? ⟨gc,9,none⟩ = some (.slice A0_9 l0_9.length c0_9):=(bC KC.out 9).trans rfl;have zc10 : w1.cell? ⟨gc,10,none⟩ = some (.slice A0_10 l0_10.length c0_10):=(bC KC.out 10).trans rfl;have zc11 : w1.cell? ⟨gc,11,none⟩ = some (.slice (some adA) l0_11.length c0_11):=(bC KC.out 11).trans rfl;skip)|(go_at_call 9;(with_reducible refine (gangerlaw10_long.calls k a0_0 a0_1 a0_2 a0_3 a0_4 a0_5 a0_6 a0_7 a0_8 A0_9 c0_9 l0_9 A0_10 c0_10 l0_10 (some adA) c0_11 l0_11 _ _ ?s1 ?s2 ?s3 ?s4 ?s5 ?s6 A1.out).mono ?_);(case s1=>exact Kd.C_below HR9.out (by repeat (first|(with_reducible first|exact HB.out|apply bL|apply pN|apply bE)|exact HB.out)));(case s2=>exact HC9.out);(case s3=>exact Kd.C_below HR10.out (by repeat (first|(with_reducible first|exact HB.out|apply bL|apply pN|apply bE)|exact HB.out)));(case s4=>exact HC10.out);(case s5=>exact Kd.C_below HR11.out (by repeat (first|(with_reducible first|exact HB.out|apply bL|apply pN|apply bE)|exact HB.out)));(case s6=>exact HC11.out);rintro e w2 ⟨rfl,hb⟩;have n0_:=Am (below_step (by repeat (first|(with_reducible first|exact HB.out|apply bL|apply pN|apply bE)|exact HB.out)) hb);have n_KC:=Am (blk_below (g:=gc) (o:=.cells #[.int .i64 a0_0,.int .i64 a0_1,.int .i64 a0_2,.int .i64 a0_3,.int .i64 a0_4,.int .i64 a0_5,.int .i64 a0_6,.int .i64 a0_7,.int .i64 a0_8,.slice A0_9 l0_9.length c0_9,.slice A0_10 l0_10.length c0_10,.slice (some adA) l0_11.length c0_11] 28 (0,0)) (by (with_reducible repeat (first|refine bN ?_ _|refine bD ?_|refine bA ?_ _));exact KC.out) hb);clear HB KC;have HB:=n0_;have KC:=n_KC;clear n0_ n_KC;have zc0 : w2.cell? ⟨gc,0,none⟩ = some (.int .i64 a0_0):=(bC KC.out 0).trans rfl;have zc1 : w2.cell? ⟨gc,1,none⟩ = some (.int .i64 a0_1):=(bC KC.out 1).trans rfl;have zc2 : w2.cell? ⟨gc,2,none⟩ = some (.int .i64 a0_2):=(bC KC.out 2).trans rfl;have zc3 : w2.cell? ⟨gc,3,none⟩ = some (.int .i64 a0_3):=(bC KC.out 3).trans rfl;have zc4 : w2.cell? ⟨gc,4,none⟩ = some (.int .i64 a0_4):=(bC KC.out 4).trans rfl;have zc5 : w2.cell? ⟨gc,5,none⟩ = some (.int .i64 a0_5):=(bC KC.out 5).trans rfl;have zc6 : w2.cell? ⟨gc,6,none⟩ = some (.int .i64 a0_6):=(bC KC.out 6).trans rfl;have zc7 : w2.cell? ⟨gc,7,none⟩ = some (.int .i64 a0_7):=(bC KC.out 7).trans rfl;have zc8 : w2.cell? ⟨gc,8,none⟩ = some (.int .i64 a0_8):=(bC KC.out 8).trans rfl;have zc9 : w2.cell? ⟨gc,9,none⟩ = some (.slice A0_9 l0_9.length c0_9):=(bC KC.out 9).trans rfl;have zc10 : w2.cell? ⟨gc,10,none⟩ = some (.slice A0_10 l0_10.length c0_10):=(bC KC.out 10).trans rfl;have zc11 : w2.cell? ⟨gc,11,none⟩ = some (.slice (some adA) l0_11.length c0_11):=(bC KC.out 11).trans rfl;clear hb)|(go_at_call 12;(with_reducible refine (conf_Check.calls k a0_0 a0_1 a0_2 a0_3 a0_4 a0_5 a0_6 a0_7 a0_8 A0_9 c0_9 l0_9 A0_10 c0_10 l0_10 (some adA) c0_11 l0_11 _ _ ?s0 ?s1 ?s2 ?s3 ?s4 ?s5 ?s6 A2.out).mono ?_);(case s0=>exact Glob.below HG.out (by repeat (first|(with_reducible first|exact HB.out|apply bL|apply pN|apply bE)|exact HB.out)));(case s1=>exact Kd.C_below HR9.out (by repeat (first|(with_reducible first|exact HB.out|apply bL|apply pN|apply bE)|exact HB.out)));(case s2=>exact HC9.out);(case s3=>exact Kd.C_below HR10.out (by repeat (first|(with_reducible first|exact HB.out|apply bL|apply pN|apply bE)|exact HB.out)));(case s4=>exact HC10.out);(case s5=>exact Kd.C_below HR11.out (by repeat (first|(with_reducible first|exact HB.out|apply bL|apply pN|apply bE)|exact HB.out)));(case s6=>exact HC11.out);rintro e w3 ⟨rfl,hb⟩;have n0_:=Am (below_step (by repeat (first|(with_reducible first|exact HB.out|apply bL|apply pN|apply bE)|exact HB.out)) hb);have n_KC:=Am (blk_below (g:=gc) (o:=.cells #[.int .i64 a0_0,.int .i64 a0_1,.int .i64 a0_2,.int .i64 a0_3,.int .i64 a0_4,.int .i64 a0_5,.int .i64 a0_6,.int .i64 a0_7,.int .i64 a0_8,.slice A0_9 l0_9.length c0_9,.slice A0_10 l0_10.length c0_10,.slice (some adA) l0_11.length c0_11] 28 (0,0)) (by (with_reducible repeat (first|refine bN ?_ _|refine bD ?_|refine bA ?_ _));exact KC.out) hb);clear HB KC;have HB:=n0_;have KC:=n_KC;clear n0_ n_KC;have zc0 : w3.cell? ⟨gc,0,none⟩ = some (.int .i64 a0_0):=(bC KC.out 0).trans rfl;have zc1 : w3.cell? ⟨gc,1,none⟩ = some (.int .i64 a0_1):=(bC KC.out 1).trans rfl;have zc2 : w3.cell? ⟨gc,2,none⟩ = some (.int .i64 a0_2):=(bC KC.out 2).trans rfl;have zc3 : w3.cell? ⟨gc,3,none⟩ = some (.int .i64 a0_3):=(bC KC.out 3).trans rfl;have zc4 : w3.cell? ⟨gc,4,none⟩ = some (.int .i64 a0_4):=(bC KC.out 4).trans rfl;have zc5 : w3.cell? ⟨gc,5,none⟩ = some (.int .i64 a0_5):=(bC KC.out 5).trans rfl;have zc6 : w3.cell? ⟨gc,6,none⟩ = some (.int .i64 a0_6):=(bC KC.out 6).trans rfl;have zc7 : w3.cell? ⟨gc,7,none⟩ = some (.int .i64 a0_7):=(bC KC.out 7).trans rfl;have zc8 : w3.cell? ⟨gc,8,none⟩ = some (.int .i64 a0_8):=(bC KC.out 8).trans rfl;have zc9 : w3.cell? ⟨gc,9,none⟩ = some (.slice A0_9 l0_9.length c0_9):=(bC KC.out 9).trans rfl;have zc10 : w3.cell? ⟨gc,10,none⟩ = some (.slice A0_10 l0_10.length c0_10):=(bC KC.out 10).trans rfl;have zc11 : w3.cell? ⟨gc,11,none⟩ = some (.slice (some adA) l0_11.length c0_11):=(bC KC.out 11).trans rfl;clear hb)|(go_at_call 11;(with_reducible refine (gangerref10_Copy.calls a0_0 a0_1 a0_2 a0_3 a0_4 a0_5 a0_6 a0_7 a0_8 A0_9 c0_9 l0_9 A0_10 c0_10 l0_10 (some adA) c0_11 l0_11 a0_0 a0_1 a0_2 a0_3 a0_4 a0_5 a0_6 a0_7 a0_8 l0_9 l0_10 l0_11 _ ?s1 ?s2 ?s3 ?s4 ?s5 ?s6 hCopy).mono ?_);(case s1=>exact Kd.C_below HR9.out (by repeat (first|(with_reducible first|exact HB.out|apply bL|apply pN|apply bE)|exact HB.out)));(case s2=>exact HC9.out);(case s3=>exact Kd.C_below HR10.out (by repeat (first|(with_reducible first|exact HB.out|apply bL|apply pN|apply bE)|exact HB.out)));(case s4=>exact HC10.out);(case s5=>exact Kd.C_below HR11.out (by repeat (first|(with_reducible first|exact HB.out|apply bL|apply pN|apply bE)|exact HB.out)));(case s6=>exact HC11.out);rintro e w4 ⟨v9,v10,v11,rfl,q9,q10,q11,hb⟩;obtain ⟨Ax9,cx9,rfl⟩:=Kd.R_slice q9;obtain ⟨Ax10,cx10,rfl⟩:=Kd.R_slice q10;obtain ⟨Ax11,cx11,rfl⟩:=Kd.R_slice q11;have QL : Aside0 (∃ lo,(gc + 1)≤lo∧w.heap.size≤lo∧lo≤w4.heap.size∧Kd.R k50 50 w4 lo (fun _=>True) (.slice Ax9 l0_9.length cx9) l0_9∧Kd.R k52 52 w4 lo (fun _=>True) (.slice Ax10 l0_10.length cx10) l0_10∧Kd.R k48 48 w4 lo (fun _=>True) (.slice Ax11 l0_11.length cx11) l0_11):=⟨⟨_,blk_lt (o:=.cells #[.int .i64 a0_0,.int .i64 a0_1,.int .i64 a0_2,.int .i64 a0_3,.int .i64 a0_4,.int .i64 a0_5,.int .i64 a0_6,.int .i64 a0_7,.int .i64 a0_8,.slice A0_9 l0_9.length c0_9,.slice A0_10 l0_10.length c0_10,.slice (some adA) l0_11.length c0_11] 28 (0,0)) (by (with_reducible repeat (first|refine bN ?_ _|refine bD ?_|refine bA ?_ _));exact KC.out),bZ (by repeat (first|(with_reducible first|exact HB.out|apply bL|apply pN|apply bE)|exact HB.out)),hb.size,q9,q10,q11⟩⟩;clear q9 q10 q11;have n0_:=Am (below_step (by repeat (first|(with_reducible first|exact HB.out|apply bL|apply pN|apply bE)|exact HB.out)) hb);have n_KC:=Am (blk_below (g:=gc) (o:=.cells #[.int .i64 a0_0,.int .i64 a0_1,.int .i64 a0_2,.int .i64 a0_3,.int .i64 a0_4,.int .i64 a0_5,.int .i64 a0_6,.int .i64 a0_7,.int .i64 a0_8,.slice A0_9 l0_9.length c0_9,.slice A0_10 l0_10.length c0_10,.slice (some adA) l0_11.length c0_11] 28 (0,0)) (by (with_reducible repeat (first|refine bN ?_ _|refine bD ?_|refine bA ?_ _));exact KC.out) hb);clear HB KC;have HB:=n0_;have KC:=n_KC;clear n0_ n_KC;have zc9 : (w4.alloc (.cells #[.int .i64 a0_0,.int .i64 a0_1,.int .i64 a0_2,.int .i64 a0_3,.int .i64 a0_4,.int .i64 a0_5,.int .i64 a0_6,.int .i64 a0_7,.int .i64 a0_8,.slice Ax9 l0_9.length cx9,.slice Ax10 l0_10.length cx10,.slice Ax11 l0_11.length cx11] 28)).cell? ⟨gc,9,none⟩ = some (.slice A0_9 l0_9.length c0_9):=(bC (bA KC.out _) 9).trans rfl;have zc10 : (w4.alloc (.cells #[.int .i64 a0_0,.int .i64 a0_1,.int .i64 a0_2,.int .i64 a0_3,.int .i64 a0_4,.int .i64 a0_5,.int .i64 a0_6,.int .i64 a0_7,.int .i64 a0_8,.slice Ax9 l0_9.length cx9,.slice Ax10 l0_10.length cx10,.slice Ax11 l0_11.length cx11] 28)).cell? ⟨gc,10,none⟩ = some (.slice A0_10 l0_10.length c0_10):=(bC (bA KC.out _) 10).trans rfl;have zc11 : (w4.alloc (.cells #[.int .i64 a0_0,.int .i64 a0_1,.int .i64 a0_2,.int .i64 a0_3,.int .i64 a0_4,.int .i64 a0_5,.int .i64 a0_6,.int .i64 a0_7,.int .i64 a0_8,.slice Ax9 l0_9.length cx9,.slice Ax10 l0_10.length cx10,.slice Ax11 l0_11.length cx11] 28)).cell? ⟨gc,11,none⟩ = some (.slice (some adA) l0_11.length c0_11):=(bC (bA KC.out _) 11).trans rfl;clear hb))
  have n_e : ∃ w_ g_,w_ = w4.alloc (.cells #[.int .i64 a0_0,.int .i64 a0_1,.int .i64 a0_2,.int .i64 a0_3,.int .i64 a0_4,.int .i64 a0_5,.int .i64 a0_6,.int .i64 a0_7,.int .i64 a0_8,.slice Ax9 l0_9.length cx9,.slice Ax10 l0_10.length cx10,.slice Ax11 l0_11.length cx11] 28)∧g_ = w4.heap.size:=⟨_,_,rfl,rfl⟩
  obtain ⟨w5,gx,hw_,hg_⟩:=n_e
  obtain ⟨lox,plx1,plx2,pl3,q9,q10,q11⟩:=QL.out
  have X : Aside0 (Cop w5 w.heap.size lox (gx + 1) gx (⟨a0_0,a0_1,a0_2,a0_3,a0_4,a0_5,a0_6,a0_7,a0_8⟩ : Hd) Ax9 cx9 Ax10 cx10 Ax11 cx11 l0_9 l0_10 l0_11):=⟨by rw [hw_,hg_];exact Cop.new q9 q10 q11 plx2 pl3 (bL (Below.refl _ _) _) (blk_new w4 _)⟩
  have n_KC : Aside0 (w5.heap[gc]? = some (.cells #[.int .i64 a0_0,.int .i64 a0_1,.int .i64 a0_2,.int .i64 a0_3,.int .i64 a0_4,.int .i64 a0_5,.int .i64 a0_6,.int .i64 a0_7,.int .i64 a0_8,.slice A0_9 l0_9.length c0_9,.slice A0_10 l0_10.length c0_10,.slice (some adA) l0_11.length c0_11] 28 (0,0))):=⟨by rw [hw_];exact bA KC.out _⟩
  have n_HB : Aside0 (Below w.heap.size w w5):=⟨by rw [hw_];exact bL HB.out _⟩
  rw [← hw_,← hg_]
  have glx:=Cop.gl X.out
  clear KC HB QL q9 q10 q11 pl3 hw_ hg_
  have KC:=n_KC
  have HB:=n_HB
  clear n_KC n_HB
  obtain ⟨gox,e_,ox1,ox2⟩:=Cop.row11 X.out (by omega)
  subst e_
  have hj_ : w5.cell? (adA.add (j.toNat * 3)) = some (.string (rd_T48 l0_11 j).f0):=(HB.out.cell (wB w _ ej0)).trans ej0
  have n_:=Am (bD KC.out)
  clear KC
  have KC:=n_
  clear n_
  have n_:=Am (bE HB.out)
  clear HB
  have HB:=n_
  clear n_
  have n_:=Am (Cop.drew X.out)
  clear X
  have X:=n_
  clear n_
  refine start_ (n:=12) (S:=fun w'=>w'.cell? ⟨gx,11,none⟩ = some (.slice (some ⟨gox,0,none⟩) l0_11.length cx11)∧w'.cell? ⟨gc,11,none⟩ = some (.slice (some adA) l0_11.length c0_11)∧w'.cell? (adA.add (j.toNat * 3)) = some (.string (rd_T48 l0_11 j).f0)) (ds:=[11]) #[O,O,O,O,O,O,O,O,O,O,O,O] (by kernel_rfl) rfl rfl ⟨(Cop.cell X.out 11).trans rfl,(bC KC.out 11).trans rfl,hj_⟩ (fun hHeld=>?_)
  generalize w5.drew = w6 at KC HB X hHeld ⊢
  obtain ⟨⟨⟨hx0,hx1⟩,hf0,hf1⟩,hp0,hp1⟩:=Cop.put X.out i hi0 hi1 (rd_T48 l0_11 j).f0
  refine pure_ (i:=0) (N:=some 61) (v:=?_) (a':=?_) #[J,O,O,O,O,O,O,O,O,O,O,O] rfl rfl (by kernel_rfl) (fun _ _ _ h=>h) (Or.inl ⟨by rfl,?_⟩) ?_ ?_
  rotate_left
  ·intro w'
   go_simp
   with_reducible rfl
  rotate_left
  ·simp only [Act.put,sT,sZ,sS,iW,iV]
   rfl
  refine pure_ (i:=2) (N:=some 63) (v:=?_) (a':=?_) #[J,O,J,O,O,O,O,O,O,O,O,O] rfl rfl (by kernel_rfl) (fun _ _ _ h=>h) (Or.inl ⟨by rfl,?_⟩) ?_ ?_
  rotate_left
  ·intro w'
   go_simp
   with_reducible rfl
  rotate_left
  ·simp only [Act.put,sT,sZ,sS,iW,iV]
   rfl
  refine pure_ (i:=3) (N:=some 64) (v:=?_) (a':=?_) #[J,O,J,J,O,O,O,O,O,O,O,O] rfl rfl (by kernel_rfl) (fun _ _ _ h=>h) (Or.inl ⟨by rfl,?_⟩) ?_ ?_
  rotate_left
  ·intro w'
   go_simp
   with_reducible rfl
  rotate_left
  ·simp only [Act.put,sT,sZ,sS,iW,iV]
   rfl
  refine pure_ (i:=5) (N:=some 66) (v:=?_) (a':=?_) #[J,O,J,J,O,J,O,O,O,O,O,O] rfl rfl (by kernel_rfl) (fun _ _ _ h=>h) (Or.inl ⟨by rfl,?_⟩) ?_ ?_
  rotate_left
  ·intro w'
   go_simp
   with_reducible rfl
  rotate_left
  ·simp only [Act.put,sT,sZ,sS,iW,iV]
   rfl
  refine take_ (i:=1) (N:=some 62) (v:=?_) (a':=?_) #[J,J,J,J,O,J,O,O,O,O,O,O] rfl rfl (by kernel_rfl) (fun _ _ _ h=>h) (Or.inl ⟨by rfl,?_⟩) hHeld ?_ ?_
  rotate_left
  ·rintro w' ⟨s0,s1,s2⟩
   go_simp
   with_reducible rfl
  rotate_left
  ·simp only [Act.put,sT,sZ,sS,iW,iV]
   rfl
  refine take_ (i:=4) (N:=some 65) (v:=?_) (a':=?_) #[J,J,J,J,J,J,O,O,O,O,O,O] rfl rfl (by kernel_rfl) (fun _ _ _ h=>h) (Or.inl ⟨by rfl,?_⟩) hHeld ?_ ?_
  rotate_left
  ·rintro w' ⟨s0,s1,s2⟩
   go_simp
   with_reducible rfl
  rotate_left
  ·simp only [Act.put,sT,sZ,sS,iW,iV]
   rfl
  refine pure_ (i:=6) (N:=some 67) (v:=?_) (a':=?_) #[J,J,J,J,J,J,J,O,O,O,O,O] rfl rfl (by kernel_rfl) (fun _ _ _ h=>h) (Or.inl ⟨by rfl,?_⟩) ?_ ?_
  rotate_left
  ·intro w'
   go_simp
   with_reducible rfl
  rotate_left
  ·simp only [Act.put,sT,sZ,sS,iW,iV]
   rfl
  refine pure_ (i:=7) (N:=some 68) (v:=?_) (a':=?_) #[J,J,J,J,J,J,J,J,O,O,O,O] rfl rfl (by kernel_rfl) (fun _ _ _ h=>h) (Or.inl ⟨by rfl,?_⟩) ?_ ?_
  rotate_left
  ·intro w'
   go_simp
   with_reducible rfl
  rotate_left
  ·simp only [Act.put,sT,sZ,sS,iW,iV]
   rfl
  refine take_ (i:=8) (N:=some 69) (v:=?_) (a':=?_) #[J,J,J,J,J,J,J,J,J,O,O,O] rfl rfl (by kernel_rfl) (fun _ _ _ h=>h) (Or.inl ⟨by rfl,?_⟩) hHeld ?_ ?_
  rotate_left
  ·rintro w' ⟨s0,s1,s2⟩
   go_simp
   with_reducible rfl
  rotate_left
  ·simp only [Act.put,sT,sZ,sS,iW,iV]
   rfl
  refine pure_ (i:=9) (N:=some 70) (v:=?_) (a':=?_) #[J,J,J,J,J,J,J,J,J,J,O,O] rfl rfl (by kernel_rfl) (fun _ _ _ h=>h) (Or.inl ⟨by rfl,?_⟩) ?_ ?_
  rotate_left
  ·intro w'
   go_simp
   with_reducible rfl
  rotate_left
  ·simp only [Act.put,sT,sZ,sS,iW,iV]
   rfl
  refine pure_ (i:=10) (N:=some 71) (v:=?_) (a':=?_) #[J,J,J,J,J,J,J,J,J,J,J,O] rfl rfl (by kernel_rfl) (fun _ _ _ h=>h) (Or.inl ⟨by rfl,?_⟩) ?_ ?_
  rotate_left
  ·intro w'
   go_simp
   with_reducible rfl
  rotate_left
  ·simp only [Act.put,sT,sZ,sS,iW,iV]
   rfl
  refine last_ (i:=11) (N:=none) #[J,J,J,J,J,J,J,J,J,J,J,J] rfl rfl (by kernel_rfl) (by decide) (fun K hK=>?_)
  refine skip_ (w1:=?_) (by rfl) rfl ?_ ?_
  rotate_left
  ·go_simp
   rfl
  refine hK.out _ _ ?_
  clear hK K
  refine done_ (by kernel_rfl) ?_
  rw [← HXN.out] at hp0
  have n_KC:=Am (blk_far KC.out (p:=⟨gox,i.toNat * 3,none⟩) (show gc ≠ gox by omega) (.string (rd_T48 l0_11 j).f0))
  have n_HB:=Am (bS (j:=i.toNat * 3) (v:=.string (rd_T48 l0_11 j).f0) HB.out (show w.heap.size≤gox by omega))
  have n_X:=Am hp0
  clear KC HB X hp0 hp1 hx0 hx1 hf0 hf1
  generalize (w6.setCell ⟨gox,i.toNat * 3,none⟩ (.string (rd_T48 l0_11 j).f0)) = w7 at n_KC n_HB n_X ⊢
  have KC:=n_KC
  clear n_KC
  have HB:=n_HB
  clear n_HB
  have X:=n_X
  clear n_X
  have zc0 : w7.cell? ⟨gc,0,none⟩ = some (.int .i64 a0_0):=(bC KC.out 0).trans rfl
  have zc1 : w7.cell? ⟨gc,1,none⟩ = some (.int .i64 a0_1):=(bC KC.out 1).trans rfl
  have zc2 : w7.cell? ⟨gc,2,none⟩ = some (.int .i64 a0_2):=(bC KC.out 2).trans rfl
  have zc3 : w7.cell? ⟨gc,3,none⟩ = some (.int .i64 a0_3):=(bC KC.out 3).trans rfl
  have zc4 : w7.cell? ⟨gc,4,none⟩ = some (.int .i64 a0_4):=(bC KC.out 4).trans rfl
  have zc5 : w7.cell? ⟨gc,5,none⟩ = some (.int .i64 a0_5):=(bC KC.out 5).trans rfl
  have zc6 : w7.cell? ⟨gc,6,none⟩ = some (.int .i64 a0_6):=(bC KC.out 6).trans rfl
  have zc7 : w7.cell? ⟨gc,7,none⟩ = some (.int .i64 a0_7):=(bC KC.out 7).trans rfl
  have zc8 : w7.cell? ⟨gc,8,none⟩ = some (.int .i64 a0_8):=(bC KC.out 8).trans rfl
  have zc9 : w7.cell? ⟨gc,9,none⟩ = some (.slice A0_9 l0_9.length c0_9):=(bC KC.out 9).trans rfl
  have zc10 : w7.cell? ⟨gc,10,none⟩ = some (.slice A0_10 l0_10.length c0_10):=(bC KC.out 10).trans rfl
  have zc11 : w7.cell? ⟨gc,11,none⟩ = some (.slice (some adA) l0_11.length c0_11):=(bC KC.out 11).trans rfl
  go_wp2_with (first|(go_at_call 11;(with_reducible refine (gangerref10_Copy.calls a0_0 a0_1 a0_2 a0_3 a0_4 a0_5 a0_6 a0_7 a0_8 A0_9 c0_9 l0_9 A0_10 c0_10 l0_10 (some adA) c0_11 l0_11 a0_0 a0_1 a0_2 a0_3 a0_4 a0_5 a0_6 a0_7 a0_8 l0_9 l0_10 l0_11 _ ?s1 ?s2 ?s3 ?s4 ?s5 ?s6 hCopy).mono ?_);(case s1=>exact Kd.C_below HR9.out (by repeat (first|(with_reducible first|exact HB.out|apply bL|apply pN|apply bE)|exact HB.out)));(case s2=>exact HC9.out);(case s3=>exact Kd.C_below HR10.out (by repeat (first|(with_reducible first|exact HB.out|apply bL|apply pN|apply bE)|exact HB.out)));(case s4=>exact HC10.out);(case s5=>exact Kd.C_below HR11.out (by repeat (first|(with_reducible first|exact HB.out|apply bL|apply pN|apply bE)|exact HB.out)));(case s6=>exact HC11.out);rintro e w8 ⟨v9,v10,v11,rfl,q9,q10,q11,hb⟩;obtain ⟨Ay9,cy9,rfl⟩:=Kd.R_slice q9;obtain ⟨Ay10,cy10,rfl⟩:=Kd.R_slice q10;obtain ⟨Ay11,cy11,rfl⟩:=Kd.R_slice q11;have QL : Aside0 (∃ lo,(gx + 1)≤lo∧w.heap.size≤lo∧lo≤w8.heap.size∧Kd.R k50 50 w8 lo (fun _=>True) (.slice Ay9 l0_9.length cy9) l0_9∧Kd.R k52 52 w8 lo (fun _=>True) (.slice Ay10 l0_10.length cy10) l0_10∧Kd.R k48 48 w8 lo (fun _=>True) (.slice Ay11 l0_11.length cy11) l0_11):=⟨⟨_,Cop.hw (by (with_reducible repeat (first|apply Cop.drewN|apply Cop.drew|apply Cop.alloc));exact X.out),bZ (by repeat (first|(with_reducible first|exact HB.out|apply bL|apply pN|apply bE)|exact HB.out)),hb.size,q9,q10,q11⟩⟩;clear q9 q10 q11;have n0_:=Am (below_step (by repeat (first|(with_reducible first|exact HB.out|apply bL|apply pN|apply bE)|exact HB.out)) hb);have n_KC:=Am (blk_below (g:=gc) (o:=.cells #[.int .i64 a0_0,.int .i64 a0_1,.int .i64 a0_2,.int .i64 a0_3,.int .i64 a0_4,.int .i64 a0_5,.int .i64 a0_6,.int .i64 a0_7,.int .i64 a0_8,.slice A0_9 l0_9.length c0_9,.slice A0_10 l0_10.length c0_10,.slice (some adA) l0_11.length c0_11] 28 (0,0)) (by (with_reducible repeat (first|refine bN ?_ _|refine bD ?_|refine bA ?_ _));exact KC.out) hb);have n_X:=Am (Cop.below (by (with_reducible repeat (first|apply Cop.drewN|apply Cop.drew|apply Cop.alloc));exact X.out) hb);clear HB KC;have HB:=n0_;have KC:=n_KC;clear n0_ n_KC;clear X;have X:=n_X;clear n_X;clear hb))
  have n_e : ∃ w_ g_,w_ = w8.alloc (.cells #[.int .i64 a0_0,.int .i64 a0_1,.int .i64 a0_2,.int .i64 a0_3,.int .i64 a0_4,.int .i64 a0_5,.int .i64 a0_6,.int .i64 a0_7,.int .i64 a0_8,.slice Ay9 l0_9.length cy9,.slice Ay10 l0_10.length cy10,.slice Ay11 l0_11.length cy11] 28)∧g_ = w8.heap.size:=⟨_,_,rfl,rfl⟩
  obtain ⟨w9,gy,hw_,hg_⟩:=n_e
  obtain ⟨loy,ply1,ply2,pl3,q9,q10,q11⟩:=QL.out
  have Y : Aside0 (Cop w9 w.heap.size loy (gy + 1) gy (⟨a0_0,a0_1,a0_2,a0_3,a0_4,a0_5,a0_6,a0_7,a0_8⟩ : Hd) Ay9 cy9 Ay10 cy10 Ay11 cy11 l0_9 l0_10 l0_11):=⟨by rw [hw_,hg_];exact Cop.new q9 q10 q11 ply2 pl3 (bL (Below.refl _ _) _) (blk_new w8 _)⟩
  have n_KC : Aside0 (w9.heap[gc]? = some (.cells #[.int .i64 a0_0,.int .i64 a0_1,.int .i64 a0_2,.int .i64 a0_3,.int .i64 a0_4,.int .i64 a0_5,.int .i64 a0_6,.int .i64 a0_7,.int .i64 a0_8,.slice A0_9 l0_9.length c0_9,.slice A0_10 l0_10.length c0_10,.slice (some adA) l0_11.length c0_11] 28 (0,0))):=⟨by rw [hw_];exact bA KC.out _⟩
  have n_HB : Aside0 (Below w.heap.size w w9):=⟨by rw [hw_];exact bL HB.out _⟩
  have n_X:=Am (Cop.alloc X.out (.cells #[.int .i64 a0_0,.int .i64 a0_1,.int .i64 a0_2,.int .i64 a0_3,.int .i64 a0_4,.int .i64 a0_5,.int .i64 a0_6,.int .i64 a0_7,.int .i64 a0_8,.slice Ay9 l0_9.length cy9,.slice Ay10 l0_10.length cy10,.slice Ay11 l0_11.length cy11] 28))
  rw [← hw_] at n_X
  rw [← hw_,← hg_]
  have gly:=Cop.gl Y.out
  clear KC HB QL q9 q10 q11 pl3 hw_ hg_
  clear X
  have X:=n_X
  clear n_X
  have KC:=n_KC
  have HB:=n_HB
  clear n_KC n_HB
  obtain ⟨goy,e_,oy1,oy2⟩:=Cop.row11 Y.out (by omega)
  subst e_
  have hm_ : w9.cell? (adA.add (m.toNat * 3)) = some (.string (rd_T48 l0_11 m).f0):=(HB.out.cell (wB w _ em0)).trans em0
  have n_:=Am (bD KC.out)
  clear KC
  have KC:=n_
  clear n_
  have n_:=Am (bE HB.out)
  clear HB
  have HB:=n_
  clear n_
  have n_:=Am (Cop.drew X.out)
  clear X
  have X:=n_
  clear n_
  have n_:=Am (Cop.drew Y.out)
  clear Y
  have Y:=n_
  clear n_
  refine start_ (n:=14) (S:=fun w'=>w'.cell? ⟨gy,11,none⟩ = some (.slice (some ⟨goy,0,none⟩) l0_11.length cy11)∧w'.cell? ⟨gc,11,none⟩ = some (.slice (some adA) l0_11.length c0_11)∧w'.cell? (adA.add (m.toNat * 3)) = some (.string (rd_T48 l0_11 m).f0)) (ds:=[13]) #[O,O,O,O,O,O,O,O,O,O,O,O,O,O] (by kernel_rfl) rfl rfl ⟨(Cop.cell Y.out 11).trans rfl,(bC KC.out 11).trans rfl,hm_⟩ (fun hHeld=>?_)
  generalize w9.drew = w10 at KC HB X Y hHeld ⊢
  obtain ⟨⟨⟨hx0,hx1⟩,hf0,hf1⟩,hp0,hp1⟩:=Cop.put Y.out i hi0 hi1 (rd_T48 l0_11 m).f0
  refine pure_ (i:=0) (N:=some 74) (v:=?_) (a':=?_) #[J,O,O,O,O,O,O,O,O,O,O,O,O,O] rfl rfl (by kernel_rfl) (fun _ _ _ h=>h) (Or.inl ⟨by rfl,?_⟩) ?_ ?_
  rotate_left
  ·intro w'
   go_simp
   with_reducible rfl
  rotate_left
  ·simp only [Act.put,sT,sZ,sS,iW,iV]
   rfl
  refine pure_ (i:=2) (N:=some 76) (v:=?_) (a':=?_) #[J,O,J,O,O,O,O,O,O,O,O,O,O,O] rfl rfl (by kernel_rfl) (fun _ _ _ h=>h) (Or.inl ⟨by rfl,?_⟩) ?_ ?_
  rotate_left
  ·intro w'
   go_simp
   with_reducible rfl
  rotate_left
  ·simp only [Act.put,sT,sZ,sS,iW,iV]
   rfl
  refine pure_ (i:=3) (N:=some 77) (v:=?_) (a':=?_) #[J,O,J,J,O,O,O,O,O,O,O,O,O,O] rfl rfl (by kernel_rfl) (fun _ _ _ h=>h) (Or.inl ⟨by rfl,?_⟩) ?_ ?_
  rotate_left
  ·intro w'
   go_simp
   with_reducible rfl
  rotate_left
  ·simp only [Act.put,sT,sZ,sS,iW,iV]
   rfl
  refine pure_ (i:=5) (N:=some 79) (v:=?_) (a':=?_) #[J,O,J,J,O,J,O,O,O,O,O,O,O,O] rfl rfl (by kernel_rfl) (fun _ _ _ h=>h) (Or.inl ⟨by rfl,?_⟩) ?_ ?_
  rotate_left
  ·intro w'
   go_simp
   with_reducible rfl
  rotate_left
  ·simp only [Act.put,sT,sZ,sS,iW,iV]
   rfl
  refine pure_ (i:=6) (N:=some 80) (v:=?_) (a':=?_) #[J,O,J,J,O,J,J,O,O,O,O,O,O,O] rfl rfl (by kernel_rfl) (fun _ _ _ h=>h) (Or.inl ⟨by rfl,?_⟩) ?_ ?_
  rotate_left
  ·intro w'
   go_simp
   with_reducible rfl
  rotate_left
  ·simp only [Act.put,sT,sZ,sS,iW,iV]
   rfl
  refine take_ (i:=1) (N:=some 75) (v:=?_) (a':=?_) #[J,J,J,J,O,J,J,O,O,O,O,O,O,O] rfl rfl (by kernel_rfl) (fun _ _ _ h=>h) (Or.inl ⟨by rfl,?_⟩) hHeld ?_ ?_
  rotate_left
  ·rintro w' ⟨s0,s1,s2⟩
   go_simp
   with_reducible rfl
  rotate_left
  ·simp only [Act.put,sT,sZ,sS,iW,iV]
   rfl
  refine take_ (i:=4) (N:=some 78) (v:=?_) (a':=?_) #[J,J,J,J,J,J,J,O,O,O,O,O,O,O] rfl rfl (by kernel_rfl) (fun _ _ _ h=>h) (Or.inl ⟨by rfl,?_⟩) hHeld ?_ ?_
  rotate_left
  ·rintro w' ⟨s0,s1,s2⟩
   go_simp
   with_reducible rfl
  rotate_left
  ·simp only [Act.put,sT,sZ,sS,iW,iV]
   rfl
  refine pure_ (i:=7) (N:=some 81) (v:=?_) (a':=?_) #[J,J,J,J,J,J,J,J,O,O,O,O,O,O] rfl rfl (by kernel_rfl) (fun _ _ _ h=>h) (Or.inl ⟨by rfl,?_⟩) ?_ ?_
  rotate_left
  ·intro w'
   go_simp
   with_reducible rfl
  rotate_left
  ·simp only [Act.put,sT,sZ,sS,iW,iV]
   rfl
  refine pure_ (i:=8) (N:=some 82) (v:=?_) (a':=?_) #[J,J,J,J,J,J,J,J,J,O,O,O,O,O] rfl rfl (by kernel_rfl) (fun _ _ _ h=>h) (Or.inl ⟨by rfl,?_⟩) ?_ ?_
  rotate_left
  ·intro w'
   go_simp
   with_reducible rfl
  rotate_left
  ·simp only [Act.put,sT,sZ,sS,iW,iV]
   rfl
  refine pure_ (i:=9) (N:=some 83) (v:=?_) (a':=?_) #[J,J,J,J,J,J,J,J,J,J,O,O,O,O] rfl rfl (by kernel_rfl) (fun _ _ _ h=>h) (Or.inl ⟨by rfl,?_⟩) ?_ ?_
  rotate_left
  ·intro w'
   go_simp
   with_reducible rfl
  rotate_left
  ·simp only [Act.put,sT,sZ,sS,iW,iV]
   rfl
  refine take_ (i:=10) (N:=some 84) (v:=?_) (a':=?_) #[J,J,J,J,J,J,J,J,J,J,J,O,O,O] rfl rfl (by kernel_rfl) (fun _ _ _ h=>h) (Or.inl ⟨by rfl,?_⟩) hHeld ?_ ?_
  rotate_left
  ·rintro w' ⟨s0,s1,s2⟩
   go_simp
   with_reducible rfl
  rotate_left
  ·simp only [Act.put,sT,sZ,sS,iW,iV]
   rfl
  refine pure_ (i:=11) (N:=some 85) (v:=?_) (a':=?_) #[J,J,J,J,J,J,J,J,J,J,J,J,O,O] rfl rfl (by kernel_rfl) (fun _ _ _ h=>h) (Or.inl ⟨by rfl,?_⟩) ?_ ?_
  rotate_left
  ·intro w'
   go_simp
   with_reducible rfl
  rotate_left
  ·simp only [Act.put,sT,sZ,sS,iW,iV]
   rfl
  refine pure_ (i:=12) (N:=some 86) (v:=?_) (a':=?_) #[J,J,J,J,J,J,J,J,J,J,J,J,J,O] rfl rfl (by kernel_rfl) (fun _ _ _ h=>h) (Or.inl ⟨by rfl,?_⟩) ?_ ?_
  rotate_left
  ·intro w'
   go_simp
   with_reducible rfl
  rotate_left
  ·simp only [Act.put,sT,sZ,sS,iW,iV]
   rfl
  refine last_ (i:=13) (N:=none) #[J,J,J,J,J,J,J,J,J,J,J,J,J,J] rfl rfl (by kernel_rfl) (by decide) (fun K hK=>?_)
  refine skip_ (w1:=?_) (by rfl) rfl ?_ ?_
  rotate_left
  ·go_simp
   rfl
  refine hK.out _ _ ?_
  clear hK K
  refine done_ (by kernel_rfl) ?_
  rw [← HYN.out] at hp1
  have n_KC:=Am (blk_far KC.out (p:=⟨goy,i.toNat * 3 + 1,none⟩) (show gc ≠ goy by omega) (.string (rd_T48 l0_11 m).f0))
  have n_HB:=Am (bS (j:=i.toNat * 3 + 1) (v:=.string (rd_T48 l0_11 m).f0) HB.out (show w.heap.size≤goy by omega))
  have n_Y:=Am hp1
  have n_X:=Am (Cop.set X.out (q:=goy) (Or.inr (by omega)) (i.toNat * 3 + 1) (.string (rd_T48 l0_11 m).f0))
  clear KC HB Y X hp0 hp1 hx0 hx1 hf0 hf1
  generalize (w10.setCell ⟨goy,i.toNat * 3 + 1,none⟩ (.string (rd_T48 l0_11 m).f0)) = w11 at n_KC n_HB n_Y n_X ⊢
  have KC:=n_KC
  clear n_KC
  have HB:=n_HB
  clear n_HB
  have Y:=n_Y
  clear n_Y
  have X:=n_X
  clear n_X
  have zc0 : w11.cell? ⟨gc,0,none⟩ = some (.int .i64 a0_0):=(bC KC.out 0).trans rfl
  have zc1 : w11.cell? ⟨gc,1,none⟩ = some (.int .i64 a0_1):=(bC KC.out 1).trans rfl
  have zc2 : w11.cell? ⟨gc,2,none⟩ = some (.int .i64 a0_2):=(bC KC.out 2).trans rfl
  have zc3 : w11.cell? ⟨gc,3,none⟩ = some (.int .i64 a0_3):=(bC KC.out 3).trans rfl
  have zc4 : w11.cell? ⟨gc,4,none⟩ = some (.int .i64 a0_4):=(bC KC.out 4).trans rfl
  have zc5 : w11.cell? ⟨gc,5,none⟩ = some (.int .i64 a0_5):=(bC KC.out 5).trans rfl
  have zc6 : w11.cell? ⟨gc,6,none⟩ = some (.int .i64 a0_6):=(bC KC.out 6).trans rfl
  have zc7 : w11.cell? ⟨gc,7,none⟩ = some (.int .i64 a0_7):=(bC KC.out 7).trans rfl
  have zc8 : w11.cell? ⟨gc,8,none⟩ = some (.int .i64 a0_8):=(bC KC.out 8).trans rfl
  have zc9 : w11.cell? ⟨gc,9,none⟩ = some (.slice A0_9 l0_9.length c0_9):=(bC KC.out 9).trans rfl
  have zc10 : w11.cell? ⟨gc,10,none⟩ = some (.slice A0_10 l0_10.length c0_10):=(bC KC.out 10).trans rfl
  have zc11 : w11.cell? ⟨gc,11,none⟩ = some (.slice (some adA) l0_11.length c0_11):=(bC KC.out 11).trans rfl
  go_wp2_with fail
  (go_at_call 11;(with_reducible refine (gangerref10_Copy.calls a0_0 a0_1 a0_2 a0_3 a0_4 a0_5 a0_6 a0_7 a0_8 A0_9 c0_9 l0_9 A0_10 c0_10 l0_10 (some adA) c0_11 l0_11 a0_0 a0_1 a0_2 a0_3 a0_4 a0_5 a0_6 a0_7 a0_8 l0_9 l0_10 l0_11 _ ?s1 ?s2 ?s3 ?s4 ?s5 ?s6 hCopy).mono ?_);(case s1=>exact Kd.C_below HR9.out (by repeat (first|(with_reducible first|exact HB.out|apply bL|apply pN|apply bE)|exact HB.out)));(case s2=>exact HC9.out);(case s3=>exact Kd.C_below HR10.out (by repeat (first|(with_reducible first|exact HB.out|apply bL|apply pN|apply bE)|exact HB.out)));(case s4=>exact HC10.out);(case s5=>exact Kd.C_below HR11.out (by repeat (first|(with_reducible first|exact HB.out|apply bL|apply pN|apply bE)|exact HB.out)));(case s6=>exact HC11.out);rintro e w12 ⟨v9,v10,v11,rfl,q9,q10,q11,hb⟩;obtain ⟨Az9,cz9,rfl⟩:=Kd.R_slice q9;obtain ⟨Az10,cz10,rfl⟩:=Kd.R_slice q10;obtain ⟨Az11,cz11,rfl⟩:=Kd.R_slice q11;have QL : Aside0 (∃ lo,(gy + 1)≤lo∧w.heap.size≤lo∧lo≤w12.heap.size∧Kd.R k50 50 w12 lo (fun _=>True) (.slice Az9 l0_9.length cz9) l0_9∧Kd.R k52 52 w12 lo (fun _=>True) (.slice Az10 l0_10.length cz10) l0_10∧Kd.R k48 48 w12 lo (fun _=>True) (.slice Az11 l0_11.length cz11) l0_11):=⟨⟨_,Cop.hw (by (with_reducible repeat (first|apply Cop.drewN|apply Cop.drew|apply Cop.alloc));exact Y.out),bZ (by repeat (first|(with_reducible first|exact HB.out|apply bL|apply pN|apply bE)|exact HB.out)),hb.size,q9,q10,q11⟩⟩;clear q9 q10 q11;have n0_:=Am (below_step (by repeat (first|(with_reducible first|exact HB.out|apply bL|apply pN|apply bE)|exact HB.out)) hb);have n_KC:=Am (blk_below (g:=gc) (o:=.cells #[.int .i64 a0_0,.int .i64 a0_1,.int .i64 a0_2,.int .i64 a0_3,.int .i64 a0_4,.int .i64 a0_5,.int .i64 a0_6,.int .i64 a0_7,.int .i64 a0_8,.slice A0_9 l0_9.length c0_9,.slice A0_10 l0_10.length c0_10,.slice (some adA) l0_11.length c0_11] 28 (0,0)) (by (with_reducible repeat (first|refine bN ?_ _|refine bD ?_|refine bA ?_ _));exact KC.out) hb);have n_X:=Am (Cop.below (by (with_reducible repeat (first|apply Cop.drewN|apply Cop.drew|apply Cop.alloc));exact X.out) hb);have n_Y:=Am (Cop.below (by (with_reducible repeat (first|apply Cop.drewN|apply Cop.drew|apply Cop.alloc));exact Y.out) hb);clear HB KC;have HB:=n0_;have KC:=n_KC;clear n0_ n_KC;clear X;have X:=n_X;clear n_X;clear Y;have Y:=n_Y;clear n_Y;obtain ⟨loz,plz1,plz2,pl3,q9,q10,q11⟩:=QL.out;have Z0 : Cop (w12.alloc (.cells #[.int .i64 a0_0,.int .i64 a0_1,.int .i64 a0_2,.int .i64 a0_3,.int .i64 a0_4,.int .i64 a0_5,.int .i64 a0_6,.int .i64 a0_7,.int .i64 a0_8,.slice Az9 l0_9.length cz9,.slice Az10 l0_10.length cz10,.slice Az11 l0_11.length cz11] 28)) w.heap.size loz (w12.heap.size + 1) w12.heap.size (⟨a0_0,a0_1,a0_2,a0_3,a0_4,a0_5,a0_6,a0_7,a0_8⟩ : Hd) Az9 cz9 Az10 cz10 Az11 cz11 l0_9 l0_10 l0_11:=Cop.new q9 q10 q11 plz2 pl3 (bL (Below.refl _ _) _) (blk_new w12 _);clear q9 q10 q11 QL;obtain ⟨goz,e_,oz1,oz2⟩:=Cop.row11 Z0 (by omega);subst e_;have zz11 : (w12.alloc (.cells #[.int .i64 a0_0,.int .i64 a0_1,.int .i64 a0_2,.int .i64 a0_3,.int .i64 a0_4,.int .i64 a0_5,.int .i64 a0_6,.int .i64 a0_7,.int .i64 a0_8,.slice Az9 l0_9.length cz9,.slice Az10 l0_10.length cz10,.slice (some ⟨goz,0,none⟩) l0_11.length cz11] 28)).cell? ⟨w12.heap.size,11,none⟩ = some (.slice (some ⟨goz,0,none⟩) l0_11.length cz11):=(Cop.cell Z0 11).trans rfl;have zc9 : (w12.alloc (.cells #[.int .i64 a0_0,.int .i64 a0_1,.int .i64 a0_2,.int .i64 a0_3,.int .i64 a0_4,.int .i64 a0_5,.int .i64 a0_6,.int .i64 a0_7,.int .i64 a0_8,.slice Az9 l0_9.length cz9,.slice Az10 l0_10.length cz10,.slice (some ⟨goz,0,none⟩) l0_11.length cz11] 28)).cell? ⟨gc,9,none⟩ = some (.slice A0_9 l0_9.length c0_9):=(bC (bA KC.out _) 9).trans rfl;have zc10 : (w12.alloc (.cells #[.int .i64 a0_0,.int .i64 a0_1,.int .i64 a0_2,.int .i64 a0_3,.int .i64 a0_4,.int .i64 a0_5,.int .i64 a0_6,.int .i64 a0_7,.int .i64 a0_8,.slice Az9 l0_9.length cz9,.slice Az10 l0_10.length cz10,.slice (some ⟨goz,0,none⟩) l0_11.length cz11] 28)).cell? ⟨gc,10,none⟩ = some (.slice A0_10 l0_10.length c0_10):=(bC (bA KC.out _) 10).trans rfl;have zc11 : (w12.alloc (.cells #[.int .i64 a0_0,.int .i64 a0_1,.int .i64 a0_2,.int .i64 a0_3,.int .i64 a0_4,.int .i64 a0_5,.int .i64 a0_6,.int .i64 a0_7,.int .i64 a0_8,.slice Az9 l0_9.length cz9,.slice Az10 l0_10.length cz10,.slice (some ⟨goz,0,none⟩) l0_11.length cz11] 28)).cell? ⟨gc,11,none⟩ = some (.slice (some adA) l0_11.length c0_11):=(bC (bA KC.out _) 11).trans rfl;obtain ⟨⟨⟨hx0,hx1⟩,hf0,hf1⟩,hp0,hp1⟩:=Cop.put Z0 i hi0 hi1 (⟨#[]⟩ : ByteArray);rw [← HZN.out] at hp1;have Z:=Am hp1;clear hp0 hp1;have glz:=Cop.gl Z0;have n_KC:=Am (blk_far (bA KC.out (.cells #[.int .i64 a0_0,.int .i64 a0_1,.int .i64 a0_2,.int .i64 a0_3,.int .i64 a0_4,.int .i64 a0_5,.int .i64 a0_6,.int .i64 a0_7,.int .i64 a0_8,.slice Az9 l0_9.length cz9,.slice Az10 l0_10.length cz10,.slice (some ⟨goz,0,none⟩) l0_11.length cz11] 28)) (p:=⟨goz,i.toNat * 3 + 1,none⟩) (show gc ≠ goz by omega) (.string (⟨#[]⟩ : ByteArray)));have n_HB:=Am (bS (j:=i.toNat * 3 + 1) (v:=.string (⟨#[]⟩ : ByteArray)) (bL HB.out (.cells #[.int .i64 a0_0,.int .i64 a0_1,.int .i64 a0_2,.int .i64 a0_3,.int .i64 a0_4,.int .i64 a0_5,.int .i64 a0_6,.int .i64 a0_7,.int .i64 a0_8,.slice Az9 l0_9.length cz9,.slice Az10 l0_10.length cz10,.slice (some ⟨goz,0,none⟩) l0_11.length cz11] 28)) (show w.heap.size≤goz by omega));have n_X:=Am (Cop.set (Cop.alloc X.out (.cells #[.int .i64 a0_0,.int .i64 a0_1,.int .i64 a0_2,.int .i64 a0_3,.int .i64 a0_4,.int .i64 a0_5,.int .i64 a0_6,.int .i64 a0_7,.int .i64 a0_8,.slice Az9 l0_9.length cz9,.slice Az10 l0_10.length cz10,.slice (some ⟨goz,0,none⟩) l0_11.length cz11] 28)) (q:=goz) (Or.inr (by omega)) (i.toNat * 3 + 1) (.string (⟨#[]⟩ : ByteArray)));have n_Y:=Am (Cop.set (Cop.alloc Y.out (.cells #[.int .i64 a0_0,.int .i64 a0_1,.int .i64 a0_2,.int .i64 a0_3,.int .i64 a0_4,.int .i64 a0_5,.int .i64 a0_6,.int .i64 a0_7,.int .i64 a0_8,.slice Az9 l0_9.length cz9,.slice Az10 l0_10.length cz10,.slice (some ⟨goz,0,none⟩) l0_11.length cz11] 28)) (q:=goz) (Or.inr (by omega)) (i.toNat * 3 + 1) (.string (⟨#[]⟩ : ByteArray)));clear KC HB X Y;have KC:=n_KC;have HB:=n_HB;have X:=n_X;have Y:=n_Y;clear n_KC n_HB n_X n_Y;have zc0 : ((w12.alloc (.cells #[.int .i64 a0_0,.int .i64 a0_1,.int .i64 a0_2,.int .i64 a0_3,.int .i64 a0_4,.int .i64 a0_5,.int .i64 a0_6,.int .i64 a0_7,.int .i64 a0_8,.slice Az9 l0_9.length cz9,.slice Az10 l0_10.length cz10,.slice (some ⟨goz,0,none⟩) l0_11.length cz11] 28)).setCell ⟨goz,i.toNat * 3 + 1,none⟩ (.string (⟨#[]⟩ : ByteArray))).cell? ⟨gc,0,none⟩ = some (.int .i64 a0_0):=(bC KC.out 0).trans rfl;have zc1 : ((w12.alloc (.cells #[.int .i64 a0_0,.int .i64 a0_1,.int .i64 a0_2,.int .i64 a0_3,.int .i64 a0_4,.int .i64 a0_5,.int .i64 a0_6,.int .i64 a0_7,.int .i64 a0_8,.slice Az9 l0_9.length cz9,.slice Az10 l0_10.length cz10,.slice (some ⟨goz,0,none⟩) l0_11.length cz11] 28)).setCell ⟨goz,i.toNat * 3 + 1,none⟩ (.string (⟨#[]⟩ : ByteArray))).cell? ⟨gc,1,none⟩ = some (.int .i64 a0_1):=(bC KC.out 1).trans rfl;have zc2 : ((w12.alloc (.cells #[.int .i64 a0_0,.int .i64 a0_1,.int .i64 a0_2,.int .i64 a0_3,.int .i64 a0_4,.int .i64 a0_5,.int .i64 a0_6,.int .i64 a0_7,.int .i64 a0_8,.slice Az9 l0_9.length cz9,.slice Az10 l0_10.length cz10,.slice (some ⟨goz,0,none⟩) l0_11.length cz11] 28)).setCell ⟨goz,i.toNat * 3 + 1,none⟩ (.string (⟨#[]⟩ : ByteArray))).cell? ⟨gc,2,none⟩ = some (.int .i64 a0_2):=(bC KC.out 2).trans rfl;have zc3 : ((w12.alloc (.cells #[.int .i64 a0_0,.int .i64 a0_1,.int .i64 a0_2,.int .i64 a0_3,.int .i64 a0_4,.int .i64 a0_5,.int .i64 a0_6,.int .i64 a0_7,.int .i64 a0_8,.slice Az9 l0_9.length cz9,.slice Az10 l0_10.length cz10,.slice (some ⟨goz,0,none⟩) l0_11.length cz11] 28)).setCell ⟨goz,i.toNat * 3 + 1,none⟩ (.string (⟨#[]⟩ : ByteArray))).cell? ⟨gc,3,none⟩ = some (.int .i64 a0_3):=(bC KC.out 3).trans rfl;have zc4 : ((w12.alloc (.cells #[.int .i64 a0_0,.int .i64 a0_1,.int .i64 a0_2,.int .i64 a0_3,.int .i64 a0_4,.int .i64 a0_5,.int .i64 a0_6,.int .i64 a0_7,.int .i64 a0_8,.slice Az9 l0_9.length cz9,.slice Az10 l0_10.length cz10,.slice (some ⟨goz,0,none⟩) l0_11.length cz11] 28)).setCell ⟨goz,i.toNat * 3 + 1,none⟩ (.string (⟨#[]⟩ : ByteArray))).cell? ⟨gc,4,none⟩ = some (.int .i64 a0_4):=(bC KC.out 4).trans rfl;have zc5 : ((w12.alloc (.cells #[.int .i64 a0_0,.int .i64 a0_1,.int .i64 a0_2,.int .i64 a0_3,.int .i64 a0_4,.int .i64 a0_5,.int .i64 a0_6,.int .i64 a0_7,.int .i64 a0_8,.slice Az9 l0_9.length cz9,.slice Az10 l0_10.length cz10,.slice (some ⟨goz,0,none⟩) l0_11.length cz11] 28)).setCell ⟨goz,i.toNat * 3 + 1,none⟩ (.string (⟨#[]⟩ : ByteArray))).cell? ⟨gc,5,none⟩ = some (.int .i64 a0_5):=(bC KC.out 5).trans rfl;have zc6 : ((w12.alloc (.cells #[.int .i64 a0_0,.int .i64 a0_1,.int .i64 a0_2,.int .i64 a0_3,.int .i64 a0_4,.int .i64 a0_5,.int .i64 a0_6,.int .i64 a0_7,.int .i64 a0_8,.slice Az9 l0_9.length cz9,.slice Az10 l0_10.length cz10,.slice (some ⟨goz,0,none⟩) l0_11.length cz11] 28)).setCell ⟨goz,i.toNat * 3 + 1,none⟩ (.string (⟨#[]⟩ : ByteArray))).cell? ⟨gc,6,none⟩ = some (.int .i64 a0_6):=(bC KC.out 6).trans rfl;have zc7 : ((w12.alloc (.cells #[.int .i64 a0_0,.int .i64 a0_1,.int .i64 a0_2,.int .i64 a0_3,.int .i64 a0_4,.int .i64 a0_5,.int .i64 a0_6,.int .i64 a0_7,.int .i64 a0_8,.slice Az9 l0_9.length cz9,.slice Az10 l0_10.length cz10,.slice (some ⟨goz,0,none⟩) l0_11.length cz11] 28)).setCell ⟨goz,i.toNat * 3 + 1,none⟩ (.string (⟨#[]⟩ : ByteArray))).cell? ⟨gc,7,none⟩ = some (.int .i64 a0_7):=(bC KC.out 7).trans rfl;have zc8 : ((w12.alloc (.cells #[.int .i64 a0_0,.int .i64 a0_1,.int .i64 a0_2,.int .i64 a0_3,.int .i64 a0_4,.int .i64 a0_5,.int .i64 a0_6,.int .i64 a0_7,.int .i64 a0_8,.slice Az9 l0_9.length cz9,.slice Az10 l0_10.length cz10,.slice (some ⟨goz,0,none⟩) l0_11.length cz11] 28)).setCell ⟨goz,i.toNat * 3 + 1,none⟩ (.string (⟨#[]⟩ : ByteArray))).cell? ⟨gc,8,none⟩ = some (.int .i64 a0_8):=(bC KC.out 8).trans rfl;have zc9 : ((w12.alloc (.cells #[.int .i64 a0_0,.int .i64 a0_1,.int .i64 a0_2,.int .i64 a0_3,.int .i64 a0_4,.int .i64 a0_5,.int .i64 a0_6,.int .i64 a0_7,.int .i64 a0_8,.slice Az9 l0_9.length cz9,.slice Az10 l0_10.length cz10,.slice (some ⟨goz,0,none⟩) l0_11.length cz11] 28)).setCell ⟨goz,i.toNat * 3 + 1,none⟩ (.string (⟨#[]⟩ : ByteArray))).cell? ⟨gc,9,none⟩ = some (.slice A0_9 l0_9.length c0_9):=(bC KC.out 9).trans rfl;have zc10 : ((w12.alloc (.cells #[.int .i64 a0_0,.int .i64 a0_1,.int .i64 a0_2,.int .i64 a0_3,.int .i64 a0_4,.int .i64 a0_5,.int .i64 a0_6,.int .i64 a0_7,.int .i64 a0_8,.slice Az9 l0_9.length cz9,.slice Az10 l0_10.length cz10,.slice (some ⟨goz,0,none⟩) l0_11.length cz11] 28)).setCell ⟨goz,i.toNat * 3 + 1,none⟩ (.string (⟨#[]⟩ : ByteArray))).cell? ⟨gc,10,none⟩ = some (.slice A0_10 l0_10.length c0_10):=(bC KC.out 10).trans rfl;have zc11 : ((w12.alloc (.cells #[.int .i64 a0_0,.int .i64 a0_1,.int .i64 a0_2,.int .i64 a0_3,.int .i64 a0_4,.int .i64 a0_5,.int .i64 a0_6,.int .i64 a0_7,.int .i64 a0_8,.slice Az9 l0_9.length cz9,.slice Az10 l0_10.length cz10,.slice (some ⟨goz,0,none⟩) l0_11.length cz11] 28)).setCell ⟨goz,i.toNat * 3 + 1,none⟩ (.string (⟨#[]⟩ : ByteArray))).cell? ⟨gc,11,none⟩ = some (.slice (some adA) l0_11.length c0_11):=(bC KC.out 11).trans rfl;clear hb)
  go_wp2_with (first|(go_at_call 11;(with_reducible refine (gangerref10_Copy.calls a0_0 a0_1 a0_2 a0_3 a0_4 a0_5 a0_6 a0_7 a0_8 A0_9 c0_9 l0_9 A0_10 c0_10 l0_10 (some adA) c0_11 l0_11 a0_0 a0_1 a0_2 a0_3 a0_4 a0_5 a0_6 a0_7 a0_8 l0_9 l0_10 l0_11 _ ?s1 ?s2 ?s3 ?s4 ?s5 ?s6 hCopy).mono ?_);(case s1=>exact Kd.C_below HR9.out (by repeat (first|(with_reducible first|exact HB.out|apply bL|apply pN|apply bE)|exact HB.out)));(case s2=>exact HC9.out);(case s3=>exact Kd.C_below HR10.out (by repeat (first|(with_reducible first|exact HB.out|apply bL|apply pN|apply bE)|exact HB.out)));(case s4=>exact HC10.out);(case s5=>exact Kd.C_below HR11.out (by repeat (first|(with_reducible first|exact HB.out|apply bL|apply pN|apply bE)|exact HB.out)));(case s6=>exact HC11.out);rintro e w13 ⟨v9,v10,v11,rfl,q9,q10,q11,hb⟩;obtain ⟨Ap9,cp9,rfl⟩:=Kd.R_slice q9;obtain ⟨Ap10,cp10,rfl⟩:=Kd.R_slice q10;obtain ⟨Ap11,cp11,rfl⟩:=Kd.R_slice q11;have QL : Aside0 (∃ lo,(w12.heap.size + 1)≤lo∧w.heap.size≤lo∧lo≤w13.heap.size∧Kd.R k50 50 w13 lo (fun _=>True) (.slice Ap9 l0_9.length cp9) l0_9∧Kd.R k52 52 w13 lo (fun _=>True) (.slice Ap10 l0_10.length cp10) l0_10∧Kd.R k48 48 w13 lo (fun _=>True) (.slice Ap11 l0_11.length cp11) l0_11):=⟨⟨_,Cop.hw (by (with_reducible repeat (first|apply Cop.drewN|apply Cop.drew|apply Cop.alloc));exact Z.out),bZ (by repeat (first|(with_reducible first|exact HB.out|apply bL|apply pN|apply bE)|exact HB.out)),hb.size,q9,q10,q11⟩⟩;clear q9 q10 q11;have n0_:=Am (below_step (by repeat (first|(with_reducible first|exact HB.out|apply bL|apply pN|apply bE)|exact HB.out)) hb);have n_KC:=Am (blk_below (g:=gc) (o:=.cells #[.int .i64 a0_0,.int .i64 a0_1,.int .i64 a0_2,.int .i64 a0_3,.int .i64 a0_4,.int .i64 a0_5,.int .i64 a0_6,.int .i64 a0_7,.int .i64 a0_8,.slice A0_9 l0_9.length c0_9,.slice A0_10 l0_10.length c0_10,.slice (some adA) l0_11.length c0_11] 28 (0,0)) (by (with_reducible repeat (first|refine bN ?_ _|refine bD ?_|refine bA ?_ _));exact KC.out) hb);have n_X:=Am (Cop.below (by (with_reducible repeat (first|apply Cop.drewN|apply Cop.drew|apply Cop.alloc));exact X.out) hb);have n_Y:=Am (Cop.below (by (with_reducible repeat (first|apply Cop.drewN|apply Cop.drew|apply Cop.alloc));exact Y.out) hb);have n_Z:=Am (Cop.below (by (with_reducible repeat (first|apply Cop.drewN|apply Cop.drew|apply Cop.alloc));exact Z.out) hb);clear HB KC;have HB:=n0_;have KC:=n_KC;clear n0_ n_KC;clear X;have X:=n_X;clear n_X;clear Y;have Y:=n_Y;clear n_Y;clear Z;have Z:=n_Z;clear n_Z;clear hb))
  have n_e : ∃ w_ g_,w_ = w13.alloc (.cells #[.int .i64 a0_0,.int .i64 a0_1,.int .i64 a0_2,.int .i64 a0_3,.int .i64 a0_4,.int .i64 a0_5,.int .i64 a0_6,.int .i64 a0_7,.int .i64 a0_8,.slice Ap9 l0_9.length cp9,.slice Ap10 l0_10.length cp10,.slice Ap11 l0_11.length cp11] 28)∧g_ = w13.heap.size:=⟨_,_,rfl,rfl⟩
  obtain ⟨w14,gp,hw_,hg_⟩:=n_e
  obtain ⟨lop,plp1,plp2,pl3,q9,q10,q11⟩:=QL.out
  have P : Aside0 (Cop w14 w.heap.size lop (gp + 1) gp (⟨a0_0,a0_1,a0_2,a0_3,a0_4,a0_5,a0_6,a0_7,a0_8⟩ : Hd) Ap9 cp9 Ap10 cp10 Ap11 cp11 l0_9 l0_10 l0_11):=⟨by rw [hw_,hg_];exact Cop.new q9 q10 q11 plp2 pl3 (bL (Below.refl _ _) _) (blk_new w13 _)⟩
  have n_KC : Aside0 (w14.heap[gc]? = some (.cells #[.int .i64 a0_0,.int .i64 a0_1,.int .i64 a0_2,.int .i64 a0_3,.int .i64 a0_4,.int .i64 a0_5,.int .i64 a0_6,.int .i64 a0_7,.int .i64 a0_8,.slice A0_9 l0_9.length c0_9,.slice A0_10 l0_10.length c0_10,.slice (some adA) l0_11.length c0_11] 28 (0,0))):=⟨by rw [hw_];exact bA KC.out _⟩
  have n_HB : Aside0 (Below w.heap.size w w14):=⟨by rw [hw_];exact bL HB.out _⟩
  have n_X:=Am (Cop.alloc X.out (.cells #[.int .i64 a0_0,.int .i64 a0_1,.int .i64 a0_2,.int .i64 a0_3,.int .i64 a0_4,.int .i64 a0_5,.int .i64 a0_6,.int .i64 a0_7,.int .i64 a0_8,.slice Ap9 l0_9.length cp9,.slice Ap10 l0_10.length cp10,.slice Ap11 l0_11.length cp11] 28))
  rw [← hw_] at n_X
  have n_Y:=Am (Cop.alloc Y.out (.cells #[.int .i64 a0_0,.int .i64 a0_1,.int .i64 a0_2,.int .i64 a0_3,.int .i64 a0_4,.int .i64 a0_5,.int .i64 a0_6,.int .i64 a0_7,.int .i64 a0_8,.slice Ap9 l0_9.length cp9,.slice Ap10 l0_10.length cp10,.slice Ap11 l0_11.length cp11] 28))
  rw [← hw_] at n_Y
  have n_Z:=Am (Cop.alloc Z.out (.cells #[.int .i64 a0_0,.int .i64 a0_1,.int .i64 a0_2,.int .i64 a0_3,.int .i64 a0_4,.int .i64 a0_5,.int .i64 a0_6,.int .i64 a0_7,.int .i64 a0_8,.slice Ap9 l0_9.length cp9,.slice Ap10 l0_10.length cp10,.slice Ap11 l0_11.length cp11] 28))
  rw [← hw_] at n_Z
  rw [← hw_,← hg_]
  have glp:=Cop.gl P.out
  clear KC HB QL q9 q10 q11 pl3 hw_ hg_
  clear X
  have X:=n_X
  clear n_X
  clear Y
  have Y:=n_Y
  clear n_Y
  clear Z
  have Z:=n_Z
  clear n_Z
  have KC:=n_KC
  have HB:=n_HB
  clear n_KC n_HB
  obtain ⟨adP,eP,hP0,hP1,hP2,hP3⟩:=at_T50 HR9.out u hu0 hu1
  cases eP
  have n_:=Am (bD KC.out)
  clear KC
  have KC:=n_
  clear n_
  have n_:=Am (bE HB.out)
  clear HB
  have HB:=n_
  clear n_
  have n_:=Am (Cop.drew X.out)
  clear X
  have X:=n_
  clear n_
  have n_:=Am (Cop.drew Y.out)
  clear Y
  have Y:=n_
  clear n_
  have n_:=Am (Cop.drew Z.out)
  clear Z
  have Z:=n_
  clear n_
  have n_:=Am (Cop.drew P.out)
  clear P
  have P:=n_
  clear n_
  refine start_ (n:=18) (S:=fun w'=>w'.cell? ⟨gp,9,none⟩ = some (.slice Ap9 l0_9.length cp9)∧w'.cell? ⟨gc,9,none⟩ = some (.slice (some adP) l0_9.length c0_9)∧w'.cell? (adP.add (u.toNat * 4)) = some (.string (rd_T50 l0_9 u).f0)∧w'.cell? ⟨(adP.add (u.toNat * 4)).block,(adP.add (u.toNat * 4)).off + 1,none⟩ = some (.int .i64 (rd_T50 l0_9 u).f1)∧w'.cell? ⟨(adP.add (u.toNat * 4)).block,(adP.add (u.toNat * 4)).off + 2,none⟩ = some (.int .i64 (rd_T50 l0_9 u).f2)∧w'.cell? ⟨(adP.add (u.toNat * 4)).block,(adP.add (u.toNat * 4)).off + 3,none⟩ = some (.int .i64 (rd_T50 l0_9 u).f3)) (ds:=[17]) #[O,O,O,O,O,O,O,O,O,O,O,O,O,O,O,O,O,O] (by kernel_rfl) rfl rfl ⟨(Cop.cell P.out 9).trans rfl,(bC KC.out 9).trans rfl,((HB.out.cell (wB w _ hP0)).trans hP0),((HB.out.cell (wB w _ hP1)).trans hP1),((HB.out.cell (wB w _ hP2)).trans hP2),((HB.out.cell (wB w _ hP3)).trans hP3)⟩ (fun hHeld=>?_)
  generalize w14.drew = w15 at KC HB X Y Z P hHeld ⊢
  refine pure_ (i:=0) (N:=some 96) (v:=?_) (a':=?_) #[J,O,O,O,O,O,O,O,O,O,O,O,O,O,O,O,O,O] rfl rfl (by kernel_rfl) (fun _ _ _ h=>h) (Or.inl ⟨by rfl,?_⟩) ?_ ?_
  rotate_left
  ·intro w'
   go_simp
   with_reducible rfl
  rotate_left
  ·simp only [Act.put,sT,sZ,sS,iW,iV]
   rfl
  refine pure_ (i:=2) (N:=some 98) (v:=?_) (a':=?_) #[J,O,J,O,O,O,O,O,O,O,O,O,O,O,O,O,O,O] rfl rfl (by kernel_rfl) (fun _ _ _ h=>h) (Or.inl ⟨by rfl,?_⟩) ?_ ?_
  rotate_left
  ·intro w'
   go_simp
   with_reducible rfl
  rotate_left
  ·simp only [Act.put,sT,sZ,sS,iW,iV]
   rfl
  refine pure_ (i:=4) (N:=some 100) (v:=?_) (a':=?_) #[J,O,J,O,J,O,O,O,O,O,O,O,O,O,O,O,O,O] rfl rfl (by kernel_rfl) (fun _ _ _ h=>h) (Or.inl ⟨by rfl,?_⟩) ?_ ?_
  rotate_left
  ·intro w'
   go_simp
   with_reducible rfl
  rotate_left
  ·simp only [Act.put,sT,sZ,sS,iW,iV]
   rfl
  refine pure_ (i:=6) (N:=some 102) (v:=?_) (a':=?_) #[J,O,J,O,J,O,J,O,O,O,O,O,O,O,O,O,O,O] rfl rfl (by kernel_rfl) (fun _ _ _ h=>h) (Or.inl ⟨by rfl,?_⟩) ?_ ?_
  rotate_left
  ·intro w'
   go_simp
   with_reducible rfl
  rotate_left
  ·simp only [Act.put,sT,sZ,sS,iW,iV]
   rfl
  refine pure_ (i:=5) (N:=some 101) (v:=?_) (a':=?_) #[J,O,J,O,J,J,J,O,O,O,O,O,O,O,O,O,O,O] rfl rfl (by kernel_rfl) (fun _ _ _ h=>h) (Or.inl ⟨by rfl,?_⟩) ?_ ?_
  rotate_left
  ·intro w'
   go_simp
   with_reducible rfl
  rotate_left
  ·simp only [Act.put,sT,sZ,sS,iW,iV]
   rfl
  refine take_ (i:=1) (N:=some 97) (v:=?_) (a':=?_) #[J,J,J,O,J,J,J,O,O,O,O,O,O,O,O,O,O,O] rfl rfl (by kernel_rfl) (fun _ _ _ h=>h) (Or.inl ⟨by rfl,?_⟩) hHeld ?_ ?_
  rotate_left
  ·rintro w' ⟨s0,s1,s2,s3,s4,s5⟩
   go_simp
   with_reducible rfl
  rotate_left
  ·simp only [Act.put,sT,sZ,sS,iW,iV]
   rfl
  refine take_ (i:=3) (N:=some 99) (v:=?_) (a':=?_) #[J,J,J,J,J,J,J,O,O,O,O,O,O,O,O,O,O,O] rfl rfl (by kernel_rfl) (fun _ _ _ h=>h) (Or.inl ⟨by rfl,?_⟩) hHeld ?_ ?_
  rotate_left
  ·rintro w' ⟨s0,s1,s2,s3,s4,s5⟩
   go_simp
   with_reducible rfl
  rotate_left
  ·simp only [Act.put,sT,sZ,sS,iW,iV]
   rfl
  refine take_ (i:=7) (N:=some 103) (v:=?_) (a':=?_) #[J,J,J,J,J,J,J,J,O,O,O,O,O,O,O,O,O,O] rfl rfl (by kernel_rfl) (fun _ _ _ h=>h) (Or.inl ⟨by rfl,?_⟩) hHeld ?_ ?_
  rotate_left
  ·rintro w' ⟨s0,s1,s2,s3,s4,s5⟩
   go_simp
   with_reducible rfl
  rotate_left
  ·simp only [Act.put,sT,sZ,sS,iW,iV]
   rfl
  refine pure_ (i:=8) (N:=some 104) (v:=?_) (a':=?_) #[J,J,J,J,J,J,J,J,J,O,O,O,O,O,O,O,O,O] rfl rfl (by kernel_rfl) (fun _ _ _ h=>h) (Or.inl ⟨by rfl,?_⟩) ?_ ?_
  rotate_left
  ·intro w'
   go_simp
   with_reducible rfl
  rotate_left
  ·simp only [Act.put,sT,sZ,sS,iW,iV]
   rfl
  refine pure_ (i:=9) (N:=some 105) (v:=?_) (a':=?_) #[J,J,J,J,J,J,J,J,J,J,O,O,O,O,O,O,O,O] rfl rfl (by kernel_rfl) (fun _ _ _ h=>h) (Or.inl ⟨by rfl,?_⟩) ?_ ?_
  rotate_left
  ·intro w'
   go_simp
   with_reducible rfl
  rotate_left
  ·simp only [Act.put,sT,sZ,sS,iW,iV]
   rfl
  refine pure_ (i:=10) (N:=some 106) (v:=?_) (a':=?_) #[J,J,J,J,J,J,J,J,J,J,J,O,O,O,O,O,O,O] rfl rfl (by kernel_rfl) (fun _ _ _ h=>h) (Or.inl ⟨by rfl,?_⟩) ?_ ?_
  rotate_left
  ·intro w'
   go_simp
   with_reducible rfl
  rotate_left
  ·simp only [Act.put,sT,sZ,sS,iW,iV]
   rfl
  refine pure_ (i:=11) (N:=some 107) (v:=?_) (a':=?_) #[J,J,J,J,J,J,J,J,J,J,J,J,O,O,O,O,O,O] rfl rfl (by kernel_rfl) (fun _ _ _ h=>h) (Or.inl ⟨by rfl,?_⟩) ?_ ?_
  rotate_left
  ·intro w'
   go_simp
   with_reducible rfl
  rotate_left
  ·simp only [Act.put,sT,sZ,sS,iW,iV]
   rfl
  refine pure_ (i:=12) (N:=some 108) (v:=?_) (a':=?_) #[J,J,J,J,J,J,J,J,J,J,J,J,J,O,O,O,O,O] rfl rfl (by kernel_rfl) (fun _ _ _ h=>h) (Or.inl ⟨by rfl,?_⟩) ?_ ?_
  rotate_left
  ·intro w'
   go_simp
   with_reducible rfl
  rotate_left
  ·simp only [Act.put,sT,sZ,sS,iW,iV]
   rfl
  refine take_ (i:=13) (N:=some 109) (v:=?_) (a':=?_) #[J,J,J,J,J,J,J,J,J,J,J,J,J,J,O,O,O,O] rfl rfl (by kernel_rfl) (fun _ _ _ h=>h) (Or.inl ⟨by rfl,?_⟩) hHeld ?_ ?_
  rotate_left
  ·rintro w' ⟨s0,s1,s2,s3,s4,s5⟩
   go_simp
   with_reducible rfl
  rotate_left
  ·simp only [Act.put,sT,sZ,sS,iW,iV]
   rfl
  refine one_ (i:=14) (N:=some 110) #[J,J,J,J,J,J,J,J,J,J,J,J,J,J,J,O,O,O] rfl rfl (by kernel_rfl) (by decide) (fun K hK=>?_)
  refine value_ (w1:=?_) (v:=?_) (by rfl) rfl ?_ ?_
  rotate_left 2
  ·go_simp
   constructor
   ·rfl
   ·rfl
  refine hK.out _ _ ⟨(World.cell?_alloc_lt _ _ _ (wB _ _ (hHeld.1))).trans (hHeld.1),(World.cell?_alloc_lt _ _ _ (wB _ _ (hHeld.2.1))).trans (hHeld.2.1),(World.cell?_alloc_lt _ _ _ (wB _ _ (hHeld.2.2.1))).trans (hHeld.2.2.1),(World.cell?_alloc_lt _ _ _ (wB _ _ (hHeld.2.2.2.1))).trans (hHeld.2.2.2.1),(World.cell?_alloc_lt _ _ _ (wB _ _ (hHeld.2.2.2.2.1))).trans (hHeld.2.2.2.2.1),(World.cell?_alloc_lt _ _ _ (wB _ _ (hHeld.2.2.2.2.2))).trans (hHeld.2.2.2.2.2)⟩ (fun hHeld=>?_)
  clear hK K
  refine norm_ (a':=?_) ?_ ?_
  rotate_left
  ·show Act.put _ (some 110) _ = _
   simp only [Act.put,sT,sZ,sS,iW,iV]
   rfl
  refine one_ (i:=15) (N:=some 111) #[J,J,J,J,J,J,J,J,J,J,J,J,J,J,J,J,O,O] rfl rfl (by kernel_rfl) (by decide) (fun K hK=>?_)
  refine Kd.R_append_step k50 (w0:=w) w.heap.size (by rfl) (.tmp 97) (.tmp 110) 24 50 (.agg #[(.string ⟨#[]⟩),(.int .i64 0),(.int .i64 0),(.int .i64 0)]) 40 rfl Tryd.underlying24 info50 rfl (by decide) (by omega) (.slice Ap9 l0_9.length cp9) l0_9 (⟨(rd_T50 l0_9 u).f0,(rd_T50 l0_9 u).f1,(rd_T50 l0_9 u).f2,(rd_T50 l0_9 u).f3⟩ : S50) [.string (rd_T50 l0_9 u).f0,.int .i64 (rd_T50 l0_9 u).f1,.int .i64 (rd_T50 l0_9 u).f2,.int .i64 (rd_T50 l0_9 u).f3] (fun k_=>lop≤k_) (fun _=>False) rfl rfl ?aP (fun _ hk=>hk.elim) ?aF ?aO ?aB ?aS ?aL ?_
  case aP=>exact k50_mkM _ _ _ (⟨(rd_T50 l0_9 u).f0,(rd_T50 l0_9 u).f1,(rd_T50 l0_9 u).f2,(rd_T50 l0_9 u).f3⟩ : S50)
  case aB=>exact HB.out
  case aF=>exact fun k_ hk=>by have h1_:=Cop.gl P.out;have h2_:=Cop.gh P.out;have h3_:=Cop.hw P.out;omega
  case aO=>exact Kd.R_mono (Cop.r9 P.out) (fun k_ hk=>hk.1)
  case aS=>exact bZ HB.out
  case aL=>omega
  intro v1 w16 ho hb hg hat
  have prow : ∀ k_,(.slice Ap9 l0_9.length cp9 : Value).ownBlock = some k_→lop≤k_∧k_ < gp + 1:=(Cop.r9 P.out).1
  rw [← HPN.out] at ho
  obtain ⟨Apn,cpn,rfl,hnew,hc1_,hf1_⟩:=Cop.app9 P.out HPN.out ho hg
  have n_KC:=Am ((hg.block gc (blk_lt KC.out) (fun e_=>by have:=prow gc e_.symm;omega)).trans KC.out)
  have n_X:=Am (Cop.grown X.out hg (fun k_ e_=>by have:=prow k_ e_;omega))
  have n_Y:=Am (Cop.grown Y.out hg (fun k_ e_=>by have:=prow k_ e_;omega))
  have n_Z:=Am (Cop.grown Z.out hg (fun k_ e_=>by have:=prow k_ e_;omega))
  have n_HB:=Am hb
  clear KC HB X Y Z hg ho hat hb
  have KC:=n_KC
  have HB:=n_HB
  clear n_KC n_HB
  have X:=n_X
  clear n_X
  have Y:=n_Y
  clear n_Y
  have Z:=n_Z
  clear n_Z
  refine hK.out _ _ ⟨hc1_,(bC KC.out 9).trans rfl,(HB.out.cell (wB w _ hP0)).trans hP0,(HB.out.cell (wB w _ hP1)).trans hP1,(HB.out.cell (wB w _ hP2)).trans hP2,(HB.out.cell (wB w _ hP3)).trans hP3⟩ (fun hHeld=>?_)
  clear hK K
  refine norm_ (a':=?_) ?_ ?_
  rotate_left
  ·show Act.put _ (some 111) _ = _
   simp only [Act.put,sT,sZ,sS,iW,iV]
   rfl
  refine pure_ (i:=16) (N:=some 112) (v:=?_) (a':=?_) #[J,J,J,J,J,J,J,J,J,J,J,J,J,J,J,J,J,O] rfl rfl (by kernel_rfl) (fun _ _ _ h=>h) (Or.inl ⟨by rfl,?_⟩) ?_ ?_
  rotate_left
  ·intro w'
   go_simp
   with_reducible rfl
  rotate_left
  ·simp only [Act.put,sT,sZ,sS,iW,iV]
   rfl
  refine last_ (i:=17) (N:=none) #[J,J,J,J,J,J,J,J,J,J,J,J,J,J,J,J,J,J] rfl rfl (by kernel_rfl) (by decide) (fun K hK=>?_)
  refine skip_ (w1:=?_) (by rfl) rfl ?_ ?_
  rotate_left
  ·go_simp
   rfl
  refine hK.out _ _ ?_
  clear hK K
  refine done_ (by kernel_rfl) ?_
  have n_KC:=Am (blk_far KC.out (p:=⟨gp,9,none⟩) (show gc ≠ gp by omega) (.slice Apn PN.length cpn))
  have n_HB:=Am (bS (j:=9) (v:=.slice Apn PN.length cpn) HB.out (show w.heap.size≤gp by omega))
  have n_P:=Am hnew
  have n_X:=Am (Cop.set X.out (q:=gp) (Or.inr (by omega)) 9 (.slice Apn PN.length cpn))
  have n_Y:=Am (Cop.set Y.out (q:=gp) (Or.inr (by omega)) 9 (.slice Apn PN.length cpn))
  have n_Z:=Am (Cop.set Z.out (q:=gp) (Or.inr (by omega)) 9 (.slice Apn PN.length cpn))
  clear KC HB P X Y Z hnew hc1_ hf1_
  generalize (w16.setCell ⟨gp,9,none⟩ (.slice Apn PN.length cpn)) = w17 at n_KC n_HB n_P n_X n_Y n_Z ⊢
  have KC:=n_KC
  clear n_KC
  have HB:=n_HB
  clear n_HB
  have P:=n_P
  clear n_P
  have X:=n_X
  clear n_X
  have Y:=n_Y
  clear n_Y
  have Z:=n_Z
  clear n_Z
  obtain ⟨hip,hiP⟩ : ∃ q_,q_ = w16.heap.size:=⟨_,rfl⟩
  rw [← hiP] at P
  have ghp:=Cop.gh P.out
  clear hiP
  have zc0 : w17.cell? ⟨gc,0,none⟩ = some (.int .i64 a0_0):=(bC KC.out 0).trans rfl
  have zc1 : w17.cell? ⟨gc,1,none⟩ = some (.int .i64 a0_1):=(bC KC.out 1).trans rfl
  have zc2 : w17.cell? ⟨gc,2,none⟩ = some (.int .i64 a0_2):=(bC KC.out 2).trans rfl
  have zc3 : w17.cell? ⟨gc,3,none⟩ = some (.int .i64 a0_3):=(bC KC.out 3).trans rfl
  have zc4 : w17.cell? ⟨gc,4,none⟩ = some (.int .i64 a0_4):=(bC KC.out 4).trans rfl
  have zc5 : w17.cell? ⟨gc,5,none⟩ = some (.int .i64 a0_5):=(bC KC.out 5).trans rfl
  have zc6 : w17.cell? ⟨gc,6,none⟩ = some (.int .i64 a0_6):=(bC KC.out 6).trans rfl
  have zc7 : w17.cell? ⟨gc,7,none⟩ = some (.int .i64 a0_7):=(bC KC.out 7).trans rfl
  have zc8 : w17.cell? ⟨gc,8,none⟩ = some (.int .i64 a0_8):=(bC KC.out 8).trans rfl
  have zc9 : w17.cell? ⟨gc,9,none⟩ = some (.slice (some adP) l0_9.length c0_9):=(bC KC.out 9).trans rfl
  have zc10 : w17.cell? ⟨gc,10,none⟩ = some (.slice A0_10 l0_10.length c0_10):=(bC KC.out 10).trans rfl
  have zc11 : w17.cell? ⟨gc,11,none⟩ = some (.slice (some adA) l0_11.length c0_11):=(bC KC.out 11).trans rfl
  go_wp2_with (first|(go_at_call 11;(with_reducible refine (gangerref10_Copy.calls a0_0 a0_1 a0_2 a0_3 a0_4 a0_5 a0_6 a0_7 a0_8 (some adP) c0_9 l0_9 A0_10 c0_10 l0_10 (some adA) c0_11 l0_11 a0_0 a0_1 a0_2 a0_3 a0_4 a0_5 a0_6 a0_7 a0_8 l0_9 l0_10 l0_11 _ ?s1 ?s2 ?s3 ?s4 ?s5 ?s6 hCopy).mono ?_);(case s1=>exact Kd.C_below HR9.out (by repeat (first|(with_reducible first|exact HB.out|apply bL|apply pN|apply bE)|exact HB.out)));(case s2=>exact HC9.out);(case s3=>exact Kd.C_below HR10.out (by repeat (first|(with_reducible first|exact HB.out|apply bL|apply pN|apply bE)|exact HB.out)));(case s4=>exact HC10.out);(case s5=>exact Kd.C_below HR11.out (by repeat (first|(with_reducible first|exact HB.out|apply bL|apply pN|apply bE)|exact HB.out)));(case s6=>exact HC11.out);rintro e w18 ⟨v9,v10,v11,rfl,q9,q10,q11,hb⟩;obtain ⟨Aq9,cq9,rfl⟩:=Kd.R_slice q9;obtain ⟨Aq10,cq10,rfl⟩:=Kd.R_slice q10;obtain ⟨Aq11,cq11,rfl⟩:=Kd.R_slice q11;have QL : Aside0 (∃ lo,hip≤lo∧w.heap.size≤lo∧lo≤w18.heap.size∧Kd.R k50 50 w18 lo (fun _=>True) (.slice Aq9 l0_9.length cq9) l0_9∧Kd.R k52 52 w18 lo (fun _=>True) (.slice Aq10 l0_10.length cq10) l0_10∧Kd.R k48 48 w18 lo (fun _=>True) (.slice Aq11 l0_11.length cq11) l0_11):=⟨⟨_,Cop.hw (by (with_reducible repeat (first|apply Cop.drewN|apply Cop.drew|apply Cop.alloc));exact P.out),bZ (by repeat (first|(with_reducible first|exact HB.out|apply bL|apply pN|apply bE)|exact HB.out)),hb.size,q9,q10,q11⟩⟩;clear q9 q10 q11;have n0_:=Am (below_step (by repeat (first|(with_reducible first|exact HB.out|apply bL|apply pN|apply bE)|exact HB.out)) hb);have n_KC:=Am (blk_below (g:=gc) (o:=.cells #[.int .i64 a0_0,.int .i64 a0_1,.int .i64 a0_2,.int .i64 a0_3,.int .i64 a0_4,.int .i64 a0_5,.int .i64 a0_6,.int .i64 a0_7,.int .i64 a0_8,.slice (some adP) l0_9.length c0_9,.slice A0_10 l0_10.length c0_10,.slice (some adA) l0_11.length c0_11] 28 (0,0)) (by (with_reducible repeat (first|refine bN ?_ _|refine bD ?_|refine bA ?_ _));exact KC.out) hb);have n_X:=Am (Cop.below (by (with_reducible repeat (first|apply Cop.drewN|apply Cop.drew|apply Cop.alloc));exact X.out) hb);have n_Y:=Am (Cop.below (by (with_reducible repeat (first|apply Cop.drewN|apply Cop.drew|apply Cop.alloc));exact Y.out) hb);have n_Z:=Am (Cop.below (by (with_reducible repeat (first|apply Cop.drewN|apply Cop.drew|apply Cop.alloc));exact Z.out) hb);have n_P:=Am (Cop.below (by (with_reducible repeat (first|apply Cop.drewN|apply Cop.drew|apply Cop.alloc));exact P.out) hb);clear HB KC;have HB:=n0_;have KC:=n_KC;clear n0_ n_KC;clear X;have X:=n_X;clear n_X;clear Y;have Y:=n_Y;clear n_Y;clear Z;have Z:=n_Z;clear n_Z;clear P;have P:=n_P;clear n_P;clear hb))
  have n_e : ∃ w_ g_,w_ = w18.alloc (.cells #[.int .i64 a0_0,.int .i64 a0_1,.int .i64 a0_2,.int .i64 a0_3,.int .i64 a0_4,.int .i64 a0_5,.int .i64 a0_6,.int .i64 a0_7,.int .i64 a0_8,.slice Aq9 l0_9.length cq9,.slice Aq10 l0_10.length cq10,.slice Aq11 l0_11.length cq11] 28)∧g_ = w18.heap.size:=⟨_,_,rfl,rfl⟩
  obtain ⟨w19,gq,hw_,hg_⟩:=n_e
  obtain ⟨loq,plq1,plq2,pl3,q9,q10,q11⟩:=QL.out
  have Q : Aside0 (Cop w19 w.heap.size loq (gq + 1) gq (⟨a0_0,a0_1,a0_2,a0_3,a0_4,a0_5,a0_6,a0_7,a0_8⟩ : Hd) Aq9 cq9 Aq10 cq10 Aq11 cq11 l0_9 l0_10 l0_11):=⟨by rw [hw_,hg_];exact Cop.new q9 q10 q11 plq2 pl3 (bL (Below.refl _ _) _) (blk_new w18 _)⟩
  have n_KC : Aside0 (w19.heap[gc]? = some (.cells #[.int .i64 a0_0,.int .i64 a0_1,.int .i64 a0_2,.int .i64 a0_3,.int .i64 a0_4,.int .i64 a0_5,.int .i64 a0_6,.int .i64 a0_7,.int .i64 a0_8,.slice (some adP) l0_9.length c0_9,.slice A0_10 l0_10.length c0_10,.slice (some adA) l0_11.length c0_11] 28 (0,0))):=⟨by rw [hw_];exact bA KC.out _⟩
  have n_HB : Aside0 (Below w.heap.size w w19):=⟨by rw [hw_];exact bL HB.out _⟩
  have n_X:=Am (Cop.alloc X.out (.cells #[.int .i64 a0_0,.int .i64 a0_1,.int .i64 a0_2,.int .i64 a0_3,.int .i64 a0_4,.int .i64 a0_5,.int .i64 a0_6,.int .i64 a0_7,.int .i64 a0_8,.slice Aq9 l0_9.length cq9,.slice Aq10 l0_10.length cq10,.slice Aq11 l0_11.length cq11] 28))
  rw [← hw_] at n_X
  have n_Y:=Am (Cop.alloc Y.out (.cells #[.int .i64 a0_0,.int .i64 a0_1,.int .i64 a0_2,.int .i64 a0_3,.int .i64 a0_4,.int .i64 a0_5,.int .i64 a0_6,.int .i64 a0_7,.int .i64 a0_8,.slice Aq9 l0_9.length cq9,.slice Aq10 l0_10.length cq10,.slice Aq11 l0_11.length cq11] 28))
  rw [← hw_] at n_Y
  have n_Z:=Am (Cop.alloc Z.out (.cells #[.int .i64 a0_0,.int .i64 a0_1,.int .i64 a0_2,.int .i64 a0_3,.int .i64 a0_4,.int .i64 a0_5,.int .i64 a0_6,.int .i64 a0_7,.int .i64 a0_8,.slice Aq9 l0_9.length cq9,.slice Aq10 l0_10.length cq10,.slice Aq11 l0_11.length cq11] 28))
  rw [← hw_] at n_Z
  have n_P:=Am (Cop.alloc P.out (.cells #[.int .i64 a0_0,.int .i64 a0_1,.int .i64 a0_2,.int .i64 a0_3,.int .i64 a0_4,.int .i64 a0_5,.int .i64 a0_6,.int .i64 a0_7,.int .i64 a0_8,.slice Aq9 l0_9.length cq9,.slice Aq10 l0_10.length cq10,.slice Aq11 l0_11.length cq11] 28))
  rw [← hw_] at n_P
  rw [← hw_,← hg_]
  have glq:=Cop.gl Q.out
  clear KC HB QL q9 q10 q11 pl3 hw_ hg_
  clear X
  have X:=n_X
  clear n_X
  clear Y
  have Y:=n_Y
  clear n_Y
  clear Z
  have Z:=n_Z
  clear n_Z
  clear P
  have P:=n_P
  clear n_P
  have KC:=n_KC
  have HB:=n_HB
  clear n_KC n_HB
  obtain ⟨adQ,eQ,hQ0,hQ1,hQ2⟩:=at_T52 HR10.out v hv0 hv1
  cases eQ
  have n_:=Am (bD KC.out)
  clear KC
  have KC:=n_
  clear n_
  have n_:=Am (bE HB.out)
  clear HB
  have HB:=n_
  clear n_
  have n_:=Am (Cop.drew X.out)
  clear X
  have X:=n_
  clear n_
  have n_:=Am (Cop.drew Y.out)
  clear Y
  have Y:=n_
  clear n_
  have n_:=Am (Cop.drew Z.out)
  clear Z
  have Z:=n_
  clear n_
  have n_:=Am (Cop.drew P.out)
  clear P
  have P:=n_
  clear n_
  have n_:=Am (Cop.drew Q.out)
  clear Q
  have Q:=n_
  clear n_
  refine start_ (n:=18) (S:=fun w'=>w'.cell? ⟨gq,10,none⟩ = some (.slice Aq10 l0_10.length cq10)∧w'.cell? ⟨gc,10,none⟩ = some (.slice (some adQ) l0_10.length c0_10)∧w'.cell? (adQ.add (v.toNat * 3)) = some (.string (rd_T52 l0_10 v).f0)∧w'.cell? ⟨(adQ.add (v.toNat * 3)).block,(adQ.add (v.toNat * 3)).off + 1,none⟩ = some (.int .i64 (rd_T52 l0_10 v).f1)∧w'.cell? ⟨(adQ.add (v.toNat * 3)).block,(adQ.add (v.toNat * 3)).off + 2,none⟩ = some (.int .i64 (rd_T52 l0_10 v).f2)) (ds:=[17]) #[O,O,O,O,O,O,O,O,O,O,O,O,O,O,O,O,O,O] (by kernel_rfl) rfl rfl ⟨(Cop.cell Q.out 10).trans rfl,(bC KC.out 10).trans rfl,((HB.out.cell (wB w _ hQ0)).trans hQ0),((HB.out.cell (wB w _ hQ1)).trans hQ1),((HB.out.cell (wB w _ hQ2)).trans hQ2)⟩ (fun hHeld=>?_)
  generalize w19.drew = w20 at KC HB X Y Z P Q hHeld ⊢
  refine pure_ (i:=0) (N:=some 115) (v:=?_) (a':=?_) #[J,O,O,O,O,O,O,O,O,O,O,O,O,O,O,O,O,O] rfl rfl (by kernel_rfl) (fun _ _ _ h=>h) (Or.inl ⟨by rfl,?_⟩) ?_ ?_
  rotate_left
  ·intro w'
   go_simp
   with_reducible rfl
  rotate_left
  ·simp only [Act.put,sT,sZ,sS,iW,iV]
   rfl
  refine pure_ (i:=2) (N:=some 117) (v:=?_) (a':=?_) #[J,O,J,O,O,O,O,O,O,O,O,O,O,O,O,O,O,O] rfl rfl (by kernel_rfl) (fun _ _ _ h=>h) (Or.inl ⟨by rfl,?_⟩) ?_ ?_
  rotate_left
  ·intro w'
   go_simp
   with_reducible rfl
  rotate_left
  ·simp only [Act.put,sT,sZ,sS,iW,iV]
   rfl
  refine pure_ (i:=4) (N:=some 119) (v:=?_) (a':=?_) #[J,O,J,O,J,O,O,O,O,O,O,O,O,O,O,O,O,O] rfl rfl (by kernel_rfl) (fun _ _ _ h=>h) (Or.inl ⟨by rfl,?_⟩) ?_ ?_
  rotate_left
  ·intro w'
   go_simp
   with_reducible rfl
  rotate_left
  ·simp only [Act.put,sT,sZ,sS,iW,iV]
   rfl
  refine pure_ (i:=6) (N:=some 121) (v:=?_) (a':=?_) #[J,O,J,O,J,O,J,O,O,O,O,O,O,O,O,O,O,O] rfl rfl (by kernel_rfl) (fun _ _ _ h=>h) (Or.inl ⟨by rfl,?_⟩) ?_ ?_
  rotate_left
  ·intro w'
   go_simp
   with_reducible rfl
  rotate_left
  ·simp only [Act.put,sT,sZ,sS,iW,iV]
   rfl
  refine pure_ (i:=5) (N:=some 120) (v:=?_) (a':=?_) #[J,O,J,O,J,J,J,O,O,O,O,O,O,O,O,O,O,O] rfl rfl (by kernel_rfl) (fun _ _ _ h=>h) (Or.inl ⟨by rfl,?_⟩) ?_ ?_
  rotate_left
  ·intro w'
   go_simp
   with_reducible rfl
  rotate_left
  ·simp only [Act.put,sT,sZ,sS,iW,iV]
   rfl
  refine take_ (i:=1) (N:=some 116) (v:=?_) (a':=?_) #[J,J,J,O,J,J,J,O,O,O,O,O,O,O,O,O,O,O] rfl rfl (by kernel_rfl) (fun _ _ _ h=>h) (Or.inl ⟨by rfl,?_⟩) hHeld ?_ ?_
  rotate_left
  ·rintro w' ⟨s0,s1,s2,s3,s4⟩
   go_simp
   with_reducible rfl
  rotate_left
  ·simp only [Act.put,sT,sZ,sS,iW,iV]
   rfl
  refine take_ (i:=3) (N:=some 118) (v:=?_) (a':=?_) #[J,J,J,J,J,J,J,O,O,O,O,O,O,O,O,O,O,O] rfl rfl (by kernel_rfl) (fun _ _ _ h=>h) (Or.inl ⟨by rfl,?_⟩) hHeld ?_ ?_
  rotate_left
  ·rintro w' ⟨s0,s1,s2,s3,s4⟩
   go_simp
   with_reducible rfl
  rotate_left
  ·simp only [Act.put,sT,sZ,sS,iW,iV]
   rfl
  refine take_ (i:=7) (N:=some 122) (v:=?_) (a':=?_) #[J,J,J,J,J,J,J,J,O,O,O,O,O,O,O,O,O,O] rfl rfl (by kernel_rfl) (fun _ _ _ h=>h) (Or.inl ⟨by rfl,?_⟩) hHeld ?_ ?_
  rotate_left
  ·rintro w' ⟨s0,s1,s2,s3,s4⟩
   go_simp
   with_reducible rfl
  rotate_left
  ·simp only [Act.put,sT,sZ,sS,iW,iV]
   rfl
  refine pure_ (i:=8) (N:=some 123) (v:=?_) (a':=?_) #[J,J,J,J,J,J,J,J,J,O,O,O,O,O,O,O,O,O] rfl rfl (by kernel_rfl) (fun _ _ _ h=>h) (Or.inl ⟨by rfl,?_⟩) ?_ ?_
  rotate_left
  ·intro w'
   go_simp
   with_reducible rfl
  rotate_left
  ·simp only [Act.put,sT,sZ,sS,iW,iV]
   rfl
  refine pure_ (i:=9) (N:=some 124) (v:=?_) (a':=?_) #[J,J,J,J,J,J,J,J,J,J,O,O,O,O,O,O,O,O] rfl rfl (by kernel_rfl) (fun _ _ _ h=>h) (Or.inl ⟨by rfl,?_⟩) ?_ ?_
  rotate_left
  ·intro w'
   go_simp
   with_reducible rfl
  rotate_left
  ·simp only [Act.put,sT,sZ,sS,iW,iV]
   rfl
  refine pure_ (i:=10) (N:=some 125) (v:=?_) (a':=?_) #[J,J,J,J,J,J,J,J,J,J,J,O,O,O,O,O,O,O] rfl rfl (by kernel_rfl) (fun _ _ _ h=>h) (Or.inl ⟨by rfl,?_⟩) ?_ ?_
  rotate_left
  ·intro w'
   go_simp
   with_reducible rfl
  rotate_left
  ·simp only [Act.put,sT,sZ,sS,iW,iV]
   rfl
  refine pure_ (i:=11) (N:=some 126) (v:=?_) (a':=?_) #[J,J,J,J,J,J,J,J,J,J,J,J,O,O,O,O,O,O] rfl rfl (by kernel_rfl) (fun _ _ _ h=>h) (Or.inl ⟨by rfl,?_⟩) ?_ ?_
  rotate_left
  ·intro w'
   go_simp
   with_reducible rfl
  rotate_left
  ·simp only [Act.put,sT,sZ,sS,iW,iV]
   rfl
  refine pure_ (i:=12) (N:=some 127) (v:=?_) (a':=?_) #[J,J,J,J,J,J,J,J,J,J,J,J,J,O,O,O,O,O] rfl rfl (by kernel_rfl) (fun _ _ _ h=>h) (Or.inl ⟨by rfl,?_⟩) ?_ ?_
  rotate_left
  ·intro w'
   go_simp
   with_reducible rfl
  rotate_left
  ·simp only [Act.put,sT,sZ,sS,iW,iV]
   rfl
  refine take_ (i:=13) (N:=some 128) (v:=?_) (a':=?_) #[J,J,J,J,J,J,J,J,J,J,J,J,J,J,O,O,O,O] rfl rfl (by kernel_rfl) (fun _ _ _ h=>h) (Or.inl ⟨by rfl,?_⟩) hHeld ?_ ?_
  rotate_left
  ·rintro w' ⟨s0,s1,s2,s3,s4⟩
   go_simp
   with_reducible rfl
  rotate_left
  ·simp only [Act.put,sT,sZ,sS,iW,iV]
   rfl
  refine one_ (i:=14) (N:=some 129) #[J,J,J,J,J,J,J,J,J,J,J,J,J,J,J,O,O,O] rfl rfl (by kernel_rfl) (by decide) (fun K hK=>?_)
  refine value_ (w1:=?_) (v:=?_) (by rfl) rfl ?_ ?_
  rotate_left 2
  ·go_simp
   constructor
   ·rfl
   ·rfl
  refine hK.out _ _ ⟨(World.cell?_alloc_lt _ _ _ (wB _ _ (hHeld.1))).trans (hHeld.1),(World.cell?_alloc_lt _ _ _ (wB _ _ (hHeld.2.1))).trans (hHeld.2.1),(World.cell?_alloc_lt _ _ _ (wB _ _ (hHeld.2.2.1))).trans (hHeld.2.2.1),(World.cell?_alloc_lt _ _ _ (wB _ _ (hHeld.2.2.2.1))).trans (hHeld.2.2.2.1),(World.cell?_alloc_lt _ _ _ (wB _ _ (hHeld.2.2.2.2))).trans (hHeld.2.2.2.2)⟩ (fun hHeld=>?_)
  clear hK K
  refine norm_ (a':=?_) ?_ ?_
  rotate_left
  ·show Act.put _ (some 129) _ = _
   simp only [Act.put,sT,sZ,sS,iW,iV]
   rfl
  refine one_ (i:=15) (N:=some 130) #[J,J,J,J,J,J,J,J,J,J,J,J,J,J,J,J,O,O] rfl rfl (by kernel_rfl) (by decide) (fun K hK=>?_)
  refine Kd.R_append_step k52 (w0:=w) w.heap.size (by rfl) (.tmp 116) (.tmp 129) 25 52 (.agg #[(.string ⟨#[]⟩),(.int .i64 0),(.int .i64 0)]) 32 rfl Tryd.underlying25 info52 rfl (by decide) (by omega) (.slice Aq10 l0_10.length cq10) l0_10 (⟨(rd_T52 l0_10 v).f0,(rd_T52 l0_10 v).f1,(rd_T52 l0_10 v).f2⟩ : S52) [.string (rd_T52 l0_10 v).f0,.int .i64 (rd_T52 l0_10 v).f1,.int .i64 (rd_T52 l0_10 v).f2] (fun k_=>loq≤k_) (fun _=>False) rfl rfl ?aP (fun _ hk=>hk.elim) ?aF ?aO ?aB ?aS ?aL ?_
  case aP=>exact k52_mkM _ _ _ (⟨(rd_T52 l0_10 v).f0,(rd_T52 l0_10 v).f1,(rd_T52 l0_10 v).f2⟩ : S52)
  case aB=>exact HB.out
  case aF=>exact fun k_ hk=>by have h1_:=Cop.gl Q.out;have h2_:=Cop.gh Q.out;have h3_:=Cop.hw Q.out;omega
  case aO=>exact Kd.R_mono (Cop.r10 Q.out) (fun k_ hk=>hk.1)
  case aS=>exact bZ HB.out
  case aL=>omega
  intro v1 w21 ho hb hg hat
  have prow : ∀ k_,(.slice Aq10 l0_10.length cq10 : Value).ownBlock = some k_→loq≤k_∧k_ < gq + 1:=(Cop.r10 Q.out).1
  rw [← HQN.out] at ho
  obtain ⟨Aqn,cqn,rfl,hnew,hc1_,hf1_⟩:=Cop.app10 Q.out HQN.out ho hg
  have n_KC:=Am ((hg.block gc (blk_lt KC.out) (fun e_=>by have:=prow gc e_.symm;omega)).trans KC.out)
  have n_X:=Am (Cop.grown X.out hg (fun k_ e_=>by have:=prow k_ e_;omega))
  have n_Y:=Am (Cop.grown Y.out hg (fun k_ e_=>by have:=prow k_ e_;omega))
  have n_Z:=Am (Cop.grown Z.out hg (fun k_ e_=>by have:=prow k_ e_;omega))
  have n_P:=Am (Cop.grown P.out hg (fun k_ e_=>by have:=prow k_ e_;omega))
  have n_HB:=Am hb
  clear KC HB X Y Z P hg ho hat hb
  have KC:=n_KC
  have HB:=n_HB
  clear n_KC n_HB
  have X:=n_X
  clear n_X
  have Y:=n_Y
  clear n_Y
  have Z:=n_Z
  clear n_Z
  have P:=n_P
  clear n_P
  refine hK.out _ _ ⟨hc1_,(bC KC.out 10).trans rfl,(HB.out.cell (wB w _ hQ0)).trans hQ0,(HB.out.cell (wB w _ hQ1)).trans hQ1,(HB.out.cell (wB w _ hQ2)).trans hQ2⟩ (fun hHeld=>?_)
  clear hK K
  refine norm_ (a':=?_) ?_ ?_
  rotate_left
  ·show Act.put _ (some 130) _ = _
   simp only [Act.put,sT,sZ,sS,iW,iV]
   rfl
  refine pure_ (i:=16) (N:=some 131) (v:=?_) (a':=?_) #[J,J,J,J,J,J,J,J,J,J,J,J,J,J,J,J,J,O] rfl rfl (by kernel_rfl) (fun _ _ _ h=>h) (Or.inl ⟨by rfl,?_⟩) ?_ ?_
  rotate_left
  ·intro w'
   go_simp
   with_reducible rfl
  rotate_left
  ·simp only [Act.put,sT,sZ,sS,iW,iV]
   rfl
  refine last_ (i:=17) (N:=none) #[J,J,J,J,J,J,J,J,J,J,J,J,J,J,J,J,J,J] rfl rfl (by kernel_rfl) (by decide) (fun K hK=>?_)
  refine skip_ (w1:=?_) (by rfl) rfl ?_ ?_
  rotate_left
  ·go_simp
   rfl
  refine hK.out _ _ ?_
  clear hK K
  refine done_ (by kernel_rfl) ?_
  have n_KC:=Am (blk_far KC.out (p:=⟨gq,10,none⟩) (show gc ≠ gq by omega) (.slice Aqn QN.length cqn))
  have n_HB:=Am (bS (j:=10) (v:=.slice Aqn QN.length cqn) HB.out (show w.heap.size≤gq by omega))
  have n_Q:=Am hnew
  have n_X:=Am (Cop.set X.out (q:=gq) (Or.inr (by omega)) 10 (.slice Aqn QN.length cqn))
  have n_Y:=Am (Cop.set Y.out (q:=gq) (Or.inr (by omega)) 10 (.slice Aqn QN.length cqn))
  have n_Z:=Am (Cop.set Z.out (q:=gq) (Or.inr (by omega)) 10 (.slice Aqn QN.length cqn))
  have n_P:=Am (Cop.set P.out (q:=gq) (Or.inr (by omega)) 10 (.slice Aqn QN.length cqn))
  clear KC HB Q X Y Z P hnew hc1_ hf1_
  generalize (w21.setCell ⟨gq,10,none⟩ (.slice Aqn QN.length cqn)) = w22 at n_KC n_HB n_Q n_X n_Y n_Z n_P ⊢
  have KC:=n_KC
  clear n_KC
  have HB:=n_HB
  clear n_HB
  have Q:=n_Q
  clear n_Q
  have X:=n_X
  clear n_X
  have Y:=n_Y
  clear n_Y
  have Z:=n_Z
  clear n_Z
  have P:=n_P
  clear n_P
  by_cases hij : i = j
  ·have zij : (i == j) = true:=beq_iff_eq.2 hij
   clear hij
   by_cases h00 : i = 0
   ·have z00 : (i == 0) = true:=beq_iff_eq.2 h00
    clear h00
    have zc0 : w22.cell? ⟨gy,0,none⟩ = some (.int .i64 a0_0):=(Cop.cell Y.out 0).trans rfl
    have zc1 : w22.cell? ⟨gy,1,none⟩ = some (.int .i64 a0_1):=(Cop.cell Y.out 1).trans rfl
    have zc2 : w22.cell? ⟨gy,2,none⟩ = some (.int .i64 a0_2):=(Cop.cell Y.out 2).trans rfl
    have zc3 : w22.cell? ⟨gy,3,none⟩ = some (.int .i64 a0_3):=(Cop.cell Y.out 3).trans rfl
    have zc4 : w22.cell? ⟨gy,4,none⟩ = some (.int .i64 a0_4):=(Cop.cell Y.out 4).trans rfl
    have zc5 : w22.cell? ⟨gy,5,none⟩ = some (.int .i64 a0_5):=(Cop.cell Y.out 5).trans rfl
    have zc6 : w22.cell? ⟨gy,6,none⟩ = some (.int .i64 a0_6):=(Cop.cell Y.out 6).trans rfl
    have zc7 : w22.cell? ⟨gy,7,none⟩ = some (.int .i64 a0_7):=(Cop.cell Y.out 7).trans rfl
    have zc8 : w22.cell? ⟨gy,8,none⟩ = some (.int .i64 a0_8):=(Cop.cell Y.out 8).trans rfl
    have zc9 : w22.cell? ⟨gy,9,none⟩ = some (.slice Ay9 l0_9.length cy9):=(Cop.cell Y.out 9).trans rfl
    have zc10 : w22.cell? ⟨gy,10,none⟩ = some (.slice Ay10 l0_10.length cy10):=(Cop.cell Y.out 10).trans rfl
    have zc11 : w22.cell? ⟨gy,11,none⟩ = some (.slice (some ⟨goy,0,none⟩) YN.length cy11):=(Cop.cell Y.out 11).trans rfl
    go_wp2_with (first|(go_at_call 12;(with_reducible refine (conf_Check.calls k a0_0 a0_1 a0_2 a0_3 a0_4 a0_5 a0_6 a0_7 a0_8 Ay9 cy9 l0_9 Ay10 cy10 l0_10 (some ⟨goy,0,none⟩) cy11 YN _ _ ?s0 ?s1 ?s2 ?s3 ?s4 ?s5 ?s6 C2.out).mono ?_);(case s0=>exact Glob.below HG.out (by repeat (first|(with_reducible first|exact HB.out|apply bL|apply pN|apply bE)|exact HB.out)));(case s1=>exact (Kd.R_reads' (Cop.r9 (by (with_reducible repeat (first|apply Cop.drewN|apply Cop.drew|apply Cop.alloc));exact Y.out))).2.2);(case s3=>exact (Kd.R_reads' (Cop.r10 (by (with_reducible repeat (first|apply Cop.drewN|apply Cop.drew|apply Cop.alloc));exact Y.out))).2.2);(case s5=>exact (Kd.R_reads' (Cop.r11 (by (with_reducible repeat (first|apply Cop.drewN|apply Cop.drew|apply Cop.alloc));exact Y.out))).2.2);(case s2=>exact (Kd.R_reads' (Cop.r9 Y.out)).2.1);(case s4=>exact (Kd.R_reads' (Cop.r10 Y.out)).2.1);(case s6=>exact (Kd.R_reads' (Cop.r11 Y.out)).2.1);rintro e w30 ⟨rfl,hb⟩;have n0_:=Am (below_step (by repeat (first|(with_reducible first|exact HB.out|apply bL|apply pN|apply bE)|exact HB.out)) hb);have n_KC:=Am (blk_below (g:=gc) (o:=.cells #[.int .i64 a0_0,.int .i64 a0_1,.int .i64 a0_2,.int .i64 a0_3,.int .i64 a0_4,.int .i64 a0_5,.int .i64 a0_6,.int .i64 a0_7,.int .i64 a0_8,.slice (some adP) l0_9.length c0_9,.slice (some adQ) l0_10.length c0_10,.slice (some adA) l0_11.length c0_11] 28 (0,0)) (by (with_reducible repeat (first|refine bN ?_ _|refine bD ?_|refine bA ?_ _));exact KC.out) hb);have n_X:=Am (Cop.below (by (with_reducible repeat (first|apply Cop.drewN|apply Cop.drew|apply Cop.alloc));exact X.out) hb);have n_Y:=Am (Cop.below (by (with_reducible repeat (first|apply Cop.drewN|apply Cop.drew|apply Cop.alloc));exact Y.out) hb);have n_Z:=Am (Cop.below (by (with_reducible repeat (first|apply Cop.drewN|apply Cop.drew|apply Cop.alloc));exact Z.out) hb);have n_P:=Am (Cop.below (by (with_reducible repeat (first|apply Cop.drewN|apply Cop.drew|apply Cop.alloc));exact P.out) hb);have n_Q:=Am (Cop.below (by (with_reducible repeat (first|apply Cop.drewN|apply Cop.drew|apply Cop.alloc));exact Q.out) hb);clear HB KC;have HB:=n0_;have KC:=n_KC;clear n0_ n_KC;clear X;have X:=n_X;clear n_X;clear Y;have Y:=n_Y;clear n_Y;clear Z;have Z:=n_Z;clear n_Z;clear P;have P:=n_P;clear n_P;clear Q;have Q:=n_Q;clear n_Q;have zc0 : w30.cell? ⟨gp,0,none⟩ = some (.int .i64 a0_0):=(Cop.cell P.out 0).trans rfl;have zc1 : w30.cell? ⟨gp,1,none⟩ = some (.int .i64 a0_1):=(Cop.cell P.out 1).trans rfl;have zc2 : w30.cell? ⟨gp,2,none⟩ = some (.int .i64 a0_2):=(Cop.cell P.out 2).trans rfl;have zc3 : w30.cell? ⟨gp,3,none⟩ = some (.int .i64 a0_3):=(Cop.cell P.out 3).trans rfl;have zc4 : w30.cell? ⟨gp,4,none⟩ = some (.int .i64 a0_4):=(Cop.cell P.out 4).trans rfl;have zc5 : w30.cell? ⟨gp,5,none⟩ = some (.int .i64 a0_5):=(Cop.cell P.out 5).trans rfl;have zc6 : w30.cell? ⟨gp,6,none⟩ = some (.int .i64 a0_6):=(Cop.cell P.out 6).trans rfl;have zc7 : w30.cell? ⟨gp,7,none⟩ = some (.int .i64 a0_7):=(Cop.cell P.out 7).trans rfl;have zc8 : w30.cell? ⟨gp,8,none⟩ = some (.int .i64 a0_8):=(Cop.cell P.out 8).trans rfl;have zc9 : w30.cell? ⟨gp,9,none⟩ = some (.slice Apn PN.length cpn):=(Cop.cell P.out 9).trans rfl;have zc10 : w30.cell? ⟨gp,10,none⟩ = some (.slice Ap10 l0_10.length cp10):=(Cop.cell P.out 10).trans rfl;have zc11 : w30.cell? ⟨gp,11,none⟩ = some (.slice Ap11 l0_11.length cp11):=(Cop.cell P.out 11).trans rfl;clear hb)|(go_at_call 12;(with_reducible refine (conf_Check.calls k a0_0 a0_1 a0_2 a0_3 a0_4 a0_5 a0_6 a0_7 a0_8 Apn cpn PN Ap10 cp10 l0_10 Ap11 cp11 l0_11 _ _ ?s0 ?s1 ?s2 ?s3 ?s4 ?s5 ?s6 C4.out).mono ?_);(case s0=>exact Glob.below HG.out (by repeat (first|(with_reducible first|exact HB.out|apply bL|apply pN|apply bE)|exact HB.out)));(case s1=>exact (Kd.R_reads' (Cop.r9 (by (with_reducible repeat (first|apply Cop.drewN|apply Cop.drew|apply Cop.alloc));exact P.out))).2.2);(case s3=>exact (Kd.R_reads' (Cop.r10 (by (with_reducible repeat (first|apply Cop.drewN|apply Cop.drew|apply Cop.alloc));exact P.out))).2.2);(case s5=>exact (Kd.R_reads' (Cop.r11 (by (with_reducible repeat (first|apply Cop.drewN|apply Cop.drew|apply Cop.alloc));exact P.out))).2.2);(case s2=>exact (Kd.R_reads' (Cop.r9 P.out)).2.1);(case s4=>exact (Kd.R_reads' (Cop.r10 P.out)).2.1);(case s6=>exact (Kd.R_reads' (Cop.r11 P.out)).2.1);rintro e w31 ⟨rfl,hb⟩;have n0_:=Am (below_step (by repeat (first|(with_reducible first|exact HB.out|apply bL|apply pN|apply bE)|exact HB.out)) hb);have n_KC:=Am (blk_below (g:=gc) (o:=.cells #[.int .i64 a0_0,.int .i64 a0_1,.int .i64 a0_2,.int .i64 a0_3,.int .i64 a0_4,.int .i64 a0_5,.int .i64 a0_6,.int .i64 a0_7,.int .i64 a0_8,.slice (some adP) l0_9.length c0_9,.slice (some adQ) l0_10.length c0_10,.slice (some adA) l0_11.length c0_11] 28 (0,0)) (by (with_reducible repeat (first|refine bN ?_ _|refine bD ?_|refine bA ?_ _));exact KC.out) hb);have n_X:=Am (Cop.below (by (with_reducible repeat (first|apply Cop.drewN|apply Cop.drew|apply Cop.alloc));exact X.out) hb);have n_Y:=Am (Cop.below (by (with_reducible repeat (first|apply Cop.drewN|apply Cop.drew|apply Cop.alloc));exact Y.out) hb);have n_Z:=Am (Cop.below (by (with_reducible repeat (first|apply Cop.drewN|apply Cop.drew|apply Cop.alloc));exact Z.out) hb);have n_P:=Am (Cop.below (by (with_reducible repeat (first|apply Cop.drewN|apply Cop.drew|apply Cop.alloc));exact P.out) hb);have n_Q:=Am (Cop.below (by (with_reducible repeat (first|apply Cop.drewN|apply Cop.drew|apply Cop.alloc));exact Q.out) hb);clear HB KC;have HB:=n0_;have KC:=n_KC;clear n0_ n_KC;clear X;have X:=n_X;clear n_X;clear Y;have Y:=n_Y;clear n_Y;clear Z;have Z:=n_Z;clear n_Z;clear P;have P:=n_P;clear n_P;clear Q;have Q:=n_Q;clear n_Q;have zc0 : w31.cell? ⟨gq,0,none⟩ = some (.int .i64 a0_0):=(Cop.cell Q.out 0).trans rfl;have zc1 : w31.cell? ⟨gq,1,none⟩ = some (.int .i64 a0_1):=(Cop.cell Q.out 1).trans rfl;have zc2 : w31.cell? ⟨gq,2,none⟩ = some (.int .i64 a0_2):=(Cop.cell Q.out 2).trans rfl;have zc3 : w31.cell? ⟨gq,3,none⟩ = some (.int .i64 a0_3):=(Cop.cell Q.out 3).trans rfl;have zc4 : w31.cell? ⟨gq,4,none⟩ = some (.int .i64 a0_4):=(Cop.cell Q.out 4).trans rfl;have zc5 : w31.cell? ⟨gq,5,none⟩ = some (.int .i64 a0_5):=(Cop.cell Q.out 5).trans rfl;have zc6 : w31.cell? ⟨gq,6,none⟩ = some (.int .i64 a0_6):=(Cop.cell Q.out 6).trans rfl;have zc7 : w31.cell? ⟨gq,7,none⟩ = some (.int .i64 a0_7):=(Cop.cell Q.out 7).trans rfl;have zc8 : w31.cell? ⟨gq,8,none⟩ = some (.int .i64 a0_8):=(Cop.cell Q.out 8).trans rfl;have zc9 : w31.cell? ⟨gq,9,none⟩ = some (.slice Aq9 l0_9.length cq9):=(Cop.cell Q.out 9).trans rfl;have zc10 : w31.cell? ⟨gq,10,none⟩ = some (.slice Aqn QN.length cqn):=(Cop.cell Q.out 10).trans rfl;have zc11 : w31.cell? ⟨gq,11,none⟩ = some (.slice Aq11 l0_11.length cq11):=(Cop.cell Q.out 11).trans rfl;clear hb)|(go_at_call 12;(with_reducible refine (conf_Check.calls k a0_0 a0_1 a0_2 a0_3 a0_4 a0_5 a0_6 a0_7 a0_8 Aq9 cq9 l0_9 Aqn cqn QN Aq11 cq11 l0_11 _ _ ?s0 ?s1 ?s2 ?s3 ?s4 ?s5 ?s6 C5.out).mono ?_);(case s0=>exact Glob.below HG.out (by repeat (first|(with_reducible first|exact HB.out|apply bL|apply pN|apply bE)|exact HB.out)));(case s1=>exact (Kd.R_reads' (Cop.r9 (by (with_reducible repeat (first|apply Cop.drewN|apply Cop.drew|apply Cop.alloc));exact Q.out))).2.2);(case s3=>exact (Kd.R_reads' (Cop.r10 (by (with_reducible repeat (first|apply Cop.drewN|apply Cop.drew|apply Cop.alloc));exact Q.out))).2.2);(case s5=>exact (Kd.R_reads' (Cop.r11 (by (with_reducible repeat (first|apply Cop.drewN|apply Cop.drew|apply Cop.alloc));exact Q.out))).2.2);(case s2=>exact (Kd.R_reads' (Cop.r9 Q.out)).2.1);(case s4=>exact (Kd.R_reads' (Cop.r10 Q.out)).2.1);(case s6=>exact (Kd.R_reads' (Cop.r11 Q.out)).2.1);rintro e w32 ⟨rfl,hb⟩;have n0_:=Am (below_step (by repeat (first|(with_reducible first|exact HB.out|apply bL|apply pN|apply bE)|exact HB.out)) hb);have n_KC:=Am (blk_below (g:=gc) (o:=.cells #[.int .i64 a0_0,.int .i64 a0_1,.int .i64 a0_2,.int .i64 a0_3,.int .i64 a0_4,.int .i64 a0_5,.int .i64 a0_6,.int .i64 a0_7,.int .i64 a0_8,.slice (some adP) l0_9.length c0_9,.slice (some adQ) l0_10.length c0_10,.slice (some adA) l0_11.length c0_11] 28 (0,0)) (by (with_reducible repeat (first|refine bN ?_ _|refine bD ?_|refine bA ?_ _));exact KC.out) hb);have n_X:=Am (Cop.below (by (with_reducible repeat (first|apply Cop.drewN|apply Cop.drew|apply Cop.alloc));exact X.out) hb);have n_Y:=Am (Cop.below (by (with_reducible repeat (first|apply Cop.drewN|apply Cop.drew|apply Cop.alloc));exact Y.out) hb);have n_Z:=Am (Cop.below (by (with_reducible repeat (first|apply Cop.drewN|apply Cop.drew|apply Cop.alloc));exact Z.out) hb);have n_P:=Am (Cop.below (by (with_reducible repeat (first|apply Cop.drewN|apply Cop.drew|apply Cop.alloc));exact P.out) hb);have n_Q:=Am (Cop.below (by (with_reducible repeat (first|apply Cop.drewN|apply Cop.drew|apply Cop.alloc));exact Q.out) hb);clear HB KC;have HB:=n0_;have KC:=n_KC;clear n0_ n_KC;clear X;have X:=n_X;clear n_X;clear Y;have Y:=n_Y;clear n_Y;clear Z;have Z:=n_Z;clear n_Z;clear P;have P:=n_P;clear n_P;clear Q;have Q:=n_Q;clear n_Q;clear hb)|(go_at_call 10;(with_reducible refine (gangerlaw10_known.calls k _ _ ?s0 A9.out).mono ?_);(case s0=>exact Glob.below HG.out (by repeat (first|(with_reducible first|exact HB.out|apply bL|apply pN|apply bE)|exact HB.out)));rintro e w9 ⟨rfl,hb⟩;have n0_:=Am (below_step (by repeat (first|(with_reducible first|exact HB.out|apply bL|apply pN|apply bE)|exact HB.out)) hb);have n_KC:=Am (blk_below (g:=gc) (o:=.cells #[.int .i64 a0_0,.int .i64 a0_1,.int .i64 a0_2,.int .i64 a0_3,.int .i64 a0_4,.int .i64 a0_5,.int .i64 a0_6,.int .i64 a0_7,.int .i64 a0_8,.slice (some adP) l0_9.length c0_9,.slice (some adQ) l0_10.length c0_10,.slice (some adA) l0_11.length c0_11] 28 (0,0)) (by (with_reducible repeat (first|refine bN ?_ _|refine bD ?_|refine bA ?_ _));exact KC.out) hb);have n_X:=Am (Cop.below (by (with_reducible repeat (first|apply Cop.drewN|apply Cop.drew|apply Cop.alloc));exact X.out) hb);have n_Y:=Am (Cop.below (by (with_reducible repeat (first|apply Cop.drewN|apply Cop.drew|apply Cop.alloc));exact Y.out) hb);have n_Z:=Am (Cop.below (by (with_reducible repeat (first|apply Cop.drewN|apply Cop.drew|apply Cop.alloc));exact Z.out) hb);have n_P:=Am (Cop.below (by (with_reducible repeat (first|apply Cop.drewN|apply Cop.drew|apply Cop.alloc));exact P.out) hb);have n_Q:=Am (Cop.below (by (with_reducible repeat (first|apply Cop.drewN|apply Cop.drew|apply Cop.alloc));exact Q.out) hb);clear HB KC;have HB:=n0_;have KC:=n_KC;clear n0_ n_KC;clear X;have X:=n_X;clear n_X;clear Y;have Y:=n_Y;clear n_Y;clear Z;have Z:=n_Z;clear n_Z;clear P;have P:=n_P;clear n_P;clear Q;have Q:=n_Q;clear n_Q;clear hb))
    go_ret
    exact ⟨rfl,by repeat (first|(with_reducible first|exact HB.out|apply bL|apply pN|apply bE)|exact HB.out)⟩
   have z00 : (i == 0) = false:=beq_eq_false_iff_ne.2 h00
   have C3:=Am ((if_neg h00).symm.trans C3.out)
   clear h00
   have zc0 : w22.cell? ⟨gy,0,none⟩ = some (.int .i64 a0_0):=(Cop.cell Y.out 0).trans rfl
   have zc1 : w22.cell? ⟨gy,1,none⟩ = some (.int .i64 a0_1):=(Cop.cell Y.out 1).trans rfl
   have zc2 : w22.cell? ⟨gy,2,none⟩ = some (.int .i64 a0_2):=(Cop.cell Y.out 2).trans rfl
   have zc3 : w22.cell? ⟨gy,3,none⟩ = some (.int .i64 a0_3):=(Cop.cell Y.out 3).trans rfl
   have zc4 : w22.cell? ⟨gy,4,none⟩ = some (.int .i64 a0_4):=(Cop.cell Y.out 4).trans rfl
   have zc5 : w22.cell? ⟨gy,5,none⟩ = some (.int .i64 a0_5):=(Cop.cell Y.out 5).trans rfl
   have zc6 : w22.cell? ⟨gy,6,none⟩ = some (.int .i64 a0_6):=(Cop.cell Y.out 6).trans rfl
   have zc7 : w22.cell? ⟨gy,7,none⟩ = some (.int .i64 a0_7):=(Cop.cell Y.out 7).trans rfl
   have zc8 : w22.cell? ⟨gy,8,none⟩ = some (.int .i64 a0_8):=(Cop.cell Y.out 8).trans rfl
   have zc9 : w22.cell? ⟨gy,9,none⟩ = some (.slice Ay9 l0_9.length cy9):=(Cop.cell Y.out 9).trans rfl
   have zc10 : w22.cell? ⟨gy,10,none⟩ = some (.slice Ay10 l0_10.length cy10):=(Cop.cell Y.out 10).trans rfl
   have zc11 : w22.cell? ⟨gy,11,none⟩ = some (.slice (some ⟨goy,0,none⟩) YN.length cy11):=(Cop.cell Y.out 11).trans rfl
   go_wp2_with (first|(go_at_call 12;(with_reducible refine (conf_Check.calls k a0_0 a0_1 a0_2 a0_3 a0_4 a0_5 a0_6 a0_7 a0_8 Ay9 cy9 l0_9 Ay10 cy10 l0_10 (some ⟨goy,0,none⟩) cy11 YN _ _ ?s0 ?s1 ?s2 ?s3 ?s4 ?s5 ?s6 C2.out).mono ?_);(case s0=>exact Glob.below HG.out (by repeat (first|(with_reducible first|exact HB.out|apply bL|apply pN|apply bE)|exact HB.out)));(case s1=>exact (Kd.R_reads' (Cop.r9 (by (with_reducible repeat (first|apply Cop.drewN|apply Cop.drew|apply Cop.alloc));exact Y.out))).2.2);(case s3=>exact (Kd.R_reads' (Cop.r10 (by (with_reducible repeat (first|apply Cop.drewN|apply Cop.drew|apply Cop.alloc));exact Y.out))).2.2);(case s5=>exact (Kd.R_reads' (Cop.r11 (by (with_reducible repeat (first|apply Cop.drewN|apply Cop.drew|apply Cop.alloc));exact Y.out))).2.2);(case s2=>exact (Kd.R_reads' (Cop.r9 Y.out)).2.1);(case s4=>exact (Kd.R_reads' (Cop.r10 Y.out)).2.1);(case s6=>exact (Kd.R_reads' (Cop.r11 Y.out)).2.1);rintro e w30 ⟨rfl,hb⟩;have n0_:=Am (below_step (by repeat (first|(with_reducible first|exact HB.out|apply bL|apply pN|apply bE)|exact HB.out)) hb);have n_KC:=Am (blk_below (g:=gc) (o:=.cells #[.int .i64 a0_0,.int .i64 a0_1,.int .i64 a0_2,.int .i64 a0_3,.int .i64 a0_4,.int .i64 a0_5,.int .i64 a0_6,.int .i64 a0_7,.int .i64 a0_8,.slice (some adP) l0_9.length c0_9,.slice (some adQ) l0_10.length c0_10,.slice (some adA) l0_11.length c0_11] 28 (0,0)) (by (with_reducible repeat (first|refine bN ?_ _|refine bD ?_|refine bA ?_ _));exact KC.out) hb);have n_X:=Am (Cop.below (by (with_reducible repeat (first|apply Cop.drewN|apply Cop.drew|apply Cop.alloc));exact X.out) hb);have n_Y:=Am (Cop.below (by (with_reducible repeat (first|apply Cop.drewN|apply Cop.drew|apply Cop.alloc));exact Y.out) hb);have n_Z:=Am (Cop.below (by (with_reducible repeat (first|apply Cop.drewN|apply Cop.drew|apply Cop.alloc));exact Z.out) hb);have n_P:=Am (Cop.below (by (with_reducible repeat (first|apply Cop.drewN|apply Cop.drew|apply Cop.alloc));exact P.out) hb);have n_Q:=Am (Cop.below (by (with_reducible repeat (first|apply Cop.drewN|apply Cop.drew|apply Cop.alloc));exact Q.out) hb);clear HB KC;have HB:=n0_;have KC:=n_KC;clear n0_ n_KC;clear X;have X:=n_X;clear n_X;clear Y;have Y:=n_Y;clear n_Y;clear Z;have Z:=n_Z;clear n_Z;clear P;have P:=n_P;clear n_P;clear Q;have Q:=n_Q;clear n_Q;have zc0 : w30.cell? ⟨w12.heap.size,0,none⟩ = some (.int .i64 a0_0):=(Cop.cell Z.out 0).trans rfl;have zc1 : w30.cell? ⟨w12.heap.size,1,none⟩ = some (.int .i64 a0_1):=(Cop.cell Z.out 1).trans rfl;have zc2 : w30.cell? ⟨w12.heap.size,2,none⟩ = some (.int .i64 a0_2):=(Cop.cell Z.out 2).trans rfl;have zc3 : w30.cell? ⟨w12.heap.size,3,none⟩ = some (.int .i64 a0_3):=(Cop.cell Z.out 3).trans rfl;have zc4 : w30.cell? ⟨w12.heap.size,4,none⟩ = some (.int .i64 a0_4):=(Cop.cell Z.out 4).trans rfl;have zc5 : w30.cell? ⟨w12.heap.size,5,none⟩ = some (.int .i64 a0_5):=(Cop.cell Z.out 5).trans rfl;have zc6 : w30.cell? ⟨w12.heap.size,6,none⟩ = some (.int .i64 a0_6):=(Cop.cell Z.out 6).trans rfl;have zc7 : w30.cell? ⟨w12.heap.size,7,none⟩ = some (.int .i64 a0_7):=(Cop.cell Z.out 7).trans rfl;have zc8 : w30.cell? ⟨w12.heap.size,8,none⟩ = some (.int .i64 a0_8):=(Cop.cell Z.out 8).trans rfl;have zc9 : w30.cell? ⟨w12.heap.size,9,none⟩ = some (.slice Az9 l0_9.length cz9):=(Cop.cell Z.out 9).trans rfl;have zc10 : w30.cell? ⟨w12.heap.size,10,none⟩ = some (.slice Az10 l0_10.length cz10):=(Cop.cell Z.out 10).trans rfl;have zc11 : w30.cell? ⟨w12.heap.size,11,none⟩ = some (.slice (some ⟨goz,0,none⟩) ZN.length cz11):=(Cop.cell Z.out 11).trans rfl;clear hb)|(go_at_call 12;(with_reducible refine (conf_Check.calls k a0_0 a0_1 a0_2 a0_3 a0_4 a0_5 a0_6 a0_7 a0_8 Az9 cz9 l0_9 Az10 cz10 l0_10 (some ⟨goz,0,none⟩) cz11 ZN _ _ ?s0 ?s1 ?s2 ?s3 ?s4 ?s5 ?s6 C3.out).mono ?_);(case s0=>exact Glob.below HG.out (by repeat (first|(with_reducible first|exact HB.out|apply bL|apply pN|apply bE)|exact HB.out)));(case s1=>exact (Kd.R_reads' (Cop.r9 (by (with_reducible repeat (first|apply Cop.drewN|apply Cop.drew|apply Cop.alloc));exact Z.out))).2.2);(case s3=>exact (Kd.R_reads' (Cop.r10 (by (with_reducible repeat (first|apply Cop.drewN|apply Cop.drew|apply Cop.alloc));exact Z.out))).2.2);(case s5=>exact (Kd.R_reads' (Cop.r11 (by (with_reducible repeat (first|apply Cop.drewN|apply Cop.drew|apply Cop.alloc));exact Z.out))).2.2);(case s2=>exact (Kd.R_reads' (Cop.r9 Z.out)).2.1);(case s4=>exact (Kd.R_reads' (Cop.r10 Z.out)).2.1);(case s6=>exact (Kd.R_reads' (Cop.r11 Z.out)).2.1);rintro e w31 ⟨rfl,hb⟩;have n0_:=Am (below_step (by repeat (first|(with_reducible first|exact HB.out|apply bL|apply pN|apply bE)|exact HB.out)) hb);have n_KC:=Am (blk_below (g:=gc) (o:=.cells #[.int .i64 a0_0,.int .i64 a0_1,.int .i64 a0_2,.int .i64 a0_3,.int .i64 a0_4,.int .i64 a0_5,.int .i64 a0_6,.int .i64 a0_7,.int .i64 a0_8,.slice (some adP) l0_9.length c0_9,.slice (some adQ) l0_10.length c0_10,.slice (some adA) l0_11.length c0_11] 28 (0,0)) (by (with_reducible repeat (first|refine bN ?_ _|refine bD ?_|refine bA ?_ _));exact KC.out) hb);have n_X:=Am (Cop.below (by (with_reducible repeat (first|apply Cop.drewN|apply Cop.drew|apply Cop.alloc));exact X.out) hb);have n_Y:=Am (Cop.below (by (with_reducible repeat (first|apply Cop.drewN|apply Cop.drew|apply Cop.alloc));exact Y.out) hb);have n_Z:=Am (Cop.below (by (with_reducible repeat (first|apply Cop.drewN|apply Cop.drew|apply Cop.alloc));exact Z.out) hb);have n_P:=Am (Cop.below (by (with_reducible repeat (first|apply Cop.drewN|apply Cop.drew|apply Cop.alloc));exact P.out) hb);have n_Q:=Am (Cop.below (by (with_reducible repeat (first|apply Cop.drewN|apply Cop.drew|apply Cop.alloc));exact Q.out) hb);clear HB KC;have HB:=n0_;have KC:=n_KC;clear n0_ n_KC;clear X;have X:=n_X;clear n_X;clear Y;have Y:=n_Y;clear n_Y;clear Z;have Z:=n_Z;clear n_Z;clear P;have P:=n_P;clear n_P;clear Q;have Q:=n_Q;clear n_Q;have zc0 : w31.cell? ⟨gp,0,none⟩ = some (.int .i64 a0_0):=(Cop.cell P.out 0).trans rfl;have zc1 : w31.cell? ⟨gp,1,none⟩ = some (.int .i64 a0_1):=(Cop.cell P.out 1).trans rfl;have zc2 : w31.cell? ⟨gp,2,none⟩ = some (.int .i64 a0_2):=(Cop.cell P.out 2).trans rfl;have zc3 : w31.cell? ⟨gp,3,none⟩ = some (.int .i64 a0_3):=(Cop.cell P.out 3).trans rfl;have zc4 : w31.cell? ⟨gp,4,none⟩ = some (.int .i64 a0_4):=(Cop.cell P.out 4).trans rfl;have zc5 : w31.cell? ⟨gp,5,none⟩ = some (.int .i64 a0_5):=(Cop.cell P.out 5).trans rfl;have zc6 : w31.cell? ⟨gp,6,none⟩ = some (.int .i64 a0_6):=(Cop.cell P.out 6).trans rfl;have zc7 : w31.cell? ⟨gp,7,none⟩ = some (.int .i64 a0_7):=(Cop.cell P.out 7).trans rfl;have zc8 : w31.cell? ⟨gp,8,none⟩ = some (.int .i64 a0_8):=(Cop.cell P.out 8).trans rfl;have zc9 : w31.cell? ⟨gp,9,none⟩ = some (.slice Apn PN.length cpn):=(Cop.cell P.out 9).trans rfl;have zc10 : w31.cell? ⟨gp,10,none⟩ = some (.slice Ap10 l0_10.length cp10):=(Cop.cell P.out 10).trans rfl;have zc11 : w31.cell? ⟨gp,11,none⟩ = some (.slice Ap11 l0_11.length cp11):=(Cop.cell P.out 11).trans rfl;clear hb)|(go_at_call 12;(with_reducible refine (conf_Check.calls k a0_0 a0_1 a0_2 a0_3 a0_4 a0_5 a0_6 a0_7 a0_8 Apn cpn PN Ap10 cp10 l0_10 Ap11 cp11 l0_11 _ _ ?s0 ?s1 ?s2 ?s3 ?s4 ?s5 ?s6 C4.out).mono ?_);(case s0=>exact Glob.below HG.out (by repeat (first|(with_reducible first|exact HB.out|apply bL|apply pN|apply bE)|exact HB.out)));(case s1=>exact (Kd.R_reads' (Cop.r9 (by (with_reducible repeat (first|apply Cop.drewN|apply Cop.drew|apply Cop.alloc));exact P.out))).2.2);(case s3=>exact (Kd.R_reads' (Cop.r10 (by (with_reducible repeat (first|apply Cop.drewN|apply Cop.drew|apply Cop.alloc));exact P.out))).2.2);(case s5=>exact (Kd.R_reads' (Cop.r11 (by (with_reducible repeat (first|apply Cop.drewN|apply Cop.drew|apply Cop.alloc));exact P.out))).2.2);(case s2=>exact (Kd.R_reads' (Cop.r9 P.out)).2.1);(case s4=>exact (Kd.R_reads' (Cop.r10 P.out)).2.1);(case s6=>exact (Kd.R_reads' (Cop.r11 P.out)).2.1);rintro e w32 ⟨rfl,hb⟩;have n0_:=Am (below_step (by repeat (first|(with_reducible first|exact HB.out|apply bL|apply pN|apply bE)|exact HB.out)) hb);have n_KC:=Am (blk_below (g:=gc) (o:=.cells #[.int .i64 a0_0,.int .i64 a0_1,.int .i64 a0_2,.int .i64 a0_3,.int .i64 a0_4,.int .i64 a0_5,.int .i64 a0_6,.int .i64 a0_7,.int .i64 a0_8,.slice (some adP) l0_9.length c0_9,.slice (some adQ) l0_10.length c0_10,.slice (some adA) l0_11.length c0_11] 28 (0,0)) (by (with_reducible repeat (first|refine bN ?_ _|refine bD ?_|refine bA ?_ _));exact KC.out) hb);have n_X:=Am (Cop.below (by (with_reducible repeat (first|apply Cop.drewN|apply Cop.drew|apply Cop.alloc));exact X.out) hb);have n_Y:=Am (Cop.below (by (with_reducible repeat (first|apply Cop.drewN|apply Cop.drew|apply Cop.alloc));exact Y.out) hb);have n_Z:=Am (Cop.below (by (with_reducible repeat (first|apply Cop.drewN|apply Cop.drew|apply Cop.alloc));exact Z.out) hb);have n_P:=Am (Cop.below (by (with_reducible repeat (first|apply Cop.drewN|apply Cop.drew|apply Cop.alloc));exact P.out) hb);have n_Q:=Am (Cop.below (by (with_reducible repeat (first|apply Cop.drewN|apply Cop.drew|apply Cop.alloc));exact Q.out) hb);clear HB KC;have HB:=n0_;have KC:=n_KC;clear n0_ n_KC;clear X;have X:=n_X;clear n_X;clear Y;have Y:=n_Y;clear n_Y;clear Z;have Z:=n_Z;clear n_Z;clear P;have P:=n_P;clear n_P;clear Q;have Q:=n_Q;clear n_Q;have zc0 : w32.cell? ⟨gq,0,none⟩ = some (.int .i64 a0_0):=(Cop.cell Q.out 0).trans rfl;have zc1 : w32.cell? ⟨gq,1,none⟩ = some (.int .i64 a0_1):=(Cop.cell Q.out 1).trans rfl;have zc2 : w32.cell? ⟨gq,2,none⟩ = some (.int .i64 a0_2):=(Cop.cell Q.out 2).trans rfl;have zc3 : w32.cell? ⟨gq,3,none⟩ = some (.int .i64 a0_3):=(Cop.cell Q.out 3).trans rfl;have zc4 : w32.cell? ⟨gq,4,none⟩ = some (.int .i64 a0_4):=(Cop.cell Q.out 4).trans rfl;have zc5 : w32.cell? ⟨gq,5,none⟩ = some (.int .i64 a0_5):=(Cop.cell Q.out 5).trans rfl;have zc6 : w32.cell? ⟨gq,6,none⟩ = some (.int .i64 a0_6):=(Cop.cell Q.out 6).trans rfl;have zc7 : w32.cell? ⟨gq,7,none⟩ = some (.int .i64 a0_7):=(Cop.cell Q.out 7).trans rfl;have zc8 : w32.cell? ⟨gq,8,none⟩ = some (.int .i64 a0_8):=(Cop.cell Q.out 8).trans rfl;have zc9 : w32.cell? ⟨gq,9,none⟩ = some (.slice Aq9 l0_9.length cq9):=(Cop.cell Q.out 9).trans rfl;have zc10 : w32.cell? ⟨gq,10,none⟩ = some (.slice Aqn QN.length cqn):=(Cop.cell Q.out 10).trans rfl;have zc11 : w32.cell? ⟨gq,11,none⟩ = some (.slice Aq11 l0_11.length cq11):=(Cop.cell Q.out 11).trans rfl;clear hb)|(go_at_call 12;(with_reducible refine (conf_Check.calls k a0_0 a0_1 a0_2 a0_3 a0_4 a0_5 a0_6 a0_7 a0_8 Aq9 cq9 l0_9 Aqn cqn QN Aq11 cq11 l0_11 _ _ ?s0 ?s1 ?s2 ?s3 ?s4 ?s5 ?s6 C5.out).mono ?_);(case s0=>exact Glob.below HG.out (by repeat (first|(with_reducible first|exact HB.out|apply bL|apply pN|apply bE)|exact HB.out)));(case s1=>exact (Kd.R_reads' (Cop.r9 (by (with_reducible repeat (first|apply Cop.drewN|apply Cop.drew|apply Cop.alloc));exact Q.out))).2.2);(case s3=>exact (Kd.R_reads' (Cop.r10 (by (with_reducible repeat (first|apply Cop.drewN|apply Cop.drew|apply Cop.alloc));exact Q.out))).2.2);(case s5=>exact (Kd.R_reads' (Cop.r11 (by (with_reducible repeat (first|apply Cop.drewN|apply Cop.drew|apply Cop.alloc));exact Q.out))).2.2);(case s2=>exact (Kd.R_reads' (Cop.r9 Q.out)).2.1);(case s4=>exact (Kd.R_reads' (Cop.r10 Q.out)).2.1);(case s6=>exact (Kd.R_reads' (Cop.r11 Q.out)).2.1);rintro e w33 ⟨rfl,hb⟩;have n0_:=Am (below_step (by repeat (first|(with_reducible first|exact HB.out|apply bL|apply pN|apply bE)|exact HB.out)) hb);have n_KC:=Am (blk_below (g:=gc) (o:=.cells #[.int .i64 a0_0,.int .i64 a0_1,.int .i64 a0_2,.int .i64 a0_3,.int .i64 a0_4,.int .i64 a0_5,.int .i64 a0_6,.int .i64 a0_7,.int .i64 a0_8,.slice (some adP) l0_9.length c0_9,.slice (some adQ) l0_10.length c0_10,.slice (some adA) l0_11.length c0_11] 28 (0,0)) (by (with_reducible repeat (first|refine bN ?_ _|refine bD ?_|refine bA ?_ _));exact KC.out) hb);have n_X:=Am (Cop.below (by (with_reducible repeat (first|apply Cop.drewN|apply Cop.drew|apply Cop.alloc));exact X.out) hb);have n_Y:=Am (Cop.below (by (with_reducible repeat (first|apply Cop.drewN|apply Cop.drew|apply Cop.alloc));exact Y.out) hb);have n_Z:=Am (Cop.below (by (with_reducible repeat (first|apply Cop.drewN|apply Cop.drew|apply Cop.alloc));exact Z.out) hb);have n_P:=Am (Cop.below (by (with_reducible repeat (first|apply Cop.drewN|apply Cop.drew|apply Cop.alloc));exact P.out) hb);have n_Q:=Am (Cop.below (by (with_reducible repeat (first|apply Cop.drewN|apply Cop.drew|apply Cop.alloc));exact Q.out) hb);clear HB KC;have HB:=n0_;have KC:=n_KC;clear n0_ n_KC;clear X;have X:=n_X;clear n_X;clear Y;have Y:=n_Y;clear n_Y;clear Z;have Z:=n_Z;clear n_Z;clear P;have P:=n_P;clear n_P;clear Q;have Q:=n_Q;clear n_Q;clear hb)|(go_at_call 10;(with_reducible refine (gangerlaw10_known.calls k _ _ ?s0 A9.out).mono ?_);(case s0=>exact Glob.below HG.out (by repeat (first|(with_reducible first|exact HB.out|apply bL|apply pN|apply bE)|exact HB.out)));rintro e w9 ⟨rfl,hb⟩;have n0_:=Am (below_step (by repeat (first|(with_reducible first|exact HB.out|apply bL|apply pN|apply bE)|exact HB.out)) hb);have n_KC:=Am (blk_below (g:=gc) (o:=.cells #[.int .i64 a0_0,.int .i64 a0_1,.int .i64 a0_2,.int .i64 a0_3,.int .i64 a0_4,.int .i64 a0_5,.int .i64 a0_6,.int .i64 a0_7,.int .i64 a0_8,.slice (some adP) l0_9.length c0_9,.slice (some adQ) l0_10.length c0_10,.slice (some adA) l0_11.length c0_11] 28 (0,0)) (by (with_reducible repeat (first|refine bN ?_ _|refine bD ?_|refine bA ?_ _));exact KC.out) hb);have n_X:=Am (Cop.below (by (with_reducible repeat (first|apply Cop.drewN|apply Cop.drew|apply Cop.alloc));exact X.out) hb);have n_Y:=Am (Cop.below (by (with_reducible repeat (first|apply Cop.drewN|apply Cop.drew|apply Cop.alloc));exact Y.out) hb);have n_Z:=Am (Cop.below (by (with_reducible repeat (first|apply Cop.drewN|apply Cop.drew|apply Cop.alloc));exact Z.out) hb);have n_P:=Am (Cop.below (by (with_reducible repeat (first|apply Cop.drewN|apply Cop.drew|apply Cop.alloc));exact P.out) hb);have n_Q:=Am (Cop.below (by (with_reducible repeat (first|apply Cop.drewN|apply Cop.drew|apply Cop.alloc));exact Q.out) hb);clear HB KC;have HB:=n0_;have KC:=n_KC;clear n0_ n_KC;clear X;have X:=n_X;clear n_X;clear Y;have Y:=n_Y;clear n_Y;clear Z;have Z:=n_Z;clear n_Z;clear P;have P:=n_P;clear n_P;clear Q;have Q:=n_Q;clear n_Q;clear hb))
   go_ret
   exact ⟨rfl,by repeat (first|(with_reducible first|exact HB.out|apply bL|apply pN|apply bE)|exact HB.out)⟩
  have zij : (i == j) = false:=beq_eq_false_iff_ne.2 hij
  have C1:=Am ((if_neg hij).symm.trans C1.out)
  clear hij
  by_cases h00 : i = 0
  ·have z00 : (i == 0) = true:=beq_iff_eq.2 h00
   clear h00
   have zc0 : w22.cell? ⟨gx,0,none⟩ = some (.int .i64 a0_0):=(Cop.cell X.out 0).trans rfl
   have zc1 : w22.cell? ⟨gx,1,none⟩ = some (.int .i64 a0_1):=(Cop.cell X.out 1).trans rfl
   have zc2 : w22.cell? ⟨gx,2,none⟩ = some (.int .i64 a0_2):=(Cop.cell X.out 2).trans rfl
   have zc3 : w22.cell? ⟨gx,3,none⟩ = some (.int .i64 a0_3):=(Cop.cell X.out 3).trans rfl
   have zc4 : w22.cell? ⟨gx,4,none⟩ = some (.int .i64 a0_4):=(Cop.cell X.out 4).trans rfl
   have zc5 : w22.cell? ⟨gx,5,none⟩ = some (.int .i64 a0_5):=(Cop.cell X.out 5).trans rfl
   have zc6 : w22.cell? ⟨gx,6,none⟩ = some (.int .i64 a0_6):=(Cop.cell X.out 6).trans rfl
   have zc7 : w22.cell? ⟨gx,7,none⟩ = some (.int .i64 a0_7):=(Cop.cell X.out 7).trans rfl
   have zc8 : w22.cell? ⟨gx,8,none⟩ = some (.int .i64 a0_8):=(Cop.cell X.out 8).trans rfl
   have zc9 : w22.cell? ⟨gx,9,none⟩ = some (.slice Ax9 l0_9.length cx9):=(Cop.cell X.out 9).trans rfl
   have zc10 : w22.cell? ⟨gx,10,none⟩ = some (.slice Ax10 l0_10.length cx10):=(Cop.cell X.out 10).trans rfl
   have zc11 : w22.cell? ⟨gx,11,none⟩ = some (.slice (some ⟨gox,0,none⟩) XN.length cx11):=(Cop.cell X.out 11).trans rfl
   go_wp2_with (first|(go_at_call 12;(with_reducible refine (conf_Check.calls k a0_0 a0_1 a0_2 a0_3 a0_4 a0_5 a0_6 a0_7 a0_8 Ax9 cx9 l0_9 Ax10 cx10 l0_10 (some ⟨gox,0,none⟩) cx11 XN _ _ ?s0 ?s1 ?s2 ?s3 ?s4 ?s5 ?s6 C1.out).mono ?_);(case s0=>exact Glob.below HG.out (by repeat (first|(with_reducible first|exact HB.out|apply bL|apply pN|apply bE)|exact HB.out)));(case s1=>exact (Kd.R_reads' (Cop.r9 (by (with_reducible repeat (first|apply Cop.drewN|apply Cop.drew|apply Cop.alloc));exact X.out))).2.2);(case s3=>exact (Kd.R_reads' (Cop.r10 (by (with_reducible repeat (first|apply Cop.drewN|apply Cop.drew|apply Cop.alloc));exact X.out))).2.2);(case s5=>exact (Kd.R_reads' (Cop.r11 (by (with_reducible repeat (first|apply Cop.drewN|apply Cop.drew|apply Cop.alloc));exact X.out))).2.2);(case s2=>exact (Kd.R_reads' (Cop.r9 X.out)).2.1);(case s4=>exact (Kd.R_reads' (Cop.r10 X.out)).2.1);(case s6=>exact (Kd.R_reads' (Cop.r11 X.out)).2.1);rintro e w30 ⟨rfl,hb⟩;have n0_:=Am (below_step (by repeat (first|(with_reducible first|exact HB.out|apply bL|apply pN|apply bE)|exact HB.out)) hb);have n_KC:=Am (blk_below (g:=gc) (o:=.cells #[.int .i64 a0_0,.int .i64 a0_1,.int .i64 a0_2,.int .i64 a0_3,.int .i64 a0_4,.int .i64 a0_5,.int .i64 a0_6,.int .i64 a0_7,.int .i64 a0_8,.slice (some adP) l0_9.length c0_9,.slice (some adQ) l0_10.length c0_10,.slice (some adA) l0_11.length c0_11] 28 (0,0)) (by (with_reducible repeat (first|refine bN ?_ _|refine bD ?_|refine bA ?_ _));exact KC.out) hb);have n_X:=Am (Cop.below (by (with_reducible repeat (first|apply Cop.drewN|apply Cop.drew|apply Cop.alloc));exact X.out) hb);have n_Y:=Am (Cop.below (by (with_reducible repeat (first|apply Cop.drewN|apply Cop.drew|apply Cop.alloc));exact Y.out) hb);have n_Z:=Am (Cop.below (by (with_reducible repeat (first|apply Cop.drewN|apply Cop.drew|apply Cop.alloc));exact Z.out) hb);have n_P:=Am (Cop.below (by (with_reducible repeat (first|apply Cop.drewN|apply Cop.drew|apply Cop.alloc));exact P.out) hb);have n_Q:=Am (Cop.below (by (with_reducible repeat (first|apply Cop.drewN|apply Cop.drew|apply Cop.alloc));exact Q.out) hb);clear HB KC;have HB:=n0_;have KC:=n_KC;clear n0_ n_KC;clear X;have X:=n_X;clear n_X;clear Y;have Y:=n_Y;clear n_Y;clear Z;have Z:=n_Z;clear n_Z;clear P;have P:=n_P;clear n_P;clear Q;have Q:=n_Q;clear n_Q;have zc0 : w30.cell? ⟨gy,0,none⟩ = some (.int .i64 a0_0):=(Cop.cell Y.out 0).trans rfl;have zc1 : w30.cell? ⟨gy,1,none⟩ = some (.int .i64 a0_1):=(Cop.cell Y.out 1).trans rfl;have zc2 : w30.cell? ⟨gy,2,none⟩ = some (.int .i64 a0_2):=(Cop.cell Y.out 2).trans rfl;have zc3 : w30.cell? ⟨gy,3,none⟩ = some (.int .i64 a0_3):=(Cop.cell Y.out 3).trans rfl;have zc4 : w30.cell? ⟨gy,4,none⟩ = some (.int .i64 a0_4):=(Cop.cell Y.out 4).trans rfl;have zc5 : w30.cell? ⟨gy,5,none⟩ = some (.int .i64 a0_5):=(Cop.cell Y.out 5).trans rfl;have zc6 : w30.cell? ⟨gy,6,none⟩ = some (.int .i64 a0_6):=(Cop.cell Y.out 6).trans rfl;have zc7 : w30.cell? ⟨gy,7,none⟩ = some (.int .i64 a0_7):=(Cop.cell Y.out 7).trans rfl;have zc8 : w30.cell? ⟨gy,8,none⟩ = some (.int .i64 a0_8):=(Cop.cell Y.out 8).trans rfl;have zc9 : w30.cell? ⟨gy,9,none⟩ = some (.slice Ay9 l0_9.length cy9):=(Cop.cell Y.out 9).trans rfl;have zc10 : w30.cell? ⟨gy,10,none⟩ = some (.slice Ay10 l0_10.length cy10):=(Cop.cell Y.out 10).trans rfl;have zc11 : w30.cell? ⟨gy,11,none⟩ = some (.slice (some ⟨goy,0,none⟩) YN.length cy11):=(Cop.cell Y.out 11).trans rfl;clear hb)|(go_at_call 12;(with_reducible refine (conf_Check.calls k a0_0 a0_1 a0_2 a0_3 a0_4 a0_5 a0_6 a0_7 a0_8 Ay9 cy9 l0_9 Ay10 cy10 l0_10 (some ⟨goy,0,none⟩) cy11 YN _ _ ?s0 ?s1 ?s2 ?s3 ?s4 ?s5 ?s6 C2.out).mono ?_);(case s0=>exact Glob.below HG.out (by repeat (first|(with_reducible first|exact HB.out|apply bL|apply pN|apply bE)|exact HB.out)));(case s1=>exact (Kd.R_reads' (Cop.r9 (by (with_reducible repeat (first|apply Cop.drewN|apply Cop.drew|apply Cop.alloc));exact Y.out))).2.2);(case s3=>exact (Kd.R_reads' (Cop.r10 (by (with_reducible repeat (first|apply Cop.drewN|apply Cop.drew|apply Cop.alloc));exact Y.out))).2.2);(case s5=>exact (Kd.R_reads' (Cop.r11 (by (with_reducible repeat (first|apply Cop.drewN|apply Cop.drew|apply Cop.alloc));exact Y.out))).2.2);(case s2=>exact (Kd.R_reads' (Cop.r9 Y.out)).2.1);(case s4=>exact (Kd.R_reads' (Cop.r10 Y.out)).2.1);(case s6=>exact (Kd.R_reads' (Cop.r11 Y.out)).2.1);rintro e w31 ⟨rfl,hb⟩;have n0_:=Am (below_step (by repeat (first|(with_reducible first|exact HB.out|apply bL|apply pN|apply bE)|exact HB.out)) hb);have n_KC:=Am (blk_below (g:=gc) (o:=.cells #[.int .i64 a0_0,.int .i64 a0_1,.int .i64 a0_2,.int .i64 a0_3,.int .i64 a0_4,.int .i64 a0_5,.int .i64 a0_6,.int .i64 a0_7,.int .i64 a0_8,.slice (some adP) l0_9.length c0_9,.slice (some adQ) l0_10.length c0_10,.slice (some adA) l0_11.length c0_11] 28 (0,0)) (by (with_reducible repeat (first|refine bN ?_ _|refine bD ?_|refine bA ?_ _));exact KC.out) hb);have n_X:=Am (Cop.below (by (with_reducible repeat (first|apply Cop.drewN|apply Cop.drew|apply Cop.alloc));exact X.out) hb);have n_Y:=Am (Cop.below (by (with_reducible repeat (first|apply Cop.drewN|apply Cop.drew|apply Cop.alloc));exact Y.out) hb);have n_Z:=Am (Cop.below (by (with_reducible repeat (first|apply Cop.drewN|apply Cop.drew|apply Cop.alloc));exact Z.out) hb);have n_P:=Am (Cop.below (by (with_reducible repeat (first|apply Cop.drewN|apply Cop.drew|apply Cop.alloc));exact P.out) hb);have n_Q:=Am (Cop.below (by (with_reducible repeat (first|apply Cop.drewN|apply Cop.drew|apply Cop.alloc));exact Q.out) hb);clear HB KC;have HB:=n0_;have KC:=n_KC;clear n0_ n_KC;clear X;have X:=n_X;clear n_X;clear Y;have Y:=n_Y;clear n_Y;clear Z;have Z:=n_Z;clear n_Z;clear P;have P:=n_P;clear n_P;clear Q;have Q:=n_Q;clear n_Q;have zc0 : w31.cell? ⟨gp,0,none⟩ = some (.int .i64 a0_0):=(Cop.cell P.out 0).trans rfl;have zc1 : w31.cell? ⟨gp,1,none⟩ = some (.int .i64 a0_1):=(Cop.cell P.out 1).trans rfl;have zc2 : w31.cell? ⟨gp,2,none⟩ = some (.int .i64 a0_2):=(Cop.cell P.out 2).trans rfl;have zc3 : w31.cell? ⟨gp,3,none⟩ = some (.int .i64 a0_3):=(Cop.cell P.out 3).trans rfl;have zc4 : w31.cell? ⟨gp,4,none⟩ = some (.int .i64 a0_4):=(Cop.cell P.out 4).trans rfl;have zc5 : w31.cell? ⟨gp,5,none⟩ = some (.int .i64 a0_5):=(Cop.cell P.out 5).trans rfl;have zc6 : w31.cell? ⟨gp,6,none⟩ = some (.int .i64 a0_6):=(Cop.cell P.out 6).trans rfl;have zc7 : w31.cell? ⟨gp,7,none⟩ = some (.int .i64 a0_7):=(Cop.cell P.out 7).trans rfl;have zc8 : w31.cell? ⟨gp,8,none⟩ = some (.int .i64 a0_8):=(Cop.cell P.out 8).trans rfl;have zc9 : w31.cell? ⟨gp,9,none⟩ = some (.slice Apn PN.length cpn):=(Cop.cell P.out 9).trans rfl;have zc10 : w31.cell? ⟨gp,10,none⟩ = some (.slice Ap10 l0_10.length cp10):=(Cop.cell P.out 10).trans rfl;have zc11 : w31.cell? ⟨gp,11,none⟩ = some (.slice Ap11 l0_11.length cp11):=(Cop.cell P.out 11).trans rfl;clear hb)|(go_at_call 12;(with_reducible refine (conf_Check.calls k a0_0 a0_1 a0_2 a0_3 a0_4 a0_5 a0_6 a0_7 a0_8 Apn cpn PN Ap10 cp10 l0_10 Ap11 cp11 l0_11 _ _ ?s0 ?s1 ?s2 ?s3 ?s4 ?s5 ?s6 C4.out).mono ?_);(case s0=>exact Glob.below HG.out (by repeat (first|(with_reducible first|exact HB.out|apply bL|apply pN|apply bE)|exact HB.out)));(case s1=>exact (Kd.R_reads' (Cop.r9 (by (with_reducible repeat (first|apply Cop.drewN|apply Cop.drew|apply Cop.alloc));exact P.out))).2.2);(case s3=>exact (Kd.R_reads' (Cop.r10 (by (with_reducible repeat (first|apply Cop.drewN|apply Cop.drew|apply Cop.alloc));exact P.out))).2.2);(case s5=>exact (Kd.R_reads' (Cop.r11 (by (with_reducible repeat (first|apply Cop.drewN|apply Cop.drew|apply Cop.alloc));exact P.out))).2.2);(case s2=>exact (Kd.R_reads' (Cop.r9 P.out)).2.1);(case s4=>exact (Kd.R_reads' (Cop.r10 P.out)).2.1);(case s6=>exact (Kd.R_reads' (Cop.r11 P.out)).2.1);rintro e w32 ⟨rfl,hb⟩;have n0_:=Am (below_step (by repeat (first|(with_reducible first|exact HB.out|apply bL|apply pN|apply bE)|exact HB.out)) hb);have n_KC:=Am (blk_below (g:=gc) (o:=.cells #[.int .i64 a0_0,.int .i64 a0_1,.int .i64 a0_2,.int .i64 a0_3,.int .i64 a0_4,.int .i64 a0_5,.int .i64 a0_6,.int .i64 a0_7,.int .i64 a0_8,.slice (some adP) l0_9.length c0_9,.slice (some adQ) l0_10.length c0_10,.slice (some adA) l0_11.length c0_11] 28 (0,0)) (by (with_reducible repeat (first|refine bN ?_ _|refine bD ?_|refine bA ?_ _));exact KC.out) hb);have n_X:=Am (Cop.below (by (with_reducible repeat (first|apply Cop.drewN|apply Cop.drew|apply Cop.alloc));exact X.out) hb);have n_Y:=Am (Cop.below (by (with_reducible repeat (first|apply Cop.drewN|apply Cop.drew|apply Cop.alloc));exact Y.out) hb);have n_Z:=Am (Cop.below (by (with_reducible repeat (first|apply Cop.drewN|apply Cop.drew|apply Cop.alloc));exact Z.out) hb);have n_P:=Am (Cop.below (by (with_reducible repeat (first|apply Cop.drewN|apply Cop.drew|apply Cop.alloc));exact P.out) hb);have n_Q:=Am (Cop.below (by (with_reducible repeat (first|apply Cop.drewN|apply Cop.drew|apply Cop.alloc));exact Q.out) hb);clear HB KC;have HB:=n0_;have KC:=n_KC;clear n0_ n_KC;clear X;have X:=n_X;clear n_X;clear Y;have Y:=n_Y;clear n_Y;clear Z;have Z:=n_Z;clear n_Z;clear P;have P:=n_P;clear n_P;clear Q;have Q:=n_Q;clear n_Q;have zc0 : w32.cell? ⟨gq,0,none⟩ = some (.int .i64 a0_0):=(Cop.cell Q.out 0).trans rfl;have zc1 : w32.cell? ⟨gq,1,none⟩ = some (.int .i64 a0_1):=(Cop.cell Q.out 1).trans rfl;have zc2 : w32.cell? ⟨gq,2,none⟩ = some (.int .i64 a0_2):=(Cop.cell Q.out 2).trans rfl;have zc3 : w32.cell? ⟨gq,3,none⟩ = some (.int .i64 a0_3):=(Cop.cell Q.out 3).trans rfl;have zc4 : w32.cell? ⟨gq,4,none⟩ = some (.int .i64 a0_4):=(Cop.cell Q.out 4).trans rfl;have zc5 : w32.cell? ⟨gq,5,none⟩ = some (.int .i64 a0_5):=(Cop.cell Q.out 5).trans rfl;have zc6 : w32.cell? ⟨gq,6,none⟩ = some (.int .i64 a0_6):=(Cop.cell Q.out 6).trans rfl;have zc7 : w32.cell? ⟨gq,7,none⟩ = some (.int .i64 a0_7):=(Cop.cell Q.out 7).trans rfl;have zc8 : w32.cell? ⟨gq,8,none⟩ = some (.int .i64 a0_8):=(Cop.cell Q.out 8).trans rfl;have zc9 : w32.cell? ⟨gq,9,none⟩ = some (.slice Aq9 l0_9.length cq9):=(Cop.cell Q.out 9).trans rfl;have zc10 : w32.cell? ⟨gq,10,none⟩ = some (.slice Aqn QN.length cqn):=(Cop.cell Q.out 10).trans rfl;have zc11 : w32.cell? ⟨gq,11,none⟩ = some (.slice Aq11 l0_11.length cq11):=(Cop.cell Q.out 11).trans rfl;clear hb)|(go_at_call 12;(with_reducible refine (conf_Check.calls k a0_0 a0_1 a0_2 a0_3 a0_4 a0_5 a0_6 a0_7 a0_8 Aq9 cq9 l0_9 Aqn cqn QN Aq11 cq11 l0_11 _ _ ?s0 ?s1 ?s2 ?s3 ?s4 ?s5 ?s6 C5.out).mono ?_);(case s0=>exact Glob.below HG.out (by repeat (first|(with_reducible first|exact HB.out|apply bL|apply pN|apply bE)|exact HB.out)));(case s1=>exact (Kd.R_reads' (Cop.r9 (by (with_reducible repeat (first|apply Cop.drewN|apply Cop.drew|apply Cop.alloc));exact Q.out))).2.2);(case s3=>exact (Kd.R_reads' (Cop.r10 (by (with_reducible repeat (first|apply Cop.drewN|apply Cop.drew|apply Cop.alloc));exact Q.out))).2.2);(case s5=>exact (Kd.R_reads' (Cop.r11 (by (with_reducible repeat (first|apply Cop.drewN|apply Cop.drew|apply Cop.alloc));exact Q.out))).2.2);(case s2=>exact (Kd.R_reads' (Cop.r9 Q.out)).2.1);(case s4=>exact (Kd.R_reads' (Cop.r10 Q.out)).2.1);(case s6=>exact (Kd.R_reads' (Cop.r11 Q.out)).2.1);rintro e w33 ⟨rfl,hb⟩;have n0_:=Am (below_step (by repeat (first|(with_reducible first|exact HB.out|apply bL|apply pN|apply bE)|exact HB.out)) hb);have n_KC:=Am (blk_below (g:=gc) (o:=.cells #[.int .i64 a0_0,.int .i64 a0_1,.int .i64 a0_2,.int .i64 a0_3,.int .i64 a0_4,.int .i64 a0_5,.int .i64 a0_6,.int .i64 a0_7,.int .i64 a0_8,.slice (some adP) l0_9.length c0_9,.slice (some adQ) l0_10.length c0_10,.slice (some adA) l0_11.length c0_11] 28 (0,0)) (by (with_reducible repeat (first|refine bN ?_ _|refine bD ?_|refine bA ?_ _));exact KC.out) hb);have n_X:=Am (Cop.below (by (with_reducible repeat (first|apply Cop.drewN|apply Cop.drew|apply Cop.alloc));exact X.out) hb);have n_Y:=Am (Cop.below (by (with_reducible repeat (first|apply Cop.drewN|apply Cop.drew|apply Cop.alloc));exact Y.out) hb);have n_Z:=Am (Cop.below (by (with_reducible repeat (first|apply Cop.drewN|apply Cop.drew|apply Cop.alloc));exact Z.out) hb);have n_P:=Am (Cop.below (by (with_reducible repeat (first|apply Cop.drewN|apply Cop.drew|apply Cop.alloc));exact P.out) hb);have n_Q:=Am (Cop.below (by (with_reducible repeat (first|apply Cop.drewN|apply Cop.drew|apply Cop.alloc));exact Q.out) hb);clear HB KC;have HB:=n0_;have KC:=n_KC;clear n0_ n_KC;clear X;have X:=n_X;clear n_X;clear Y;have Y:=n_Y;clear n_Y;clear Z;have Z:=n_Z;clear n_Z;clear P;have P:=n_P;clear n_P;clear Q;have Q:=n_Q;clear n_Q;clear hb)|(go_at_call 10;(with_reducible refine (gangerlaw10_known.calls k _ _ ?s0 A9.out).mono ?_);(case s0=>exact Glob.below HG.out (by repeat (first|(with_reducible first|exact HB.out|apply bL|apply pN|apply bE)|exact HB.out)));rintro e w9 ⟨rfl,hb⟩;have n0_:=Am (below_step (by repeat (first|(with_reducible first|exact HB.out|apply bL|apply pN|apply bE)|exact HB.out)) hb);have n_KC:=Am (blk_below (g:=gc) (o:=.cells #[.int .i64 a0_0,.int .i64 a0_1,.int .i64 a0_2,.int .i64 a0_3,.int .i64 a0_4,.int .i64 a0_5,.int .i64 a0_6,.int .i64 a0_7,.int .i64 a0_8,.slice (some adP) l0_9.length c0_9,.slice (some adQ) l0_10.length c0_10,.slice (some adA) l0_11.length c0_11] 28 (0,0)) (by (with_reducible repeat (first|refine bN ?_ _|refine bD ?_|refine bA ?_ _));exact KC.out) hb);have n_X:=Am (Cop.below (by (with_reducible repeat (first|apply Cop.drewN|apply Cop.drew|apply Cop.alloc));exact X.out) hb);have n_Y:=Am (Cop.below (by (with_reducible repeat (first|apply Cop.drewN|apply Cop.drew|apply Cop.alloc));exact Y.out) hb);have n_Z:=Am (Cop.below (by (with_reducible repeat (first|apply Cop.drewN|apply Cop.drew|apply Cop.alloc));exact Z.out) hb);have n_P:=Am (Cop.below (by (with_reducible repeat (first|apply Cop.drewN|apply Cop.drew|apply Cop.alloc));exact P.out) hb);have n_Q:=Am (Cop.below (by (with_reducible repeat (first|apply Cop.drewN|apply Cop.drew|apply Cop.alloc));exact Q.out) hb);clear HB KC;have HB:=n0_;have KC:=n_KC;clear n0_ n_KC;clear X;have X:=n_X;clear n_X;clear Y;have Y:=n_Y;clear n_Y;clear Z;have Z:=n_Z;clear n_Z;clear P;have P:=n_P;clear n_P;clear Q;have Q:=n_Q;clear n_Q;clear hb))
   go_ret
   exact ⟨rfl,by repeat (first|(with_reducible first|exact HB.out|apply bL|apply pN|apply bE)|exact HB.out)⟩
  have z00 : (i == 0) = false:=beq_eq_false_iff_ne.2 h00
  have C3:=Am ((if_neg h00).symm.trans C3.out)
  clear h00
  have zc0 : w22.cell? ⟨gx,0,none⟩ = some (.int .i64 a0_0):=(Cop.cell X.out 0).trans rfl
  have zc1 : w22.cell? ⟨gx,1,none⟩ = some (.int .i64 a0_1):=(Cop.cell X.out 1).trans rfl
  have zc2 : w22.cell? ⟨gx,2,none⟩ = some (.int .i64 a0_2):=(Cop.cell X.out 2).trans rfl
  have zc3 : w22.cell? ⟨gx,3,none⟩ = some (.int .i64 a0_3):=(Cop.cell X.out 3).trans rfl
  have zc4 : w22.cell? ⟨gx,4,none⟩ = some (.int .i64 a0_4):=(Cop.cell X.out 4).trans rfl
  have zc5 : w22.cell? ⟨gx,5,none⟩ = some (.int .i64 a0_5):=(Cop.cell X.out 5).trans rfl
  have zc6 : w22.cell? ⟨gx,6,none⟩ = some (.int .i64 a0_6):=(Cop.cell X.out 6).trans rfl
  have zc7 : w22.cell? ⟨gx,7,none⟩ = some (.int .i64 a0_7):=(Cop.cell X.out 7).trans rfl
  have zc8 : w22.cell? ⟨gx,8,none⟩ = some (.int .i64 a0_8):=(Cop.cell X.out 8).trans rfl
  have zc9 : w22.cell? ⟨gx,9,none⟩ = some (.slice Ax9 l0_9.length cx9):=(Cop.cell X.out 9).trans rfl
  have zc10 : w22.cell? ⟨gx,10,none⟩ = some (.slice Ax10 l0_10.length cx10):=(Cop.cell X.out 10).trans rfl
  have zc11 : w22.cell? ⟨gx,11,none⟩ = some (.slice (some ⟨gox,0,none⟩) XN.length cx11):=(Cop.cell X.out 11).trans rfl
  go_wp2_with (first|(go_at_call 12;(with_reducible refine (conf_Check.calls k a0_0 a0_1 a0_2 a0_3 a0_4 a0_5 a0_6 a0_7 a0_8 Ax9 cx9 l0_9 Ax10 cx10 l0_10 (some ⟨gox,0,none⟩) cx11 XN _ _ ?s0 ?s1 ?s2 ?s3 ?s4 ?s5 ?s6 C1.out).mono ?_);(case s0=>exact Glob.below HG.out (by repeat (first|(with_reducible first|exact HB.out|apply bL|apply pN|apply bE)|exact HB.out)));(case s1=>exact (Kd.R_reads' (Cop.r9 (by (with_reducible repeat (first|apply Cop.drewN|apply Cop.drew|apply Cop.alloc));exact X.out))).2.2);(case s3=>exact (Kd.R_reads' (Cop.r10 (by (with_reducible repeat (first|apply Cop.drewN|apply Cop.drew|apply Cop.alloc));exact X.out))).2.2);(case s5=>exact (Kd.R_reads' (Cop.r11 (by (with_reducible repeat (first|apply Cop.drewN|apply Cop.drew|apply Cop.alloc));exact X.out))).2.2);(case s2=>exact (Kd.R_reads' (Cop.r9 X.out)).2.1);(case s4=>exact (Kd.R_reads' (Cop.r10 X.out)).2.1);(case s6=>exact (Kd.R_reads' (Cop.r11 X.out)).2.1);rintro e w30 ⟨rfl,hb⟩;have n0_:=Am (below_step (by repeat (first|(with_reducible first|exact HB.out|apply bL|apply pN|apply bE)|exact HB.out)) hb);have n_KC:=Am (blk_below (g:=gc) (o:=.cells #[.int .i64 a0_0,.int .i64 a0_1,.int .i64 a0_2,.int .i64 a0_3,.int .i64 a0_4,.int .i64 a0_5,.int .i64 a0_6,.int .i64 a0_7,.int .i64 a0_8,.slice (some adP) l0_9.length c0_9,.slice (some adQ) l0_10.length c0_10,.slice (some adA) l0_11.length c0_11] 28 (0,0)) (by (with_reducible repeat (first|refine bN ?_ _|refine bD ?_|refine bA ?_ _));exact KC.out) hb);have n_X:=Am (Cop.below (by (with_reducible repeat (first|apply Cop.drewN|apply Cop.drew|apply Cop.alloc));exact X.out) hb);have n_Y:=Am (Cop.below (by (with_reducible repeat (first|apply Cop.drewN|apply Cop.drew|apply Cop.alloc));exact Y.out) hb);have n_Z:=Am (Cop.below (by (with_reducible repeat (first|apply Cop.drewN|apply Cop.drew|apply Cop.alloc));exact Z.out) hb);have n_P:=Am (Cop.below (by (with_reducible repeat (first|apply Cop.drewN|apply Cop.drew|apply Cop.alloc));exact P.out) hb);have n_Q:=Am (Cop.below (by (with_reducible repeat (first|apply Cop.drewN|apply Cop.drew|apply Cop.alloc));exact Q.out) hb);clear HB KC;have HB:=n0_;have KC:=n_KC;clear n0_ n_KC;clear X;have X:=n_X;clear n_X;clear Y;have Y:=n_Y;clear n_Y;clear Z;have Z:=n_Z;clear n_Z;clear P;have P:=n_P;clear n_P;clear Q;have Q:=n_Q;clear n_Q;have zc0 : w30.cell? ⟨gy,0,none⟩ = some (.int .i64 a0_0):=(Cop.cell Y.out 0).trans rfl;have zc1 : w30.cell? ⟨gy,1,none⟩ = some (.int .i64 a0_1):=(Cop.cell Y.out 1).trans rfl;have zc2 : w30.cell? ⟨gy,2,none⟩ = some (.int .i64 a0_2):=(Cop.cell Y.out 2).trans rfl;have zc3 : w30.cell? ⟨gy,3,none⟩ = some (.int .i64 a0_3):=(Cop.cell Y.out 3).trans rfl;have zc4 : w30.cell? ⟨gy,4,none⟩ = some (.int .i64 a0_4):=(Cop.cell Y.out 4).trans rfl;have zc5 : w30.cell? ⟨gy,5,none⟩ = some (.int .i64 a0_5):=(Cop.cell Y.out 5).trans rfl;have zc6 : w30.cell? ⟨gy,6,none⟩ = some (.int .i64 a0_6):=(Cop.cell Y.out 6).trans rfl;have zc7 : w30.cell? ⟨gy,7,none⟩ = some (.int .i64 a0_7):=(Cop.cell Y.out 7).trans rfl;have zc8 : w30.cell? ⟨gy,8,none⟩ = some (.int .i64 a0_8):=(Cop.cell Y.out 8).trans rfl;have zc9 : w30.cell? ⟨gy,9,none⟩ = some (.slice Ay9 l0_9.length cy9):=(Cop.cell Y.out 9).trans rfl;have zc10 : w30.cell? ⟨gy,10,none⟩ = some (.slice Ay10 l0_10.length cy10):=(Cop.cell Y.out 10).trans rfl;have zc11 : w30.cell? ⟨gy,11,none⟩ = some (.slice (some ⟨goy,0,none⟩) YN.length cy11):=(Cop.cell Y.out 11).trans rfl;clear hb)|(go_at_call 12;(with_reducible refine (conf_Check.calls k a0_0 a0_1 a0_2 a0_3 a0_4 a0_5 a0_6 a0_7 a0_8 Ay9 cy9 l0_9 Ay10 cy10 l0_10 (some ⟨goy,0,none⟩) cy11 YN _ _ ?s0 ?s1 ?s2 ?s3 ?s4 ?s5 ?s6 C2.out).mono ?_);(case s0=>exact Glob.below HG.out (by repeat (first|(with_reducible first|exact HB.out|apply bL|apply pN|apply bE)|exact HB.out)));(case s1=>exact (Kd.R_reads' (Cop.r9 (by (with_reducible repeat (first|apply Cop.drewN|apply Cop.drew|apply Cop.alloc));exact Y.out))).2.2);(case s3=>exact (Kd.R_reads' (Cop.r10 (by (with_reducible repeat (first|apply Cop.drewN|apply Cop.drew|apply Cop.alloc));exact Y.out))).2.2);(case s5=>exact (Kd.R_reads' (Cop.r11 (by (with_reducible repeat (first|apply Cop.drewN|apply Cop.drew|apply Cop.alloc));exact Y.out))).2.2);(case s2=>exact (Kd.R_reads' (Cop.r9 Y.out)).2.1);(case s4=>exact (Kd.R_reads' (Cop.r10 Y.out)).2.1);(case s6=>exact (Kd.R_reads' (Cop.r11 Y.out)).2.1);rintro e w31 ⟨rfl,hb⟩;have n0_:=Am (below_step (by repeat (first|(with_reducible first|exact HB.out|apply bL|apply pN|apply bE)|exact HB.out)) hb);have n_KC:=Am (blk_below (g:=gc) (o:=.cells #[.int .i64 a0_0,.int .i64 a0_1,.int .i64 a0_2,.int .i64 a0_3,.int .i64 a0_4,.int .i64 a0_5,.int .i64 a0_6,.int .i64 a0_7,.int .i64 a0_8,.slice (some adP) l0_9.length c0_9,.slice (some adQ) l0_10.length c0_10,.slice (some adA) l0_11.length c0_11] 28 (0,0)) (by (with_reducible repeat (first|refine bN ?_ _|refine bD ?_|refine bA ?_ _));exact KC.out) hb);have n_X:=Am (Cop.below (by (with_reducible repeat (first|apply Cop.drewN|apply Cop.drew|apply Cop.alloc));exact X.out) hb);have n_Y:=Am (Cop.below (by (with_reducible repeat (first|apply Cop.drewN|apply Cop.drew|apply Cop.alloc));exact Y.out) hb);have n_Z:=Am (Cop.below (by (with_reducible repeat (first|apply Cop.drewN|apply Cop.drew|apply Cop.alloc));exact Z.out) hb);have n_P:=Am (Cop.below (by (with_reducible repeat (first|apply Cop.drewN|apply Cop.drew|apply Cop.alloc));exact P.out) hb);have n_Q:=Am (Cop.below (by (with_reducible repeat (first|apply Cop.drewN|apply Cop.drew|apply Cop.alloc));exact Q.out) hb);clear HB KC;have HB:=n0_;have KC:=n_KC;clear n0_ n_KC;clear X;have X:=n_X;clear n_X;clear Y;have Y:=n_Y;clear n_Y;clear Z;have Z:=n_Z;clear n_Z;clear P;have P:=n_P;clear n_P;clear Q;have Q:=n_Q;clear n_Q;have zc0 : w31.cell? ⟨w12.heap.size,0,none⟩ = some (.int .i64 a0_0):=(Cop.cell Z.out 0).trans rfl;have zc1 : w31.cell? ⟨w12.heap.size,1,none⟩ = some (.int .i64 a0_1):=(Cop.cell Z.out 1).trans rfl;have zc2 : w31.cell? ⟨w12.heap.size,2,none⟩ = some (.int .i64 a0_2):=(Cop.cell Z.out 2).trans rfl;have zc3 : w31.cell? ⟨w12.heap.size,3,none⟩ = some (.int .i64 a0_3):=(Cop.cell Z.out 3).trans rfl;have zc4 : w31.cell? ⟨w12.heap.size,4,none⟩ = some (.int .i64 a0_4):=(Cop.cell Z.out 4).trans rfl;have zc5 : w31.cell? ⟨w12.heap.size,5,none⟩ = some (.int .i64 a0_5):=(Cop.cell Z.out 5).trans rfl;have zc6 : w31.cell? ⟨w12.heap.size,6,none⟩ = some (.int .i64 a0_6):=(Cop.cell Z.out 6).trans rfl;have zc7 : w31.cell? ⟨w12.heap.size,7,none⟩ = some (.int .i64 a0_7):=(Cop.cell Z.out 7).trans rfl;have zc8 : w31.cell? ⟨w12.heap.size,8,none⟩ = some (.int .i64 a0_8):=(Cop.cell Z.out 8).trans rfl;have zc9 : w31.cell? ⟨w12.heap.size,9,none⟩ = some (.slice Az9 l0_9.length cz9):=(Cop.cell Z.out 9).trans rfl;have zc10 : w31.cell? ⟨w12.heap.size,10,none⟩ = some (.slice Az10 l0_10.length cz10):=(Cop.cell Z.out 10).trans rfl;have zc11 : w31.cell? ⟨w12.heap.size,11,none⟩ = some (.slice (some ⟨goz,0,none⟩) ZN.length cz11):=(Cop.cell Z.out 11).trans rfl;clear hb)|(go_at_call 12;(with_reducible refine (conf_Check.calls k a0_0 a0_1 a0_2 a0_3 a0_4 a0_5 a0_6 a0_7 a0_8 Az9 cz9 l0_9 Az10 cz10 l0_10 (some ⟨goz,0,none⟩) cz11 ZN _ _ ?s0 ?s1 ?s2 ?s3 ?s4 ?s5 ?s6 C3.out).mono ?_);(case s0=>exact Glob.below HG.out (by repeat (first|(with_reducible first|exact HB.out|apply bL|apply pN|apply bE)|exact HB.out)));(case s1=>exact (Kd.R_reads' (Cop.r9 (by (with_reducible repeat (first|apply Cop.drewN|apply Cop.drew|apply Cop.alloc));exact Z.out))).2.2);(case s3=>exact (Kd.R_reads' (Cop.r10 (by (with_reducible repeat (first|apply Cop.drewN|apply Cop.drew|apply Cop.alloc));exact Z.out))).2.2);(case s5=>exact (Kd.R_reads' (Cop.r11 (by (with_reducible repeat (first|apply Cop.drewN|apply Cop.drew|apply Cop.alloc));exact Z.out))).2.2);(case s2=>exact (Kd.R_reads' (Cop.r9 Z.out)).2.1);(case s4=>exact (Kd.R_reads' (Cop.r10 Z.out)).2.1);(case s6=>exact (Kd.R_reads' (Cop.r11 Z.out)).2.1);rintro e w32 ⟨rfl,hb⟩;have n0_:=Am (below_step (by repeat (first|(with_reducible first|exact HB.out|apply bL|apply pN|apply bE)|exact HB.out)) hb);have n_KC:=Am (blk_below (g:=gc) (o:=.cells #[.int .i64 a0_0,.int .i64 a0_1,.int .i64 a0_2,.int .i64 a0_3,.int .i64 a0_4,.int .i64 a0_5,.int .i64 a0_6,.int .i64 a0_7,.int .i64 a0_8,.slice (some adP) l0_9.length c0_9,.slice (some adQ) l0_10.length c0_10,.slice (some adA) l0_11.length c0_11] 28 (0,0)) (by (with_reducible repeat (first|refine bN ?_ _|refine bD ?_|refine bA ?_ _));exact KC.out) hb);have n_X:=Am (Cop.below (by (with_reducible repeat (first|apply Cop.drewN|apply Cop.drew|apply Cop.alloc));exact X.out) hb);have n_Y:=Am (Cop.below (by (with_reducible repeat (first|apply Cop.drewN|apply Cop.drew|apply Cop.alloc));exact Y.out) hb);have n_Z:=Am (Cop.below (by (with_reducible repeat (first|apply Cop.drewN|apply Cop.drew|apply Cop.alloc));exact Z.out) hb);have n_P:=Am (Cop.below (by (with_reducible repeat (first|apply Cop.drewN|apply Cop.drew|apply Cop.alloc));exact P.out) hb);have n_Q:=Am (Cop.below (by (with_reducible repeat (first|apply Cop.drewN|apply Cop.drew|apply Cop.alloc));exact Q.out) hb);clear HB KC;have HB:=n0_;have KC:=n_KC;clear n0_ n_KC;clear X;have X:=n_X;clear n_X;clear Y;have Y:=n_Y;clear n_Y;clear Z;have Z:=n_Z;clear n_Z;clear P;have P:=n_P;clear n_P;clear Q;have Q:=n_Q;clear n_Q;have zc0 : w32.cell? ⟨gp,0,none⟩ = some (.int .i64 a0_0):=(Cop.cell P.out 0).trans rfl;have zc1 : w32.cell? ⟨gp,1,none⟩ = some (.int .i64 a0_1):=(Cop.cell P.out 1).trans rfl;have zc2 : w32.cell? ⟨gp,2,none⟩ = some (.int .i64 a0_2):=(Cop.cell P.out 2).trans rfl;have zc3 : w32.cell? ⟨gp,3,none⟩ = some (.int .i64 a0_3):=(Cop.cell P.out 3).trans rfl;have zc4 : w32.cell? ⟨gp,4,none⟩ = some (.int .i64 a0_4):=(Cop.cell P.out 4).trans rfl;have zc5 : w32.cell? ⟨gp,5,none⟩ = some (.int .i64 a0_5):=(Cop.cell P.out 5).trans rfl;have zc6 : w32.cell? ⟨gp,6,none⟩ = some (.int .i64 a0_6):=(Cop.cell P.out 6).trans rfl;have zc7 : w32.cell? ⟨gp,7,none⟩ = some (.int .i64 a0_7):=(Cop.cell P.out 7).trans rfl;have zc8 : w32.cell? ⟨gp,8,none⟩ = some (.int .i64 a0_8):=(Cop.cell P.out 8).trans rfl;have zc9 : w32.cell? ⟨gp,9,none⟩ = some (.slice Apn PN.length cpn):=(Cop.cell P.out 9).trans rfl;have zc10 : w32.cell? ⟨gp,10,none⟩ = some (.slice Ap10 l0_10.length cp10):=(Cop.cell P.out 10).trans rfl;have zc11 : w32.cell? ⟨gp,11,none⟩ = some (.slice Ap11 l0_11.length cp11):=(Cop.cell P.out 11).trans rfl;clear hb)|(go_at_call 12;(with_reducible refine (conf_Check.calls k a0_0 a0_1 a0_2 a0_3 a0_4 a0_5 a0_6 a0_7 a0_8 Apn cpn PN Ap10 cp10 l0_10 Ap11 cp11 l0_11 _ _ ?s0 ?s1 ?s2 ?s3 ?s4 ?s5 ?s6 C4.out).mono ?_);(case s0=>exact Glob.below HG.out (by repeat (first|(with_reducible first|exact HB.out|apply bL|apply pN|apply bE)|exact HB.out)));(case s1=>exact (Kd.R_reads' (Cop.r9 (by (with_reducible repeat (first|apply Cop.drewN|apply Cop.drew|apply Cop.alloc));exact P.out))).2.2);(case s3=>exact (Kd.R_reads' (Cop.r10 (by (with_reducible repeat (first|apply Cop.drewN|apply Cop.drew|apply Cop.alloc));exact P.out))).2.2);(case s5=>exact (Kd.R_reads' (Cop.r11 (by (with_reducible repeat (first|apply Cop.drewN|apply Cop.drew|apply Cop.alloc));exact P.out))).2.2);(case s2=>exact (Kd.R_reads' (Cop.r9 P.out)).2.1);(case s4=>exact (Kd.R_reads' (Cop.r10 P.out)).2.1);(case s6=>exact (Kd.R_reads' (Cop.r11 P.out)).2.1);rintro e w33 ⟨rfl,hb⟩;have n0_:=Am (below_step (by repeat (first|(with_reducible first|exact HB.out|apply bL|apply pN|apply bE)|exact HB.out)) hb);have n_KC:=Am (blk_below (g:=gc) (o:=.cells #[.int .i64 a0_0,.int .i64 a0_1,.int .i64 a0_2,.int .i64 a0_3,.int .i64 a0_4,.int .i64 a0_5,.int .i64 a0_6,.int .i64 a0_7,.int .i64 a0_8,.slice (some adP) l0_9.length c0_9,.slice (some adQ) l0_10.length c0_10,.slice (some adA) l0_11.length c0_11] 28 (0,0)) (by (with_reducible repeat (first|refine bN ?_ _|refine bD ?_|refine bA ?_ _));exact KC.out) hb);have n_X:=Am (Cop.below (by (with_reducible repeat (first|apply Cop.drewN|apply Cop.drew|apply Cop.alloc));exact X.out) hb);have n_Y:=Am (Cop.below (by (with_reducible repeat (first|apply Cop.drewN|apply Cop.drew|apply Cop.alloc));exact Y.out) hb);have n_Z:=Am (Cop.below (by (with_reducible repeat (first|apply Cop.drewN|apply Cop.drew|apply Cop.alloc));exact Z.out) hb);have n_P:=Am (Cop.below (by (with_reducible repeat (first|apply Cop.drewN|apply Cop.drew|apply Cop.alloc));exact P.out) hb);have n_Q:=Am (Cop.below (by (with_reducible repeat (first|apply Cop.drewN|apply Cop.drew|apply Cop.alloc));exact Q.out) hb);clear HB KC;have HB:=n0_;have KC:=n_KC;clear n0_ n_KC;clear X;have X:=n_X;clear n_X;clear Y;have Y:=n_Y;clear n_Y;clear Z;have Z:=n_Z;clear n_Z;clear P;have P:=n_P;clear n_P;clear Q;have Q:=n_Q;clear n_Q;have zc0 : w33.cell? ⟨gq,0,none⟩ = some (.int .i64 a0_0):=(Cop.cell Q.out 0).trans rfl;have zc1 : w33.cell? ⟨gq,1,none⟩ = some (.int .i64 a0_1):=(Cop.cell Q.out 1).trans rfl;have zc2 : w33.cell? ⟨gq,2,none⟩ = some (.int .i64 a0_2):=(Cop.cell Q.out 2).trans rfl;have zc3 : w33.cell? ⟨gq,3,none⟩ = some (.int .i64 a0_3):=(Cop.cell Q.out 3).trans rfl;have zc4 : w33.cell? ⟨gq,4,none⟩ = some (.int .i64 a0_4):=(Cop.cell Q.out 4).trans rfl;have zc5 : w33.cell? ⟨gq,5,none⟩ = some (.int .i64 a0_5):=(Cop.cell Q.out 5).trans rfl;have zc6 : w33.cell? ⟨gq,6,none⟩ = some (.int .i64 a0_6):=(Cop.cell Q.out 6).trans rfl;have zc7 : w33.cell? ⟨gq,7,none⟩ = some (.int .i64 a0_7):=(Cop.cell Q.out 7).trans rfl;have zc8 : w33.cell? ⟨gq,8,none⟩ = some (.int .i64 a0_8):=(Cop.cell Q.out 8).trans rfl;have zc9 : w33.cell? ⟨gq,9,none⟩ = some (.slice Aq9 l0_9.length cq9):=(Cop.cell Q.out 9).trans rfl;have zc10 : w33.cell? ⟨gq,10,none⟩ = some (.slice Aqn QN.length cqn):=(Cop.cell Q.out 10).trans rfl;have zc11 : w33.cell? ⟨gq,11,none⟩ = some (.slice Aq11 l0_11.length cq11):=(Cop.cell Q.out 11).trans rfl;clear hb)|(go_at_call 12;(with_reducible refine (conf_Check.calls k a0_0 a0_1 a0_2 a0_3 a0_4 a0_5 a0_6 a0_7 a0_8 Aq9 cq9 l0_9 Aqn cqn QN Aq11 cq11 l0_11 _ _ ?s0 ?s1 ?s2 ?s3 ?s4 ?s5 ?s6 C5.out).mono ?_);(case s0=>exact Glob.below HG.out (by repeat (first|(with_reducible first|exact HB.out|apply bL|apply pN|apply bE)|exact HB.out)));(case s1=>exact (Kd.R_reads' (Cop.r9 (by (with_reducible repeat (first|apply Cop.drewN|apply Cop.drew|apply Cop.alloc));exact Q.out))).2.2);(case s3=>exact (Kd.R_reads' (Cop.r10 (by (with_reducible repeat (first|apply Cop.drewN|apply Cop.drew|apply Cop.alloc));exact Q.out))).2.2);(case s5=>exact (Kd.R_reads' (Cop.r11 (by (with_reducible repeat (first|apply Cop.drewN|apply Cop.drew|apply Cop.alloc));exact Q.out))).2.2);(case s2=>exact (Kd.R_reads' (Cop.r9 Q.out)).2.1);(case s4=>exact (Kd.R_reads' (Cop.r10 Q.out)).2.1);(case s6=>exact (Kd.R_reads' (Cop.r11 Q.out)).2.1);rintro e w34 ⟨rfl,hb⟩;have n0_:=Am (below_step (by repeat (first|(with_reducible first|exact HB.out|apply bL|apply pN|apply bE)|exact HB.out)) hb);have n_KC:=Am (blk_below (g:=gc) (o:=.cells #[.int .i64 a0_0,.int .i64 a0_1,.int .i64 a0_2,.int .i64 a0_3,.int .i64 a0_4,.int .i64 a0_5,.int .i64 a0_6,.int .i64 a0_7,.int .i64 a0_8,.slice (some adP) l0_9.length c0_9,.slice (some adQ) l0_10.length c0_10,.slice (some adA) l0_11.length c0_11] 28 (0,0)) (by (with_reducible repeat (first|refine bN ?_ _|refine bD ?_|refine bA ?_ _));exact KC.out) hb);have n_X:=Am (Cop.below (by (with_reducible repeat (first|apply Cop.drewN|apply Cop.drew|apply Cop.alloc));exact X.out) hb);have n_Y:=Am (Cop.below (by (with_reducible repeat (first|apply Cop.drewN|apply Cop.drew|apply Cop.alloc));exact Y.out) hb);have n_Z:=Am (Cop.below (by (with_reducible repeat (first|apply Cop.drewN|apply Cop.drew|apply Cop.alloc));exact Z.out) hb);have n_P:=Am (Cop.below (by (with_reducible repeat (first|apply Cop.drewN|apply Cop.drew|apply Cop.alloc));exact P.out) hb);have n_Q:=Am (Cop.below (by (with_reducible repeat (first|apply Cop.drewN|apply Cop.drew|apply Cop.alloc));exact Q.out) hb);clear HB KC;have HB:=n0_;have KC:=n_KC;clear n0_ n_KC;clear X;have X:=n_X;clear n_X;clear Y;have Y:=n_Y;clear n_Y;clear Z;have Z:=n_Z;clear n_Z;clear P;have P:=n_P;clear n_P;clear Q;have Q:=n_Q;clear n_Q;clear hb)|(go_at_call 10;(with_reducible refine (gangerlaw10_known.calls k _ _ ?s0 A9.out).mono ?_);(case s0=>exact Glob.below HG.out (by repeat (first|(with_reducible first|exact HB.out|apply bL|apply pN|apply bE)|exact HB.out)));rintro e w9 ⟨rfl,hb⟩;have n0_:=Am (below_step (by repeat (first|(with_reducible first|exact HB.out|apply bL|apply pN|apply bE)|exact HB.out)) hb);have n_KC:=Am (blk_below (g:=gc) (o:=.cells #[.int .i64 a0_0,.int .i64 a0_1,.int .i64 a0_2,.int .i64 a0_3,.int .i64 a0_4,.int .i64 a0_5,.int .i64 a0_6,.int .i64 a0_7,.int .i64 a0_8,.slice (some adP) l0_9.length c0_9,.slice (some adQ) l0_10.length c0_10,.slice (some adA) l0_11.length c0_11] 28 (0,0)) (by (with_reducible repeat (first|refine bN ?_ _|refine bD ?_|refine bA ?_ _));exact KC.out) hb);have n_X:=Am (Cop.below (by (with_reducible repeat (first|apply Cop.drewN|apply Cop.drew|apply Cop.alloc));exact X.out) hb);have n_Y:=Am (Cop.below (by (with_reducible repeat (first|apply Cop.drewN|apply Cop.drew|apply Cop.alloc));exact Y.out) hb);have n_Z:=Am (Cop.below (by (with_reducible repeat (first|apply Cop.drewN|apply Cop.drew|apply Cop.alloc));exact Z.out) hb);have n_P:=Am (Cop.below (by (with_reducible repeat (first|apply Cop.drewN|apply Cop.drew|apply Cop.alloc));exact P.out) hb);have n_Q:=Am (Cop.below (by (with_reducible repeat (first|apply Cop.drewN|apply Cop.drew|apply Cop.alloc));exact Q.out) hb);clear HB KC;have HB:=n0_;have KC:=n_KC;clear n0_ n_KC;clear X;have X:=n_X;clear n_X;clear Y;have Y:=n_Y;clear n_Y;clear Z;have Z:=n_Z;clear n_Z;clear P;have P:=n_P;clear n_P;clear Q;have Q:=n_Q;clear n_Q;clear hb))
  go_ret
  exact ⟨rfl,by repeat (first|(with_reducible first|exact HB.out|apply bL|apply pN|apply bE)|exact HB.out)⟩
def gangerlaw10_ConfTwice.Pure : Prop:=∀ (a0_0 : Int) (a0_1 : Int) (a0_2 : Int) (a0_3 : Int) (a0_4 : Int) (a0_5 : Int) (a0_6 : Int) (a0_7 : Int) (a0_8 : Int) (l0_9 : List (S50)) (l0_10 : List (S52)) (l0_11 : List (S48)) (a1 : Int) (a2 : Int),(((Lit.int .i64 a0_0).wf = true)∧(((Lit.int .i64 a0_1).wf = true)∧(((Lit.int .i64 a0_2).wf = true)∧(((Lit.int .i64 a0_3).wf = true)∧((((Lit.int .i64 a0_4).wf = true)∧(((Lit.int .i64 a0_5).wf = true)∧(((Lit.int .i64 a0_6).wf = true)∧(((Lit.int .i64 a0_7).wf = true)∧((Lit.int .i64 a0_8).wf = true)))))∧((l0_9.length≤maxLen∧∀ x4 ∈ l0_9,((x4.f0.size≤maxLen)∧(((Lit.int .i64 x4.f1).wf = true)∧(((Lit.int .i64 x4.f2).wf = true)∧((Lit.int .i64 x4.f3).wf = true)))))∧((l0_10.length≤maxLen∧∀ x5 ∈ l0_10,((x5.f0.size≤maxLen)∧(((Lit.int .i64 x5.f1).wf = true)∧((Lit.int .i64 x5.f2).wf = true))))∧(l0_11.length≤maxLen∧∀ x5 ∈ l0_11,((x5.f0.size≤maxLen)∧((x5.f1.size≤maxLen)∧((Lit.int .i64 x5.f2).wf = true)))))))))))→((Lit.int .i64 a1).wf = true)→((Lit.int .i64 a2).wf = true)→∃ k,gangerlaw10_ConfTwice.f k a0_0 a0_1 a0_2 a0_3 a0_4 a0_5 a0_6 a0_7 a0_8 l0_9 l0_10 l0_11 a1 a2 = some true
end Go.Proofs.YtgidipomfbikiaaDoor.P
