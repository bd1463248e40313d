/- cut to what one law reaches -/
import Derived.Test.YtgidipomfbikiaaDoorTwShort
import Derived.Test.YtgidipomfbikiaaDoorTwP0
import Derived.Test.YtgidipomfbikiaaDoorTwP6
import Derived.Test.YtgidipomfbikiaaDoorTwP9
namespace Go.Proofs.YtgidipomfbikiaaDoor.P
open Go.RowKit Go.Proofs.YtgidipomfbikiaaDoorW.PrintWords Go.Proofs.YtgidipomfbikiaaDoorW.PrintLast Go.Proofs.YtgidipomfbikiaaDoorW.PrintMore
attribute [local go_sem] max2_int min2_int max_two min_two max_three min_three max_four min_four   -- for this text's walks alone
set_option linter.unusedVariables false
set_option linter.unusedSimpArgs false
attribute [local go_sem] isSome_setCell
def partL : ByteArray:=⟨#[112,97,114,116,105,116,105,111,110,32,64,32,111,114,100,101,114,32,35,32,112,114,105,111,114,105,116,121,32,35,32,108,105,109,105,116,32,35]⟩
def classL : ByteArray:=⟨#[113,111,115,32,64,32,112,114,105,111,114,105,116,121,32,35,32,109,111,115,116,32,35]⟩
def accL : ByteArray:=⟨#[97,99,99,111,117,110,116,32,64,32,112,97,114,101,110,116,32,64,32,115,104,97,114,101,115,32,35]⟩
def rootL : ByteArray:=⟨#[97,99,99,111,117,110,116,32,64,32,115,104,97,114,101,115,32,35]⟩
def conf_later.f (k : Nat) (line : ByteArray) (L9 : List S50) (L10 : List S52) (L11 : List S48) : Option (Int × List S50 × List S52 × List S48) :=
 (conf_form.f k line partL).bind fun x=>if x.2.2 = true then (if 0 < x.2.1.length∧2 < x.1.length∧L9.length < 1000000 then some (1,L9 ++ [⟨rdOf ByteArray.empty x.2.1 0,rd x.1 0,rd x.1 1,rd x.1 2⟩],L10,L11) else none) else
 (conf_form.f k line classL).bind fun y=>if y.2.2 = true then (if 0 < y.2.1.length∧1 < y.1.length∧L10.length < 1000000 then some (2,L9,L10 ++ [⟨rdOf ByteArray.empty y.2.1 0,rd y.1 0,rd y.1 1⟩],L11) else none) else
 (conf_form.f k line accL).bind fun z=>if z.2.2 = true∧0 < L11.length then (if 1 < z.2.1.length∧0 < z.1.length∧L11.length < 1000000 then some (3,L9,L10,L11 ++ [⟨rdOf ByteArray.empty z.2.1 0,rdOf ByteArray.empty z.2.1 1,rd z.1 0⟩]) else none) else
 (conf_form.f k line rootL).bind fun u=>if u.2.2 = true∧L11.length = 0 then (if 0 < u.2.1.length∧0 < u.1.length∧L11.length < 1000000 then some (3,L9,L10,L11 ++ [⟨rdOf ByteArray.empty u.2.1 0,⟨#[]⟩,rd u.1 0⟩]) else none) else some (0,L9,L10,L11)
theorem conf_later.mono : ∀ a0 a1 a2 a3 k,LeO (conf_later.f k a0 a1 a2 a3) (conf_later.f (k + 1) a0 a1 a2 a3):=by
 intro a0 a1 a2 a3 k
 unfold conf_later.f
 repeat' first
   | (with_reducible exact conf_form.mono _ _ _)
   | (with_reducible exact LeO.refl _)
   | (with_reducible refine LeO.ite ?_ ?_)
   | (with_reducible refine LeO.bind ?_ (fun _=>?_))
set_option maxHeartbeats 8000000 in
set_option maxRecDepth 1000000 in
theorem conf_later.calls (k : Nat) (b : Nat) (a0 a1 a2 a3 a4 a5 a6 a7 a8 : Int) (v9 v10 v11 : Value) (L9 : List S50) (L10 : List S52) (L11 : List S48) (line : ByteArray) (r : Int) (M9 : List S50) (M10 : List S52) (M11 : List S48) (w0 w : World) (hG : Glob w) (hB : Below w0.heap.size w0 w) (hb0 : w0.heap.size≤b)
  (hb : w.heap[b]? = some (.cells #[.int .i64 a0,.int .i64 a1,.int .i64 a2,.int .i64 a3,.int .i64 a4,.int .i64 a5,.int .i64 a6,.int .i64 a7,.int .i64 a8,v9,v10,v11] 28 (0,0)))
  (h9 : Kd.R k50 50 w w0.heap.size (fun _=>True) v9 L9) (h10 : Kd.R k52 52 w w0.heap.size (fun _=>True) v10 L10) (h11 : Kd.R k48 48 w w0.heap.size (fun _=>True) v11 L11)
  (h : conf_later.f k line L9 L10 L11 = some (r,M9,M10,M11)) :
  Calls Tryd.prog 37 #[.pointer (some ⟨b,0,none⟩),.string line] w fun e w'=>e = .returned (.int .i64 r)∧∃ u9 u10 u11,w'.heap[b]? = some (.cells #[.int .i64 a0,.int .i64 a1,.int .i64 a2,.int .i64 a3,.int .i64 a4,.int .i64 a5,.int .i64 a6,.int .i64 a7,.int .i64 a8,u9,u10,u11] 28 (0,0))∧Kd.R k50 50 w' w0.heap.size (fun _=>True) u9 M9∧Kd.R k52 52 w' w0.heap.size (fun _=>True) u10 M10∧Kd.R k48 48 w' w0.heap.size (fun _=>True) u11 M11∧Below w0.heap.size w0 w':=by
 have hu28:=Tryd.underlying28
 have G0:=Am hG
 have B0:=Am hB
 have K0:=Am hb
 have S0:=Am h9
 have T0:=Am h10
 have U0:=Am h11
 clear hG hB hb h9 h10 h11
 unfold conf_later.f partL classL accL rootL at h
 obtain ⟨⟨n1,l1,o1⟩,A1,h⟩:=oB h
 have A1:=Am A1
 dsimp only at h
 by_cases c1 : o1 = true
 ·subst c1
  rw [if_pos rfl] at h
  by_cases g1 : 0 < l1.length∧2 < n1.length∧L9.length < 1000000
  case neg=>rw [if_neg g1] at h;cases h
  rw [if_pos g1] at h
  simp only [Option.some.injEq,Prod.mk.injEq] at h
  obtain ⟨rfl,rfl,rfl,rfl⟩:=h
  have C1:=Am g1
  clear g1
  go_enter Tryd.func37,Tryd.ntmps37
  go_wp2_with (first|(go_at_call 48;(with_reducible refine (conf_form.calls k line _ n1 l1 true _ G0.out A1.out).mono ?_);rintro e w2 ⟨u1,t1,rfl,q0,q1,hb⟩;have B1:=Am (below_then B0.out hb B0.out.size);have G1:=Am (Glob.below G0.out hb);have K1:=Am ((hb.block b (blk_lt K0.out)).trans K0.out);have S1:=Am (Kd.R_below S0.out hb);have T1:=Am (Kd.R_below T0.out hb);have U1:=Am (Kd.R_below U0.out hb);have Q1:=Am q0;have P1:=Am q1;clear hb q0 q1))
  obtain ⟨gn,cn,rfl,_,_,tn,htn⟩:=Kd.R_form Q1.out (by have:=C1.out;omega)
  obtain ⟨gl,cl,rfl,_,_,tl,htl⟩:=Kd.R_form P1.out (by have:=C1.out;omega)
  obtain ⟨z0,hz0⟩ : ∃ z,rdOf ByteArray.empty l1 0 = z:=⟨_,rfl⟩
  have x0 : w2.cell? ⟨gl,0,none⟩ = some (.string z0):=hz0 ▸ (Kd.R_cell ByteArray.empty P1.out 0 (by omega) (by have:=C1.out;omega)).1
  obtain ⟨z1,hz1⟩ : ∃ z,rd n1 0 = z:=⟨_,rfl⟩
  have x1 : w2.cell? ⟨gn,0,none⟩ = some (.int .i64 z1):=hz1 ▸ (Kd.R_cell (0 : Int) Q1.out 0 (by omega) (by have:=C1.out;omega)).1
  obtain ⟨z2,hz2⟩ : ∃ z,rd n1 1 = z:=⟨_,rfl⟩
  have x2 : w2.cell? ⟨gn,1,none⟩ = some (.int .i64 z2):=hz2 ▸ (Kd.R_cell (0 : Int) Q1.out 1 (by omega) (by have:=C1.out;omega)).1
  obtain ⟨z3,hz3⟩ : ∃ z,rd n1 2 = z:=⟨_,rfl⟩
  have x3 : w2.cell? ⟨gn,2,none⟩ = some (.int .i64 z3):=hz3 ▸ (Kd.R_cell (0 : Int) Q1.out 2 (by omega) (by have:=C1.out;omega)).1
  have E1 : Aside0 ((⟨rdOf ByteArray.empty l1 0,rd n1 0,rd n1 1,rd n1 2⟩ : S50) = ⟨z0,z1,z2,z3⟩):=⟨by rw [hz0,hz1,hz2,hz3]⟩
  have agn:=Kd.R_ne S1.out htn (by decide)
  have agl:=Kd.R_ne S1.out htl (by decide)
  have agb:=Kd.R_ne S1.out K1.out (by decide)
  have pc : w2.cell? ⟨b,9,none⟩ = some v9:=(bC K1.out 9).trans rfl
  have hl0 : (0 : Int) < (l1.length : Int):=by have:=C1.out;omega
  have hl0' : 0 < l1.length:=by have:=C1.out;omega
  have hn0 : (0 : Int) < (n1.length : Int):=by have:=C1.out;omega
  have hn0' : 0 < n1.length:=by have:=C1.out;omega
  have hn1 : (1 : Int) < (n1.length : Int):=by have:=C1.out;omega
  have hn1' : 1 < n1.length:=by have:=C1.out;omega
  have hn2 : (2 : Int) < (n1.length : Int):=by have:=C1.out;omega
  have hn2' : 2 < n1.length:=by have:=C1.out;omega
  have hLM:=C1.out.2.2
  have nbl : gl ≠ b:=blk_ne htl K1.out (by decide)
  have nbn : gn ≠ b:=blk_ne htn K1.out (by decide)
  have nbl':=nbl.symm
  have nbn':=nbn.symm
  have lt1:=bZ B1.out
  have blt : b < w2.heap.size:=blk_lt K1.out
  clear htn htl hz0 hz1 hz2 hz3
  refine start_ (n:=23) (S:=fun w'=>w'.cell? ⟨b,9,none⟩ = some v9∧w'.cell? ⟨gl,0,none⟩ = some (.string z0)∧w'.cell? ⟨gn,0,none⟩ = some (.int .i64 z1)∧w'.cell? ⟨gn,1,none⟩ = some (.int .i64 z2)∧w'.cell? ⟨gn,2,none⟩ = some (.int .i64 z3)) (ds:=[22]) #[O,O,O,O,O,O,O,O,O,O,O,O,O,O,O,O,O,O,O,O,O,O,O] (by kernel_rfl) rfl rfl ⟨pc,x0,x1,x2,x3⟩ (fun hHeld=>?_)
  refine pure_ (i:=0) (N:=some 24) (v:=?_) (a':=?_) #[J,O,O,O,O,O,O,O,O,O,O,O,O,O,O,O,O,O,O,O,O,O,O] rfl rfl (by kernel_rfl) (fun _ _ _ h=>h) (Or.inl ⟨by rfl,?_⟩) ?_ ?_
  rotate_left
  ·intro w'
   go_simp
   with_reducible rfl
  rotate_left
  ·simp only [Act.put,sT,sZ,sS,iW,iV]
   rfl
  refine pure_ (i:=1) (N:=some 25) (v:=?_) (a':=?_) #[J,J,O,O,O,O,O,O,O,O,O,O,O,O,O,O,O,O,O,O,O,O,O] rfl rfl (by kernel_rfl) (fun _ _ _ h=>h) (Or.inl ⟨by rfl,?_⟩) ?_ ?_
  rotate_left
  ·intro w'
   go_simp
   with_reducible rfl
  rotate_left
  ·simp only [Act.put,sT,sZ,sS,iW,iV]
   rfl
  refine pure_ (i:=2) (N:=some 26) (v:=?_) (a':=?_) #[J,J,J,O,O,O,O,O,O,O,O,O,O,O,O,O,O,O,O,O,O,O,O] rfl rfl (by kernel_rfl) (fun _ _ _ h=>h) (Or.inl ⟨by rfl,?_⟩) ?_ ?_
  rotate_left
  ·intro w'
   go_simp
   with_reducible rfl
  rotate_left
  ·simp only [Act.put,sT,sZ,sS,iW,iV]
   rfl
  refine pure_ (i:=3) (N:=some 27) (v:=?_) (a':=?_) #[J,J,J,J,O,O,O,O,O,O,O,O,O,O,O,O,O,O,O,O,O,O,O] rfl rfl (by kernel_rfl) (fun _ _ _ h=>h) (Or.inl ⟨by rfl,?_⟩) ?_ ?_
  rotate_left
  ·intro w'
   go_simp
   with_reducible rfl
  rotate_left
  ·simp only [Act.put,sT,sZ,sS,iW,iV]
   rfl
  refine pure_ (i:=5) (N:=some 29) (v:=?_) (a':=?_) #[J,J,J,J,O,J,O,O,O,O,O,O,O,O,O,O,O,O,O,O,O,O,O] rfl rfl (by kernel_rfl) (fun _ _ _ h=>h) (Or.inl ⟨by rfl,?_⟩) ?_ ?_
  rotate_left
  ·intro w'
   go_simp
   with_reducible rfl
  rotate_left
  ·simp only [Act.put,sT,sZ,sS,iW,iV]
   rfl
  refine pure_ (i:=6) (N:=some 30) (v:=?_) (a':=?_) #[J,J,J,J,O,J,J,O,O,O,O,O,O,O,O,O,O,O,O,O,O,O,O] rfl rfl (by kernel_rfl) (fun _ _ _ h=>h) (Or.inl ⟨by rfl,?_⟩) ?_ ?_
  rotate_left
  ·intro w'
   go_simp
   with_reducible rfl
  rotate_left
  ·simp only [Act.put,sT,sZ,sS,iW,iV]
   rfl
  refine pure_ (i:=8) (N:=some 32) (v:=?_) (a':=?_) #[J,J,J,J,O,J,J,O,J,O,O,O,O,O,O,O,O,O,O,O,O,O,O] rfl rfl (by kernel_rfl) (fun _ _ _ h=>h) (Or.inl ⟨by rfl,?_⟩) ?_ ?_
  rotate_left
  ·intro w'
   go_simp
   with_reducible rfl
  rotate_left
  ·simp only [Act.put,sT,sZ,sS,iW,iV]
   rfl
  refine pure_ (i:=9) (N:=some 33) (v:=?_) (a':=?_) #[J,J,J,J,O,J,J,O,J,J,O,O,O,O,O,O,O,O,O,O,O,O,O] rfl rfl (by kernel_rfl) (fun _ _ _ h=>h) (Or.inl ⟨by rfl,?_⟩) ?_ ?_
  rotate_left
  ·intro w'
   go_simp
   with_reducible rfl
  rotate_left
  ·simp only [Act.put,sT,sZ,sS,iW,iV]
   rfl
  refine pure_ (i:=11) (N:=some 35) (v:=?_) (a':=?_) #[J,J,J,J,O,J,J,O,J,J,O,J,O,O,O,O,O,O,O,O,O,O,O] rfl rfl (by kernel_rfl) (fun _ _ _ h=>h) (Or.inl ⟨by rfl,?_⟩) ?_ ?_
  rotate_left
  ·intro w'
   go_simp
   with_reducible rfl
  rotate_left
  ·simp only [Act.put,sT,sZ,sS,iW,iV]
   rfl
  refine pure_ (i:=12) (N:=some 36) (v:=?_) (a':=?_) #[J,J,J,J,O,J,J,O,J,J,O,J,J,O,O,O,O,O,O,O,O,O,O] rfl rfl (by kernel_rfl) (fun _ _ _ h=>h) (Or.inl ⟨by rfl,?_⟩) ?_ ?_
  rotate_left
  ·intro w'
   go_simp
   with_reducible rfl
  rotate_left
  ·simp only [Act.put,sT,sZ,sS,iW,iV]
   rfl
  refine pure_ (i:=14) (N:=some 38) (v:=?_) (a':=?_) #[J,J,J,J,O,J,J,O,J,J,O,J,J,O,J,O,O,O,O,O,O,O,O] rfl rfl (by kernel_rfl) (fun _ _ _ h=>h) (Or.inl ⟨by rfl,?_⟩) ?_ ?_
  rotate_left
  ·intro w'
   go_simp
   with_reducible rfl
  rotate_left
  ·simp only [Act.put,sT,sZ,sS,iW,iV]
   rfl
  refine pure_ (i:=15) (N:=some 39) (v:=?_) (a':=?_) #[J,J,J,J,O,J,J,O,J,J,O,J,J,O,J,J,O,O,O,O,O,O,O] rfl rfl (by kernel_rfl) (fun _ _ _ h=>h) (Or.inl ⟨by rfl,?_⟩) ?_ ?_
  rotate_left
  ·intro w'
   go_simp
   with_reducible rfl
  rotate_left
  ·simp only [Act.put,sT,sZ,sS,iW,iV]
   rfl
  refine take_ (i:=4) (N:=some 28) (v:=?_) (a':=?_) #[J,J,J,J,J,J,J,O,J,J,O,J,J,O,J,J,O,O,O,O,O,O,O] rfl rfl (by kernel_rfl) (fun _ _ _ h=>h) (Or.inl ⟨by rfl,?_⟩) hHeld ?_ ?_
  rotate_left
  ·rintro w' ⟨s0,s1,s2,s3,s4⟩
   go_simp
   with_reducible rfl
  rotate_left
  ·simp only [Act.put,sT,sZ,sS,iW,iV]
   rfl
  refine take_ (i:=7) (N:=some 31) (v:=?_) (a':=?_) #[J,J,J,J,J,J,J,J,J,J,O,J,J,O,J,J,O,O,O,O,O,O,O] rfl rfl (by kernel_rfl) (fun _ _ _ h=>h) (Or.inl ⟨by rfl,?_⟩) hHeld ?_ ?_
  rotate_left
  ·rintro w' ⟨s0,s1,s2,s3,s4⟩
   go_simp
   with_reducible rfl
  rotate_left
  ·simp only [Act.put,sT,sZ,sS,iW,iV]
   rfl
  refine take_ (i:=10) (N:=some 34) (v:=?_) (a':=?_) #[J,J,J,J,J,J,J,J,J,J,J,J,J,O,J,J,O,O,O,O,O,O,O] rfl rfl (by kernel_rfl) (fun _ _ _ h=>h) (Or.inl ⟨by rfl,?_⟩) hHeld ?_ ?_
  rotate_left
  ·rintro w' ⟨s0,s1,s2,s3,s4⟩
   go_simp
   with_reducible rfl
  rotate_left
  ·simp only [Act.put,sT,sZ,sS,iW,iV]
   rfl
  refine take_ (i:=13) (N:=some 37) (v:=?_) (a':=?_) #[J,J,J,J,J,J,J,J,J,J,J,J,J,J,J,J,O,O,O,O,O,O,O] rfl rfl (by kernel_rfl) (fun _ _ _ h=>h) (Or.inl ⟨by rfl,?_⟩) hHeld ?_ ?_
  rotate_left
  ·rintro w' ⟨s0,s1,s2,s3,s4⟩
   go_simp
   with_reducible rfl
  rotate_left
  ·simp only [Act.put,sT,sZ,sS,iW,iV]
   rfl
  refine take_ (i:=16) (N:=some 40) (v:=?_) (a':=?_) #[J,J,J,J,J,J,J,J,J,J,J,J,J,J,J,J,J,O,O,O,O,O,O] rfl rfl (by kernel_rfl) (fun _ _ _ h=>h) (Or.inl ⟨by rfl,?_⟩) hHeld ?_ ?_
  rotate_left
  ·rintro w' ⟨s0,s1,s2,s3,s4⟩
   go_simp
   with_reducible rfl
  rotate_left
  ·simp only [Act.put,sT,sZ,sS,iW,iV]
   rfl
  refine pure_ (i:=17) (N:=some 41) (v:=?_) (a':=?_) #[J,J,J,J,J,J,J,J,J,J,J,J,J,J,J,J,J,J,O,O,O,O,O] rfl rfl (by kernel_rfl) (fun _ _ _ h=>h) (Or.inl ⟨by rfl,?_⟩) ?_ ?_
  rotate_left
  ·intro w'
   go_simp
   with_reducible rfl
  rotate_left
  ·simp only [Act.put,sT,sZ,sS,iW,iV]
   rfl
  refine one_ (i:=18) (N:=some 42) #[J,J,J,J,J,J,J,J,J,J,J,J,J,J,J,J,J,J,J,O,O,O,O] rfl rfl (by kernel_rfl) (by decide) (fun K hK=>?_)
  refine value_ (w1:=?_) (v:=?_) (by rfl) rfl ?_ ?_
  rotate_left 2
  ·go_simp
   constructor
   ·rfl
   ·rfl
  refine hK.out _ _ ⟨(World.cell?_alloc_lt _ _ _ (wB _ _ (hHeld.1))).trans (hHeld.1),(World.cell?_alloc_lt _ _ _ (wB _ _ (hHeld.2.1))).trans (hHeld.2.1),(World.cell?_alloc_lt _ _ _ (wB _ _ (hHeld.2.2.1))).trans (hHeld.2.2.1),(World.cell?_alloc_lt _ _ _ (wB _ _ (hHeld.2.2.2.1))).trans (hHeld.2.2.2.1),(World.cell?_alloc_lt _ _ _ (wB _ _ (hHeld.2.2.2.2))).trans (hHeld.2.2.2.2)⟩ (fun hHeld=>?_)
  clear hK K
  refine norm_ (a':=?_) ?_ ?_
  rotate_left
  ·show Act.put _ (some 42) _ = _
   simp only [Act.put,sT,sZ,sS,iW,iV]
   rfl
  refine one_ (i:=19) (N:=some 43) #[J,J,J,J,J,J,J,J,J,J,J,J,J,J,J,J,J,J,J,J,O,O,O] rfl rfl (by kernel_rfl) (by decide) (fun K hK=>?_)
  refine Kd.R_append_step k50 (w0:=w0) (W:=w2.drew) w0.heap.size (by rfl) (.tmp 28) (.tmp 42) 24 50 (.agg #[(.string ⟨#[]⟩),(.int .i64 0),(.int .i64 0),(.int .i64 0)]) 40 (by rfl) Tryd.underlying24 info50 rfl (by decide) (by omega) v9 L9 (⟨z0,z1,z2,z3⟩ : S50) [.string z0,.int .i64 z1,.int .i64 z2,.int .i64 z3] (fun _=>True) (fun _=>False) (by rfl) (by rfl) (k50_mkM _ _ _ (⟨z0,z1,z2,z3⟩ : S50)) (fun _ hk=>hk.elim) (fun _ _=>trivial) (Kd.R_drew S1.out) (below_drew B1.out) lt1 (by omega) ?_
  intro v1 w9 ho hbb hgrow hat
  obtain ⟨A5,c5,rfl⟩:=Kd.R_slice ho
  simp only [List.length_append,List.length_cons,List.length_nil,Nat.zero_add] at ho
  have k3:=(hgrow.block b (show b < w2.drew.heap.size from blt) agb).trans (bD K1.out)
  have p3:=(bC k3 9).trans rfl
  have f3:=bF k3 9
  refine hK.out _ _ ⟨(hgrow.cell_far ⟨b,9,none⟩ (by exact wB _ _ (show w2.drew.cell? ⟨b,9,none⟩ = _ from pc)) agb).trans pc,(hgrow.cell_far ⟨gl,0,none⟩ (by exact wB _ _ (show w2.drew.cell? ⟨gl,0,none⟩ = _ from x0)) agl).trans x0,(hgrow.cell_far ⟨gn,0,none⟩ (by exact wB _ _ (show w2.drew.cell? ⟨gn,0,none⟩ = _ from x1)) agn).trans x1,(hgrow.cell_far ⟨gn,1,none⟩ (by exact wB _ _ (show w2.drew.cell? ⟨gn,1,none⟩ = _ from x2)) agn).trans x2,(hgrow.cell_far ⟨gn,2,none⟩ (by exact wB _ _ (show w2.drew.cell? ⟨gn,2,none⟩ = _ from x3)) agn).trans x3⟩ (fun hHeld=>?_)
  clear hK K
  refine norm_ (a':=?_) ?_ ?_
  rotate_left
  ·show Act.put _ (some 43) _ = _
   simp only [Act.put,sT,sZ,sS,iW,iV]
   rfl
  refine pure_ (i:=20) (N:=some 44) (v:=?_) (a':=?_) #[J,J,J,J,J,J,J,J,J,J,J,J,J,J,J,J,J,J,J,J,J,O,O] rfl rfl (by kernel_rfl) (fun _ _ _ h=>h) (Or.inl ⟨by rfl,?_⟩) ?_ ?_
  rotate_left
  ·intro w'
   go_simp
   with_reducible rfl
  rotate_left
  ·simp only [Act.put,sT,sZ,sS,iW,iV]
   rfl
  refine pure_ (i:=21) (N:=some 45) (v:=?_) (a':=?_) #[J,J,J,J,J,J,J,J,J,J,J,J,J,J,J,J,J,J,J,J,J,J,O] rfl rfl (by kernel_rfl) (fun _ _ _ h=>h) (Or.inl ⟨by rfl,?_⟩) ?_ ?_
  rotate_left
  ·intro w'
   go_simp
   with_reducible rfl
  rotate_left
  ·simp only [Act.put,sT,sZ,sS,iW,iV]
   rfl
  refine last_ (i:=22) (N:=none) #[J,J,J,J,J,J,J,J,J,J,J,J,J,J,J,J,J,J,J,J,J,J,J] rfl rfl (by kernel_rfl) (by decide) (fun K hK=>?_)
  refine skip_ (w1:=?_) (by rfl) rfl ?_ ?_
  rotate_left
  ·go_simp
   rfl
  refine hK.out _ _ ?_
  clear hK K
  refine done_ (by kernel_rfl) ?_
  all_goals go_wp2
  all_goals go_ret
  all_goals exact ⟨rfl,_,_,_,blk_put k3 9 _ rfl,(by rw [E1.out];exact Kd.R_set ho k3 (by decide) 9 _),(Kd.R_set (Kd.R_over' (Kd.R_drew T1.out) (Kd.R_typed (Kd.R_drew S1.out)) (by decide) hgrow) k3 (by decide) 9 _),(Kd.R_set (Kd.R_over' (Kd.R_drew U1.out) (Kd.R_typed (Kd.R_drew S1.out)) (by decide) hgrow) k3 (by decide) 9 _),bS hbb hb0⟩
 rw [if_neg c1] at h
 obtain rfl : o1 = false:=by simpa using c1
 clear c1
 obtain ⟨⟨n2,l2,o2⟩,A2,h⟩:=oB h
 have A2:=Am A2
 dsimp only at h
 by_cases c2 : o2 = true
 ·subst c2
  rw [if_pos rfl] at h
  by_cases g2 : 0 < l2.length∧1 < n2.length∧L10.length < 1000000
  case neg=>rw [if_neg g2] at h;cases h
  rw [if_pos g2] at h
  simp only [Option.some.injEq,Prod.mk.injEq] at h
  obtain ⟨rfl,rfl,rfl,rfl⟩:=h
  have C2:=Am g2
  clear g2
  go_enter Tryd.func37,Tryd.ntmps37
  go_wp2_with (first|(go_at_call 48;(with_reducible refine (conf_form.calls k line _ n1 l1 false _ G0.out A1.out).mono ?_);rintro e w2 ⟨u1,t1,rfl,q0,q1,hb⟩;have B1:=Am (below_then B0.out hb B0.out.size);have G1:=Am (Glob.below G0.out hb);have K1:=Am ((hb.block b (blk_lt K0.out)).trans K0.out);have S1:=Am (Kd.R_below S0.out hb);have T1:=Am (Kd.R_below T0.out hb);have U1:=Am (Kd.R_below U0.out hb);have Q1:=Am q0;have P1:=Am q1;clear hb q0 q1)|(go_at_call 48;(with_reducible refine (conf_form.calls k line _ n2 l2 true _ G1.out A2.out).mono ?_);rintro e w3 ⟨u2,t2,rfl,q0,q1,hb⟩;have B2:=Am (below_then B1.out hb B1.out.size);have G2:=Am (Glob.below G1.out hb);have K2:=Am ((hb.block b (blk_lt K1.out)).trans K1.out);have S2:=Am (Kd.R_below S1.out hb);have T2:=Am (Kd.R_below T1.out hb);have U2:=Am (Kd.R_below U1.out hb);have Q2:=Am q0;have P2:=Am q1;clear hb q0 q1))
  obtain ⟨gn,cn,rfl,_,_,tn,htn⟩:=Kd.R_form Q2.out (by have:=C2.out;omega)
  obtain ⟨gl,cl,rfl,_,_,tl,htl⟩:=Kd.R_form P2.out (by have:=C2.out;omega)
  obtain ⟨z0,hz0⟩ : ∃ z,rdOf ByteArray.empty l2 0 = z:=⟨_,rfl⟩
  have x0 : w3.cell? ⟨gl,0,none⟩ = some (.string z0):=hz0 ▸ (Kd.R_cell ByteArray.empty P2.out 0 (by omega) (by have:=C2.out;omega)).1
  obtain ⟨z1,hz1⟩ : ∃ z,rd n2 0 = z:=⟨_,rfl⟩
  have x1 : w3.cell? ⟨gn,0,none⟩ = some (.int .i64 z1):=hz1 ▸ (Kd.R_cell (0 : Int) Q2.out 0 (by omega) (by have:=C2.out;omega)).1
  obtain ⟨z2,hz2⟩ : ∃ z,rd n2 1 = z:=⟨_,rfl⟩
  have x2 : w3.cell? ⟨gn,1,none⟩ = some (.int .i64 z2):=hz2 ▸ (Kd.R_cell (0 : Int) Q2.out 1 (by omega) (by have:=C2.out;omega)).1
  have E1 : Aside0 ((⟨rdOf ByteArray.empty l2 0,rd n2 0,rd n2 1⟩ : S52) = ⟨z0,z1,z2⟩):=⟨by rw [hz0,hz1,hz2]⟩
  have agn:=Kd.R_ne T2.out htn (by decide)
  have agl:=Kd.R_ne T2.out htl (by decide)
  have agb:=Kd.R_ne T2.out K2.out (by decide)
  have pc : w3.cell? ⟨b,10,none⟩ = some v10:=(bC K2.out 10).trans rfl
  have hl0 : (0 : Int) < (l2.length : Int):=by have:=C2.out;omega
  have hl0' : 0 < l2.length:=by have:=C2.out;omega
  have hn0 : (0 : Int) < (n2.length : Int):=by have:=C2.out;omega
  have hn0' : 0 < n2.length:=by have:=C2.out;omega
  have hn1 : (1 : Int) < (n2.length : Int):=by have:=C2.out;omega
  have hn1' : 1 < n2.length:=by have:=C2.out;omega
  have hLM:=C2.out.2.2
  have nbl : gl ≠ b:=blk_ne htl K2.out (by decide)
  have nbn : gn ≠ b:=blk_ne htn K2.out (by decide)
  have nbl':=nbl.symm
  have nbn':=nbn.symm
  have lt1:=bZ B2.out
  have blt : b < w3.heap.size:=blk_lt K2.out
  clear htn htl hz0 hz1 hz2
  refine start_ (n:=20) (S:=fun w'=>w'.cell? ⟨b,10,none⟩ = some v10∧w'.cell? ⟨gl,0,none⟩ = some (.string z0)∧w'.cell? ⟨gn,0,none⟩ = some (.int .i64 z1)∧w'.cell? ⟨gn,1,none⟩ = some (.int .i64 z2)) (ds:=[19]) #[O,O,O,O,O,O,O,O,O,O,O,O,O,O,O,O,O,O,O,O] (by kernel_rfl) rfl rfl ⟨pc,x0,x1,x2⟩ (fun hHeld=>?_)
  refine pure_ (i:=0) (N:=some 53) (v:=?_) (a':=?_) #[J,O,O,O,O,O,O,O,O,O,O,O,O,O,O,O,O,O,O,O] rfl rfl (by kernel_rfl) (fun _ _ _ h=>h) (Or.inl ⟨by rfl,?_⟩) ?_ ?_
  rotate_left
  ·intro w'
   go_simp
   with_reducible rfl
  rotate_left
  ·simp only [Act.put,sT,sZ,sS,iW,iV]
   rfl
  refine pure_ (i:=1) (N:=some 54) (v:=?_) (a':=?_) #[J,J,O,O,O,O,O,O,O,O,O,O,O,O,O,O,O,O,O,O] rfl rfl (by kernel_rfl) (fun _ _ _ h=>h) (Or.inl ⟨by rfl,?_⟩) ?_ ?_
  rotate_left
  ·intro w'
   go_simp
   with_reducible rfl
  rotate_left
  ·simp only [Act.put,sT,sZ,sS,iW,iV]
   rfl
  refine pure_ (i:=2) (N:=some 55) (v:=?_) (a':=?_) #[J,J,J,O,O,O,O,O,O,O,O,O,O,O,O,O,O,O,O,O] rfl rfl (by kernel_rfl) (fun _ _ _ h=>h) (Or.inl ⟨by rfl,?_⟩) ?_ ?_
  rotate_left
  ·intro w'
   go_simp
   with_reducible rfl
  rotate_left
  ·simp only [Act.put,sT,sZ,sS,iW,iV]
   rfl
  refine pure_ (i:=3) (N:=some 56) (v:=?_) (a':=?_) #[J,J,J,J,O,O,O,O,O,O,O,O,O,O,O,O,O,O,O,O] rfl rfl (by kernel_rfl) (fun _ _ _ h=>h) (Or.inl ⟨by rfl,?_⟩) ?_ ?_
  rotate_left
  ·intro w'
   go_simp
   with_reducible rfl
  rotate_left
  ·simp only [Act.put,sT,sZ,sS,iW,iV]
   rfl
  refine pure_ (i:=5) (N:=some 58) (v:=?_) (a':=?_) #[J,J,J,J,O,J,O,O,O,O,O,O,O,O,O,O,O,O,O,O] rfl rfl (by kernel_rfl) (fun _ _ _ h=>h) (Or.inl ⟨by rfl,?_⟩) ?_ ?_
  rotate_left
  ·intro w'
   go_simp
   with_reducible rfl
  rotate_left
  ·simp only [Act.put,sT,sZ,sS,iW,iV]
   rfl
  refine pure_ (i:=6) (N:=some 59) (v:=?_) (a':=?_) #[J,J,J,J,O,J,J,O,O,O,O,O,O,O,O,O,O,O,O,O] rfl rfl (by kernel_rfl) (fun _ _ _ h=>h) (Or.inl ⟨by rfl,?_⟩) ?_ ?_
  rotate_left
  ·intro w'
   go_simp
   with_reducible rfl
  rotate_left
  ·simp only [Act.put,sT,sZ,sS,iW,iV]
   rfl
  refine pure_ (i:=8) (N:=some 61) (v:=?_) (a':=?_) #[J,J,J,J,O,J,J,O,J,O,O,O,O,O,O,O,O,O,O,O] rfl rfl (by kernel_rfl) (fun _ _ _ h=>h) (Or.inl ⟨by rfl,?_⟩) ?_ ?_
  rotate_left
  ·intro w'
   go_simp
   with_reducible rfl
  rotate_left
  ·simp only [Act.put,sT,sZ,sS,iW,iV]
   rfl
  refine pure_ (i:=9) (N:=some 62) (v:=?_) (a':=?_) #[J,J,J,J,O,J,J,O,J,J,O,O,O,O,O,O,O,O,O,O] rfl rfl (by kernel_rfl) (fun _ _ _ h=>h) (Or.inl ⟨by rfl,?_⟩) ?_ ?_
  rotate_left
  ·intro w'
   go_simp
   with_reducible rfl
  rotate_left
  ·simp only [Act.put,sT,sZ,sS,iW,iV]
   rfl
  refine pure_ (i:=11) (N:=some 64) (v:=?_) (a':=?_) #[J,J,J,J,O,J,J,O,J,J,O,J,O,O,O,O,O,O,O,O] rfl rfl (by kernel_rfl) (fun _ _ _ h=>h) (Or.inl ⟨by rfl,?_⟩) ?_ ?_
  rotate_left
  ·intro w'
   go_simp
   with_reducible rfl
  rotate_left
  ·simp only [Act.put,sT,sZ,sS,iW,iV]
   rfl
  refine pure_ (i:=12) (N:=some 65) (v:=?_) (a':=?_) #[J,J,J,J,O,J,J,O,J,J,O,J,J,O,O,O,O,O,O,O] rfl rfl (by kernel_rfl) (fun _ _ _ h=>h) (Or.inl ⟨by rfl,?_⟩) ?_ ?_
  rotate_left
  ·intro w'
   go_simp
   with_reducible rfl
  rotate_left
  ·simp only [Act.put,sT,sZ,sS,iW,iV]
   rfl
  refine take_ (i:=4) (N:=some 57) (v:=?_) (a':=?_) #[J,J,J,J,J,J,J,O,J,J,O,J,J,O,O,O,O,O,O,O] rfl rfl (by kernel_rfl) (fun _ _ _ h=>h) (Or.inl ⟨by rfl,?_⟩) hHeld ?_ ?_
  rotate_left
  ·rintro w' ⟨s0,s1,s2,s3⟩
   go_simp
   with_reducible rfl
  rotate_left
  ·simp only [Act.put,sT,sZ,sS,iW,iV]
   rfl
  refine take_ (i:=7) (N:=some 60) (v:=?_) (a':=?_) #[J,J,J,J,J,J,J,J,J,J,O,J,J,O,O,O,O,O,O,O] rfl rfl (by kernel_rfl) (fun _ _ _ h=>h) (Or.inl ⟨by rfl,?_⟩) hHeld ?_ ?_
  rotate_left
  ·rintro w' ⟨s0,s1,s2,s3⟩
   go_simp
   with_reducible rfl
  rotate_left
  ·simp only [Act.put,sT,sZ,sS,iW,iV]
   rfl
  refine take_ (i:=10) (N:=some 63) (v:=?_) (a':=?_) #[J,J,J,J,J,J,J,J,J,J,J,J,J,O,O,O,O,O,O,O] rfl rfl (by kernel_rfl) (fun _ _ _ h=>h) (Or.inl ⟨by rfl,?_⟩) hHeld ?_ ?_
  rotate_left
  ·rintro w' ⟨s0,s1,s2,s3⟩
   go_simp
   with_reducible rfl
  rotate_left
  ·simp only [Act.put,sT,sZ,sS,iW,iV]
   rfl
  refine take_ (i:=13) (N:=some 66) (v:=?_) (a':=?_) #[J,J,J,J,J,J,J,J,J,J,J,J,J,J,O,O,O,O,O,O] rfl rfl (by kernel_rfl) (fun _ _ _ h=>h) (Or.inl ⟨by rfl,?_⟩) hHeld ?_ ?_
  rotate_left
  ·rintro w' ⟨s0,s1,s2,s3⟩
   go_simp
   with_reducible rfl
  rotate_left
  ·simp only [Act.put,sT,sZ,sS,iW,iV]
   rfl
  refine pure_ (i:=14) (N:=some 67) (v:=?_) (a':=?_) #[J,J,J,J,J,J,J,J,J,J,J,J,J,J,J,O,O,O,O,O] rfl rfl (by kernel_rfl) (fun _ _ _ h=>h) (Or.inl ⟨by rfl,?_⟩) ?_ ?_
  rotate_left
  ·intro w'
   go_simp
   with_reducible rfl
  rotate_left
  ·simp only [Act.put,sT,sZ,sS,iW,iV]
   rfl
  refine one_ (i:=15) (N:=some 68) #[J,J,J,J,J,J,J,J,J,J,J,J,J,J,J,J,O,O,O,O] rfl rfl (by kernel_rfl) (by decide) (fun K hK=>?_)
  refine value_ (w1:=?_) (v:=?_) (by rfl) rfl ?_ ?_
  rotate_left 2
  ·go_simp
   constructor
   ·rfl
   ·rfl
  refine hK.out _ _ ⟨(World.cell?_alloc_lt _ _ _ (wB _ _ (hHeld.1))).trans (hHeld.1),(World.cell?_alloc_lt _ _ _ (wB _ _ (hHeld.2.1))).trans (hHeld.2.1),(World.cell?_alloc_lt _ _ _ (wB _ _ (hHeld.2.2.1))).trans (hHeld.2.2.1),(World.cell?_alloc_lt _ _ _ (wB _ _ (hHeld.2.2.2))).trans (hHeld.2.2.2)⟩ (fun hHeld=>?_)
  clear hK K
  refine norm_ (a':=?_) ?_ ?_
  rotate_left
  ·show Act.put _ (some 68) _ = _
   simp only [Act.put,sT,sZ,sS,iW,iV]
   rfl
  refine one_ (i:=16) (N:=some 69) #[J,J,J,J,J,J,J,J,J,J,J,J,J,J,J,J,J,O,O,O] rfl rfl (by kernel_rfl) (by decide) (fun K hK=>?_)
  refine Kd.R_append_step k52 (w0:=w0) (W:=w3.drew) w0.heap.size (by rfl) (.tmp 57) (.tmp 68) 25 52 (.agg #[(.string ⟨#[]⟩),(.int .i64 0),(.int .i64 0)]) 32 (by rfl) Tryd.underlying25 info52 rfl (by decide) (by omega) v10 L10 (⟨z0,z1,z2⟩ : S52) [.string z0,.int .i64 z1,.int .i64 z2] (fun _=>True) (fun _=>False) (by rfl) (by rfl) (k52_mkM _ _ _ (⟨z0,z1,z2⟩ : S52)) (fun _ hk=>hk.elim) (fun _ _=>trivial) (Kd.R_drew T2.out) (below_drew B2.out) lt1 (by omega) ?_
  intro v1 w9 ho hbb hgrow hat
  obtain ⟨A5,c5,rfl⟩:=Kd.R_slice ho
  simp only [List.length_append,List.length_cons,List.length_nil,Nat.zero_add] at ho
  have k3:=(hgrow.block b (show b < w3.drew.heap.size from blt) agb).trans (bD K2.out)
  have p3:=(bC k3 10).trans rfl
  have f3:=bF k3 10
  refine hK.out _ _ ⟨(hgrow.cell_far ⟨b,10,none⟩ (by exact wB _ _ (show w3.drew.cell? ⟨b,10,none⟩ = _ from pc)) agb).trans pc,(hgrow.cell_far ⟨gl,0,none⟩ (by exact wB _ _ (show w3.drew.cell? ⟨gl,0,none⟩ = _ from x0)) agl).trans x0,(hgrow.cell_far ⟨gn,0,none⟩ (by exact wB _ _ (show w3.drew.cell? ⟨gn,0,none⟩ = _ from x1)) agn).trans x1,(hgrow.cell_far ⟨gn,1,none⟩ (by exact wB _ _ (show w3.drew.cell? ⟨gn,1,none⟩ = _ from x2)) agn).trans x2⟩ (fun hHeld=>?_)
  clear hK K
  refine norm_ (a':=?_) ?_ ?_
  rotate_left
  ·show Act.put _ (some 69) _ = _
   simp only [Act.put,sT,sZ,sS,iW,iV]
   rfl
  refine pure_ (i:=17) (N:=some 70) (v:=?_) (a':=?_) #[J,J,J,J,J,J,J,J,J,J,J,J,J,J,J,J,J,J,O,O] rfl rfl (by kernel_rfl) (fun _ _ _ h=>h) (Or.inl ⟨by rfl,?_⟩) ?_ ?_
  rotate_left
  ·intro w'
   go_simp
   with_reducible rfl
  rotate_left
  ·simp only [Act.put,sT,sZ,sS,iW,iV]
   rfl
  refine pure_ (i:=18) (N:=some 71) (v:=?_) (a':=?_) #[J,J,J,J,J,J,J,J,J,J,J,J,J,J,J,J,J,J,J,O] rfl rfl (by kernel_rfl) (fun _ _ _ h=>h) (Or.inl ⟨by rfl,?_⟩) ?_ ?_
  rotate_left
  ·intro w'
   go_simp
   with_reducible rfl
  rotate_left
  ·simp only [Act.put,sT,sZ,sS,iW,iV]
   rfl
  refine last_ (i:=19) (N:=none) #[J,J,J,J,J,J,J,J,J,J,J,J,J,J,J,J,J,J,J,J] rfl rfl (by kernel_rfl) (by decide) (fun K hK=>?_)
  refine skip_ (w1:=?_) (by rfl) rfl ?_ ?_
  rotate_left
  ·go_simp
   rfl
  refine hK.out _ _ ?_
  clear hK K
  refine done_ (by kernel_rfl) ?_
  all_goals go_wp2
  all_goals go_ret
  all_goals exact ⟨rfl,_,_,_,blk_put k3 10 _ rfl,(Kd.R_set (Kd.R_over' (Kd.R_drew S2.out) (Kd.R_typed (Kd.R_drew T2.out)) (by decide) hgrow) k3 (by decide) 10 _),(by rw [E1.out];exact Kd.R_set ho k3 (by decide) 10 _),(Kd.R_set (Kd.R_over' (Kd.R_drew U2.out) (Kd.R_typed (Kd.R_drew T2.out)) (by decide) hgrow) k3 (by decide) 10 _),bS hbb hb0⟩
 rw [if_neg c2] at h
 obtain rfl : o2 = false:=by simpa using c2
 clear c2
 obtain ⟨⟨n3,l3,o3⟩,A3,h⟩:=oB h
 have A3:=Am A3
 dsimp only at h
 have hp : ∃ A c,v11 = .slice A L11.length c:=Kd.R_slice U0.out
 obtain ⟨Av,cv,rfl⟩:=hp
 by_cases c3 : o3 = true∧0 < L11.length
 ·rw [if_pos c3] at h
  obtain ⟨rfl,hpos⟩:=c3
  have d3 : decide ((0 : Int) < (L11.length : Int)) = true:=decide_eq_true (by omega)
  by_cases g3 : 1 < l3.length∧0 < n3.length∧L11.length < 1000000
  case neg=>rw [if_neg g3] at h;cases h
  rw [if_pos g3] at h
  simp only [Option.some.injEq,Prod.mk.injEq] at h
  obtain ⟨rfl,rfl,rfl,rfl⟩:=h
  have C3:=Am g3
  clear g3
  go_enter Tryd.func37,Tryd.ntmps37
  go_wp2_with (first|(go_at_call 48;(with_reducible refine (conf_form.calls k line _ n1 l1 false _ G0.out A1.out).mono ?_);rintro e w2 ⟨u1,t1,rfl,q0,q1,hb⟩;have B1:=Am (below_then B0.out hb B0.out.size);have G1:=Am (Glob.below G0.out hb);have K1:=Am ((hb.block b (blk_lt K0.out)).trans K0.out);have S1:=Am (Kd.R_below S0.out hb);have T1:=Am (Kd.R_below T0.out hb);have U1:=Am (Kd.R_below U0.out hb);have Q1:=Am q0;have P1:=Am q1;clear hb q0 q1)|(go_at_call 48;(with_reducible refine (conf_form.calls k line _ n2 l2 false _ G1.out A2.out).mono ?_);rintro e w3 ⟨u2,t2,rfl,q0,q1,hb⟩;have B2:=Am (below_then B1.out hb B1.out.size);have G2:=Am (Glob.below G1.out hb);have K2:=Am ((hb.block b (blk_lt K1.out)).trans K1.out);have S2:=Am (Kd.R_below S1.out hb);have T2:=Am (Kd.R_below T1.out hb);have U2:=Am (Kd.R_below U1.out hb);have Q2:=Am q0;have P2:=Am q1;clear hb q0 q1)|(go_at_call 48;(with_reducible refine (conf_form.calls k line _ n3 l3 true _ G2.out A3.out).mono ?_);rintro e w4 ⟨u3,t3,rfl,q0,q1,hb⟩;have B3:=Am (below_then B2.out hb B2.out.size);have G3:=Am (Glob.below G2.out hb);have K3:=Am ((hb.block b (blk_lt K2.out)).trans K2.out);have S3:=Am (Kd.R_below S2.out hb);have T3:=Am (Kd.R_below T2.out hb);have U3:=Am (Kd.R_below U2.out hb);have Q3:=Am q0;have P3:=Am q1;clear hb q0 q1;have e3 : w4.cell? ⟨b,11,none⟩ = some (.slice Av L11.length cv):=(bC K3.out 11).trans rfl))
  obtain ⟨gn,cn,rfl,_,_,tn,htn⟩:=Kd.R_form Q3.out (by have:=C3.out;omega)
  obtain ⟨gl,cl,rfl,_,_,tl,htl⟩:=Kd.R_form P3.out (by have:=C3.out;omega)
  obtain ⟨z0,hz0⟩ : ∃ z,rdOf ByteArray.empty l3 0 = z:=⟨_,rfl⟩
  have x0 : w4.cell? ⟨gl,0,none⟩ = some (.string z0):=hz0 ▸ (Kd.R_cell ByteArray.empty P3.out 0 (by omega) (by have:=C3.out;omega)).1
  obtain ⟨z1,hz1⟩ : ∃ z,rdOf ByteArray.empty l3 1 = z:=⟨_,rfl⟩
  have x1 : w4.cell? ⟨gl,1,none⟩ = some (.string z1):=hz1 ▸ (Kd.R_cell ByteArray.empty P3.out 1 (by omega) (by have:=C3.out;omega)).1
  obtain ⟨z2,hz2⟩ : ∃ z,rd n3 0 = z:=⟨_,rfl⟩
  have x2 : w4.cell? ⟨gn,0,none⟩ = some (.int .i64 z2):=hz2 ▸ (Kd.R_cell (0 : Int) Q3.out 0 (by omega) (by have:=C3.out;omega)).1
  have E1 : Aside0 ((⟨rdOf ByteArray.empty l3 0,rdOf ByteArray.empty l3 1,rd n3 0⟩ : S48) = ⟨z0,z1,z2⟩):=⟨by rw [hz0,hz1,hz2]⟩
  have agn:=Kd.R_ne U3.out htn (by decide)
  have agl:=Kd.R_ne U3.out htl (by decide)
  have agb:=Kd.R_ne U3.out K3.out (by decide)
  have pc : w4.cell? ⟨b,11,none⟩ = some (.slice Av L11.length cv):=(bC K3.out 11).trans rfl
  have hl0 : (0 : Int) < (l3.length : Int):=by have:=C3.out;omega
  have hl0' : 0 < l3.length:=by have:=C3.out;omega
  have hl1 : (1 : Int) < (l3.length : Int):=by have:=C3.out;omega
  have hl1' : 1 < l3.length:=by have:=C3.out;omega
  have hn0 : (0 : Int) < (n3.length : Int):=by have:=C3.out;omega
  have hn0' : 0 < n3.length:=by have:=C3.out;omega
  have hLM:=C3.out.2.2
  have nbl : gl ≠ b:=blk_ne htl K3.out (by decide)
  have nbn : gn ≠ b:=blk_ne htn K3.out (by decide)
  have nbl':=nbl.symm
  have nbn':=nbn.symm
  have lt1:=bZ B3.out
  have blt : b < w4.heap.size:=blk_lt K3.out
  clear htn htl hz0 hz1 hz2
  refine start_ (n:=20) (S:=fun w'=>w'.cell? ⟨b,11,none⟩ = some (.slice Av L11.length cv)∧w'.cell? ⟨gl,0,none⟩ = some (.string z0)∧w'.cell? ⟨gl,1,none⟩ = some (.string z1)∧w'.cell? ⟨gn,0,none⟩ = some (.int .i64 z2)) (ds:=[19]) #[O,O,O,O,O,O,O,O,O,O,O,O,O,O,O,O,O,O,O,O] (by kernel_rfl) rfl rfl ⟨pc,x0,x1,x2⟩ (fun hHeld=>?_)
  refine pure_ (i:=0) (N:=some 87) (v:=?_) (a':=?_) #[J,O,O,O,O,O,O,O,O,O,O,O,O,O,O,O,O,O,O,O] rfl rfl (by kernel_rfl) (fun _ _ _ h=>h) (Or.inl ⟨by rfl,?_⟩) ?_ ?_
  rotate_left
  ·intro w'
   go_simp
   with_reducible rfl
  rotate_left
  ·simp only [Act.put,sT,sZ,sS,iW,iV]
   rfl
  refine pure_ (i:=1) (N:=some 88) (v:=?_) (a':=?_) #[J,J,O,O,O,O,O,O,O,O,O,O,O,O,O,O,O,O,O,O] rfl rfl (by kernel_rfl) (fun _ _ _ h=>h) (Or.inl ⟨by rfl,?_⟩) ?_ ?_
  rotate_left
  ·intro w'
   go_simp
   with_reducible rfl
  rotate_left
  ·simp only [Act.put,sT,sZ,sS,iW,iV]
   rfl
  refine pure_ (i:=2) (N:=some 89) (v:=?_) (a':=?_) #[J,J,J,O,O,O,O,O,O,O,O,O,O,O,O,O,O,O,O,O] rfl rfl (by kernel_rfl) (fun _ _ _ h=>h) (Or.inl ⟨by rfl,?_⟩) ?_ ?_
  rotate_left
  ·intro w'
   go_simp
   with_reducible rfl
  rotate_left
  ·simp only [Act.put,sT,sZ,sS,iW,iV]
   rfl
  refine pure_ (i:=3) (N:=some 90) (v:=?_) (a':=?_) #[J,J,J,J,O,O,O,O,O,O,O,O,O,O,O,O,O,O,O,O] rfl rfl (by kernel_rfl) (fun _ _ _ h=>h) (Or.inl ⟨by rfl,?_⟩) ?_ ?_
  rotate_left
  ·intro w'
   go_simp
   with_reducible rfl
  rotate_left
  ·simp only [Act.put,sT,sZ,sS,iW,iV]
   rfl
  refine pure_ (i:=5) (N:=some 92) (v:=?_) (a':=?_) #[J,J,J,J,O,J,O,O,O,O,O,O,O,O,O,O,O,O,O,O] rfl rfl (by kernel_rfl) (fun _ _ _ h=>h) (Or.inl ⟨by rfl,?_⟩) ?_ ?_
  rotate_left
  ·intro w'
   go_simp
   with_reducible rfl
  rotate_left
  ·simp only [Act.put,sT,sZ,sS,iW,iV]
   rfl
  refine pure_ (i:=6) (N:=some 93) (v:=?_) (a':=?_) #[J,J,J,J,O,J,J,O,O,O,O,O,O,O,O,O,O,O,O,O] rfl rfl (by kernel_rfl) (fun _ _ _ h=>h) (Or.inl ⟨by rfl,?_⟩) ?_ ?_
  rotate_left
  ·intro w'
   go_simp
   with_reducible rfl
  rotate_left
  ·simp only [Act.put,sT,sZ,sS,iW,iV]
   rfl
  refine pure_ (i:=8) (N:=some 95) (v:=?_) (a':=?_) #[J,J,J,J,O,J,J,O,J,O,O,O,O,O,O,O,O,O,O,O] rfl rfl (by kernel_rfl) (fun _ _ _ h=>h) (Or.inl ⟨by rfl,?_⟩) ?_ ?_
  rotate_left
  ·intro w'
   go_simp
   with_reducible rfl
  rotate_left
  ·simp only [Act.put,sT,sZ,sS,iW,iV]
   rfl
  refine pure_ (i:=9) (N:=some 96) (v:=?_) (a':=?_) #[J,J,J,J,O,J,J,O,J,J,O,O,O,O,O,O,O,O,O,O] rfl rfl (by kernel_rfl) (fun _ _ _ h=>h) (Or.inl ⟨by rfl,?_⟩) ?_ ?_
  rotate_left
  ·intro w'
   go_simp
   with_reducible rfl
  rotate_left
  ·simp only [Act.put,sT,sZ,sS,iW,iV]
   rfl
  refine pure_ (i:=11) (N:=some 98) (v:=?_) (a':=?_) #[J,J,J,J,O,J,J,O,J,J,O,J,O,O,O,O,O,O,O,O] rfl rfl (by kernel_rfl) (fun _ _ _ h=>h) (Or.inl ⟨by rfl,?_⟩) ?_ ?_
  rotate_left
  ·intro w'
   go_simp
   with_reducible rfl
  rotate_left
  ·simp only [Act.put,sT,sZ,sS,iW,iV]
   rfl
  refine pure_ (i:=12) (N:=some 99) (v:=?_) (a':=?_) #[J,J,J,J,O,J,J,O,J,J,O,J,J,O,O,O,O,O,O,O] rfl rfl (by kernel_rfl) (fun _ _ _ h=>h) (Or.inl ⟨by rfl,?_⟩) ?_ ?_
  rotate_left
  ·intro w'
   go_simp
   with_reducible rfl
  rotate_left
  ·simp only [Act.put,sT,sZ,sS,iW,iV]
   rfl
  refine take_ (i:=4) (N:=some 91) (v:=?_) (a':=?_) #[J,J,J,J,J,J,J,O,J,J,O,J,J,O,O,O,O,O,O,O] rfl rfl (by kernel_rfl) (fun _ _ _ h=>h) (Or.inl ⟨by rfl,?_⟩) hHeld ?_ ?_
  rotate_left
  ·rintro w' ⟨s0,s1,s2,s3⟩
   go_simp
   with_reducible rfl
  rotate_left
  ·simp only [Act.put,sT,sZ,sS,iW,iV]
   rfl
  refine take_ (i:=7) (N:=some 94) (v:=?_) (a':=?_) #[J,J,J,J,J,J,J,J,J,J,O,J,J,O,O,O,O,O,O,O] rfl rfl (by kernel_rfl) (fun _ _ _ h=>h) (Or.inl ⟨by rfl,?_⟩) hHeld ?_ ?_
  rotate_left
  ·rintro w' ⟨s0,s1,s2,s3⟩
   go_simp
   with_reducible rfl
  rotate_left
  ·simp only [Act.put,sT,sZ,sS,iW,iV]
   rfl
  refine take_ (i:=10) (N:=some 97) (v:=?_) (a':=?_) #[J,J,J,J,J,J,J,J,J,J,J,J,J,O,O,O,O,O,O,O] rfl rfl (by kernel_rfl) (fun _ _ _ h=>h) (Or.inl ⟨by rfl,?_⟩) hHeld ?_ ?_
  rotate_left
  ·rintro w' ⟨s0,s1,s2,s3⟩
   go_simp
   with_reducible rfl
  rotate_left
  ·simp only [Act.put,sT,sZ,sS,iW,iV]
   rfl
  refine take_ (i:=13) (N:=some 100) (v:=?_) (a':=?_) #[J,J,J,J,J,J,J,J,J,J,J,J,J,J,O,O,O,O,O,O] rfl rfl (by kernel_rfl) (fun _ _ _ h=>h) (Or.inl ⟨by rfl,?_⟩) hHeld ?_ ?_
  rotate_left
  ·rintro w' ⟨s0,s1,s2,s3⟩
   go_simp
   with_reducible rfl
  rotate_left
  ·simp only [Act.put,sT,sZ,sS,iW,iV]
   rfl
  refine pure_ (i:=14) (N:=some 101) (v:=?_) (a':=?_) #[J,J,J,J,J,J,J,J,J,J,J,J,J,J,J,O,O,O,O,O] rfl rfl (by kernel_rfl) (fun _ _ _ h=>h) (Or.inl ⟨by rfl,?_⟩) ?_ ?_
  rotate_left
  ·intro w'
   go_simp
   with_reducible rfl
  rotate_left
  ·simp only [Act.put,sT,sZ,sS,iW,iV]
   rfl
  refine one_ (i:=15) (N:=some 102) #[J,J,J,J,J,J,J,J,J,J,J,J,J,J,J,J,O,O,O,O] rfl rfl (by kernel_rfl) (by decide) (fun K hK=>?_)
  refine value_ (w1:=?_) (v:=?_) (by rfl) rfl ?_ ?_
  rotate_left 2
  ·go_simp
   constructor
   ·rfl
   ·rfl
  refine hK.out _ _ ⟨(World.cell?_alloc_lt _ _ _ (wB _ _ (hHeld.1))).trans (hHeld.1),(World.cell?_alloc_lt _ _ _ (wB _ _ (hHeld.2.1))).trans (hHeld.2.1),(World.cell?_alloc_lt _ _ _ (wB _ _ (hHeld.2.2.1))).trans (hHeld.2.2.1),(World.cell?_alloc_lt _ _ _ (wB _ _ (hHeld.2.2.2))).trans (hHeld.2.2.2)⟩ (fun hHeld=>?_)
  clear hK K
  refine norm_ (a':=?_) ?_ ?_
  rotate_left
  ·show Act.put _ (some 102) _ = _
   simp only [Act.put,sT,sZ,sS,iW,iV]
   rfl
  refine one_ (i:=16) (N:=some 103) #[J,J,J,J,J,J,J,J,J,J,J,J,J,J,J,J,J,O,O,O] rfl rfl (by kernel_rfl) (by decide) (fun K hK=>?_)
  refine Kd.R_append_step k48 (w0:=w0) (W:=w4.drew) w0.heap.size (by rfl) (.tmp 91) (.tmp 102) 26 48 (.agg #[(.string ⟨#[]⟩),(.string ⟨#[]⟩),(.int .i64 0)]) 40 (by rfl) Tryd.underlying26 info48 rfl (by decide) (by omega) (.slice Av L11.length cv) L11 (⟨z0,z1,z2⟩ : S48) [.string z0,.string z1,.int .i64 z2] (fun _=>True) (fun _=>False) (by rfl) (by rfl) (k48_mkM _ _ _ (⟨z0,z1,z2⟩ : S48)) (fun _ hk=>hk.elim) (fun _ _=>trivial) (Kd.R_drew U3.out) (below_drew B3.out) lt1 (by omega) ?_
  intro v1 w9 ho hbb hgrow hat
  obtain ⟨A5,c5,rfl⟩:=Kd.R_slice ho
  simp only [List.length_append,List.length_cons,List.length_nil,Nat.zero_add] at ho
  have k3:=(hgrow.block b (show b < w4.drew.heap.size from blt) agb).trans (bD K3.out)
  have p3:=(bC k3 11).trans rfl
  have f3:=bF k3 11
  refine hK.out _ _ ⟨(hgrow.cell_far ⟨b,11,none⟩ (by exact wB _ _ (show w4.drew.cell? ⟨b,11,none⟩ = _ from pc)) agb).trans pc,(hgrow.cell_far ⟨gl,0,none⟩ (by exact wB _ _ (show w4.drew.cell? ⟨gl,0,none⟩ = _ from x0)) agl).trans x0,(hgrow.cell_far ⟨gl,1,none⟩ (by exact wB _ _ (show w4.drew.cell? ⟨gl,1,none⟩ = _ from x1)) agl).trans x1,(hgrow.cell_far ⟨gn,0,none⟩ (by exact wB _ _ (show w4.drew.cell? ⟨gn,0,none⟩ = _ from x2)) agn).trans x2⟩ (fun hHeld=>?_)
  clear hK K
  refine norm_ (a':=?_) ?_ ?_
  rotate_left
  ·show Act.put _ (some 103) _ = _
   simp only [Act.put,sT,sZ,sS,iW,iV]
   rfl
  refine pure_ (i:=17) (N:=some 104) (v:=?_) (a':=?_) #[J,J,J,J,J,J,J,J,J,J,J,J,J,J,J,J,J,J,O,O] rfl rfl (by kernel_rfl) (fun _ _ _ h=>h) (Or.inl ⟨by rfl,?_⟩) ?_ ?_
  rotate_left
  ·intro w'
   go_simp
   with_reducible rfl
  rotate_left
  ·simp only [Act.put,sT,sZ,sS,iW,iV]
   rfl
  refine pure_ (i:=18) (N:=some 105) (v:=?_) (a':=?_) #[J,J,J,J,J,J,J,J,J,J,J,J,J,J,J,J,J,J,J,O] rfl rfl (by kernel_rfl) (fun _ _ _ h=>h) (Or.inl ⟨by rfl,?_⟩) ?_ ?_
  rotate_left
  ·intro w'
   go_simp
   with_reducible rfl
  rotate_left
  ·simp only [Act.put,sT,sZ,sS,iW,iV]
   rfl
  refine last_ (i:=19) (N:=none) #[J,J,J,J,J,J,J,J,J,J,J,J,J,J,J,J,J,J,J,J] rfl rfl (by kernel_rfl) (by decide) (fun K hK=>?_)
  refine skip_ (w1:=?_) (by rfl) rfl ?_ ?_
  rotate_left
  ·go_simp
   rfl
  refine hK.out _ _ ?_
  clear hK K
  refine done_ (by kernel_rfl) ?_
  all_goals go_wp2
  all_goals go_ret
  all_goals exact ⟨rfl,_,_,_,blk_put k3 11 _ rfl,(Kd.R_set (Kd.R_over' (Kd.R_drew S3.out) (Kd.R_typed (Kd.R_drew U3.out)) (by decide) hgrow) k3 (by decide) 11 _),(Kd.R_set (Kd.R_over' (Kd.R_drew T3.out) (Kd.R_typed (Kd.R_drew U3.out)) (by decide) hgrow) k3 (by decide) 11 _),(by rw [E1.out];exact Kd.R_set ho k3 (by decide) 11 _),bS hbb hb0⟩
 rw [if_neg c3] at h
 obtain ⟨⟨n4,l4,o4⟩,A4,h⟩:=oB h
 have A4:=Am A4
 dsimp only at h
 have c3' : o3 = false ∨ (o3 = true∧L11.length = 0):=by
  cases o3 with
  | false=>exact Or.inl rfl
  | true=>exact Or.inr ⟨rfl,by
    rcases Nat.eq_zero_or_pos L11.length with q|q
    ·exact q
    ·exact absurd ⟨rfl,q⟩ c3⟩
 clear c3
 by_cases c4 : o4 = true∧L11.length = 0
 ·rw [if_pos c4] at h
  obtain ⟨rfl,hnil⟩:=c4
  have d3 : decide ((0 : Int) < (L11.length : Int)) = false:=decide_eq_false (by omega)
  have d4 : ((L11.length : Int) == 0) = true:=beq_iff_eq.2 (by omega)
  clear hnil
  by_cases g4 : 0 < l4.length∧0 < n4.length∧L11.length < 1000000
  case neg=>rw [if_neg g4] at h;cases h
  rw [if_pos g4] at h
  simp only [Option.some.injEq,Prod.mk.injEq] at h
  obtain ⟨rfl,rfl,rfl,rfl⟩:=h
  have C4:=Am g4
  clear g4
  rcases c3' with rfl|⟨rfl,hz0⟩
  ·skip
   go_enter Tryd.func37,Tryd.ntmps37
   go_wp2_with (first|(go_at_call 48;(with_reducible refine (conf_form.calls k line _ n1 l1 false _ G0.out A1.out).mono ?_);rintro e w2 ⟨u1,t1,rfl,q0,q1,hb⟩;have B1:=Am (below_then B0.out hb B0.out.size);have G1:=Am (Glob.below G0.out hb);have K1:=Am ((hb.block b (blk_lt K0.out)).trans K0.out);have S1:=Am (Kd.R_below S0.out hb);have T1:=Am (Kd.R_below T0.out hb);have U1:=Am (Kd.R_below U0.out hb);have Q1:=Am q0;have P1:=Am q1;clear hb q0 q1)|(go_at_call 48;(with_reducible refine (conf_form.calls k line _ n2 l2 false _ G1.out A2.out).mono ?_);rintro e w3 ⟨u2,t2,rfl,q0,q1,hb⟩;have B2:=Am (below_then B1.out hb B1.out.size);have G2:=Am (Glob.below G1.out hb);have K2:=Am ((hb.block b (blk_lt K1.out)).trans K1.out);have S2:=Am (Kd.R_below S1.out hb);have T2:=Am (Kd.R_below T1.out hb);have U2:=Am (Kd.R_below U1.out hb);have Q2:=Am q0;have P2:=Am q1;clear hb q0 q1)|(go_at_call 48;(with_reducible refine (conf_form.calls k line _ n3 l3 false _ G2.out A3.out).mono ?_);rintro e w4 ⟨u3,t3,rfl,q0,q1,hb⟩;have B3:=Am (below_then B2.out hb B2.out.size);have G3:=Am (Glob.below G2.out hb);have K3:=Am ((hb.block b (blk_lt K2.out)).trans K2.out);have S3:=Am (Kd.R_below S2.out hb);have T3:=Am (Kd.R_below T2.out hb);have U3:=Am (Kd.R_below U2.out hb);have Q3:=Am q0;have P3:=Am q1;clear hb q0 q1;have e3 : w4.cell? ⟨b,11,none⟩ = some (.slice Av L11.length cv):=(bC K3.out 11).trans rfl)|(go_at_call 48;(with_reducible refine (conf_form.calls k line _ n4 l4 true _ G3.out A4.out).mono ?_);rintro e w5 ⟨u4,t4,rfl,q0,q1,hb⟩;have B4:=Am (below_then B3.out hb B3.out.size);have G4:=Am (Glob.below G3.out hb);have K4:=Am ((hb.block b (blk_lt K3.out)).trans K3.out);have S4:=Am (Kd.R_below S3.out hb);have T4:=Am (Kd.R_below T3.out hb);have U4:=Am (Kd.R_below U3.out hb);have Q4:=Am q0;have P4:=Am q1;clear hb q0 q1;have e4 : w5.cell? ⟨b,11,none⟩ = some (.slice Av L11.length cv):=(bC K4.out 11).trans rfl))
   obtain ⟨gn,cn,rfl,_,_,tn,htn⟩:=Kd.R_form Q4.out (by have:=C4.out;omega)
   obtain ⟨gl,cl,rfl,_,_,tl,htl⟩:=Kd.R_form P4.out (by have:=C4.out;omega)
   obtain ⟨z0,hz0⟩ : ∃ z,rdOf ByteArray.empty l4 0 = z:=⟨_,rfl⟩
   have x0 : w5.cell? ⟨gl,0,none⟩ = some (.string z0):=hz0 ▸ (Kd.R_cell ByteArray.empty P4.out 0 (by omega) (by have:=C4.out;omega)).1
   obtain ⟨z2,hz2⟩ : ∃ z,rd n4 0 = z:=⟨_,rfl⟩
   have x2 : w5.cell? ⟨gn,0,none⟩ = some (.int .i64 z2):=hz2 ▸ (Kd.R_cell (0 : Int) Q4.out 0 (by omega) (by have:=C4.out;omega)).1
   have E1 : Aside0 ((⟨rdOf ByteArray.empty l4 0,(⟨#[]⟩ : ByteArray),rd n4 0⟩ : S48) = ⟨z0,(⟨#[]⟩ : ByteArray),z2⟩):=⟨by rw [hz0,hz2]⟩
   have agn:=Kd.R_ne U4.out htn (by decide)
   have agl:=Kd.R_ne U4.out htl (by decide)
   have agb:=Kd.R_ne U4.out K4.out (by decide)
   have pc : w5.cell? ⟨b,11,none⟩ = some (.slice Av L11.length cv):=(bC K4.out 11).trans rfl
   have hl0 : (0 : Int) < (l4.length : Int):=by have:=C4.out;omega
   have hl0' : 0 < l4.length:=by have:=C4.out;omega
   have hn0 : (0 : Int) < (n4.length : Int):=by have:=C4.out;omega
   have hn0' : 0 < n4.length:=by have:=C4.out;omega
   have hLM:=C4.out.2.2
   have nbl : gl ≠ b:=blk_ne htl K4.out (by decide)
   have nbn : gn ≠ b:=blk_ne htn K4.out (by decide)
   have nbl':=nbl.symm
   have nbn':=nbn.symm
   have lt1:=bZ B4.out
   have blt : b < w5.heap.size:=blk_lt K4.out
   clear htn htl hz0 hz2
   refine start_ (n:=17) (S:=fun w'=>w'.cell? ⟨b,11,none⟩ = some (.slice Av L11.length cv)∧w'.cell? ⟨gl,0,none⟩ = some (.string z0)∧w'.cell? ⟨gn,0,none⟩ = some (.int .i64 z2)) (ds:=[16]) #[O,O,O,O,O,O,O,O,O,O,O,O,O,O,O,O,O] (by kernel_rfl) rfl rfl ⟨pc,x0,x2⟩ (fun hHeld=>?_)
   refine pure_ (i:=0) (N:=some 121) (v:=?_) (a':=?_) #[J,O,O,O,O,O,O,O,O,O,O,O,O,O,O,O,O] rfl rfl (by kernel_rfl) (fun _ _ _ h=>h) (Or.inl ⟨by rfl,?_⟩) ?_ ?_
   rotate_left
   ·intro w'
    go_simp
    with_reducible rfl
   rotate_left
   ·simp only [Act.put,sT,sZ,sS,iW,iV]
    rfl
   refine pure_ (i:=1) (N:=some 122) (v:=?_) (a':=?_) #[J,J,O,O,O,O,O,O,O,O,O,O,O,O,O,O,O] rfl rfl (by kernel_rfl) (fun _ _ _ h=>h) (Or.inl ⟨by rfl,?_⟩) ?_ ?_
   rotate_left
   ·intro w'
    go_simp
    with_reducible rfl
   rotate_left
   ·simp only [Act.put,sT,sZ,sS,iW,iV]
    rfl
   refine pure_ (i:=2) (N:=some 123) (v:=?_) (a':=?_) #[J,J,J,O,O,O,O,O,O,O,O,O,O,O,O,O,O] rfl rfl (by kernel_rfl) (fun _ _ _ h=>h) (Or.inl ⟨by rfl,?_⟩) ?_ ?_
   rotate_left
   ·intro w'
    go_simp
    with_reducible rfl
   rotate_left
   ·simp only [Act.put,sT,sZ,sS,iW,iV]
    rfl
   refine pure_ (i:=3) (N:=some 124) (v:=?_) (a':=?_) #[J,J,J,J,O,O,O,O,O,O,O,O,O,O,O,O,O] rfl rfl (by kernel_rfl) (fun _ _ _ h=>h) (Or.inl ⟨by rfl,?_⟩) ?_ ?_
   rotate_left
   ·intro w'
    go_simp
    with_reducible rfl
   rotate_left
   ·simp only [Act.put,sT,sZ,sS,iW,iV]
    rfl
   refine pure_ (i:=5) (N:=some 126) (v:=?_) (a':=?_) #[J,J,J,J,O,J,O,O,O,O,O,O,O,O,O,O,O] rfl rfl (by kernel_rfl) (fun _ _ _ h=>h) (Or.inl ⟨by rfl,?_⟩) ?_ ?_
   rotate_left
   ·intro w'
    go_simp
    with_reducible rfl
   rotate_left
   ·simp only [Act.put,sT,sZ,sS,iW,iV]
    rfl
   refine pure_ (i:=6) (N:=some 127) (v:=?_) (a':=?_) #[J,J,J,J,O,J,J,O,O,O,O,O,O,O,O,O,O] rfl rfl (by kernel_rfl) (fun _ _ _ h=>h) (Or.inl ⟨by rfl,?_⟩) ?_ ?_
   rotate_left
   ·intro w'
    go_simp
    with_reducible rfl
   rotate_left
   ·simp only [Act.put,sT,sZ,sS,iW,iV]
    rfl
   refine pure_ (i:=8) (N:=some 129) (v:=?_) (a':=?_) #[J,J,J,J,O,J,J,O,J,O,O,O,O,O,O,O,O] rfl rfl (by kernel_rfl) (fun _ _ _ h=>h) (Or.inl ⟨by rfl,?_⟩) ?_ ?_
   rotate_left
   ·intro w'
    go_simp
    with_reducible rfl
   rotate_left
   ·simp only [Act.put,sT,sZ,sS,iW,iV]
    rfl
   refine pure_ (i:=9) (N:=some 130) (v:=?_) (a':=?_) #[J,J,J,J,O,J,J,O,J,J,O,O,O,O,O,O,O] rfl rfl (by kernel_rfl) (fun _ _ _ h=>h) (Or.inl ⟨by rfl,?_⟩) ?_ ?_
   rotate_left
   ·intro w'
    go_simp
    with_reducible rfl
   rotate_left
   ·simp only [Act.put,sT,sZ,sS,iW,iV]
    rfl
   refine take_ (i:=4) (N:=some 125) (v:=?_) (a':=?_) #[J,J,J,J,J,J,J,O,J,J,O,O,O,O,O,O,O] rfl rfl (by kernel_rfl) (fun _ _ _ h=>h) (Or.inl ⟨by rfl,?_⟩) hHeld ?_ ?_
   rotate_left
   ·rintro w' ⟨s0,s1,s2⟩
    go_simp
    with_reducible rfl
   rotate_left
   ·simp only [Act.put,sT,sZ,sS,iW,iV]
    rfl
   refine take_ (i:=7) (N:=some 128) (v:=?_) (a':=?_) #[J,J,J,J,J,J,J,J,J,J,O,O,O,O,O,O,O] rfl rfl (by kernel_rfl) (fun _ _ _ h=>h) (Or.inl ⟨by rfl,?_⟩) hHeld ?_ ?_
   rotate_left
   ·rintro w' ⟨s0,s1,s2⟩
    go_simp
    with_reducible rfl
   rotate_left
   ·simp only [Act.put,sT,sZ,sS,iW,iV]
    rfl
   refine take_ (i:=10) (N:=some 131) (v:=?_) (a':=?_) #[J,J,J,J,J,J,J,J,J,J,J,O,O,O,O,O,O] rfl rfl (by kernel_rfl) (fun _ _ _ h=>h) (Or.inl ⟨by rfl,?_⟩) hHeld ?_ ?_
   rotate_left
   ·rintro w' ⟨s0,s1,s2⟩
    go_simp
    with_reducible rfl
   rotate_left
   ·simp only [Act.put,sT,sZ,sS,iW,iV]
    rfl
   refine pure_ (i:=11) (N:=some 132) (v:=?_) (a':=?_) #[J,J,J,J,J,J,J,J,J,J,J,J,O,O,O,O,O] rfl rfl (by kernel_rfl) (fun _ _ _ h=>h) (Or.inl ⟨by rfl,?_⟩) ?_ ?_
   rotate_left
   ·intro w'
    go_simp
    with_reducible rfl
   rotate_left
   ·simp only [Act.put,sT,sZ,sS,iW,iV]
    rfl
   refine one_ (i:=12) (N:=some 133) #[J,J,J,J,J,J,J,J,J,J,J,J,J,O,O,O,O] rfl rfl (by kernel_rfl) (by decide) (fun K hK=>?_)
   refine value_ (w1:=?_) (v:=?_) (by rfl) rfl ?_ ?_
   rotate_left 2
   ·go_simp
    constructor
    ·rfl
    ·rfl
   refine hK.out _ _ ⟨(World.cell?_alloc_lt _ _ _ (wB _ _ (hHeld.1))).trans (hHeld.1),(World.cell?_alloc_lt _ _ _ (wB _ _ (hHeld.2.1))).trans (hHeld.2.1),(World.cell?_alloc_lt _ _ _ (wB _ _ (hHeld.2.2))).trans (hHeld.2.2)⟩ (fun hHeld=>?_)
   clear hK K
   refine norm_ (a':=?_) ?_ ?_
   rotate_left
   ·show Act.put _ (some 133) _ = _
    simp only [Act.put,sT,sZ,sS,iW,iV]
    rfl
   refine one_ (i:=13) (N:=some 134) #[J,J,J,J,J,J,J,J,J,J,J,J,J,J,O,O,O] rfl rfl (by kernel_rfl) (by decide) (fun K hK=>?_)
   refine Kd.R_append_step k48 (w0:=w0) (W:=w5.drew) w0.heap.size (by rfl) (.tmp 125) (.tmp 133) 26 48 (.agg #[(.string ⟨#[]⟩),(.string ⟨#[]⟩),(.int .i64 0)]) 40 (by rfl) Tryd.underlying26 info48 rfl (by decide) (by omega) (.slice Av L11.length cv) L11 (⟨z0,(⟨#[]⟩ : ByteArray),z2⟩ : S48) [.string z0,.string (⟨#[]⟩ : ByteArray),.int .i64 z2] (fun _=>True) (fun _=>False) (by rfl) (by rfl) (k48_mkM _ _ _ (⟨z0,(⟨#[]⟩ : ByteArray),z2⟩ : S48)) (fun _ hk=>hk.elim) (fun _ _=>trivial) (Kd.R_drew U4.out) (below_drew B4.out) lt1 (by omega) ?_
   intro v1 w9 ho hbb hgrow hat
   obtain ⟨A5,c5,rfl⟩:=Kd.R_slice ho
   simp only [List.length_append,List.length_cons,List.length_nil,Nat.zero_add] at ho
   have k3:=(hgrow.block b (show b < w5.drew.heap.size from blt) agb).trans (bD K4.out)
   have p3:=(bC k3 11).trans rfl
   have f3:=bF k3 11
   refine hK.out _ _ ⟨(hgrow.cell_far ⟨b,11,none⟩ (by exact wB _ _ (show w5.drew.cell? ⟨b,11,none⟩ = _ from pc)) agb).trans pc,(hgrow.cell_far ⟨gl,0,none⟩ (by exact wB _ _ (show w5.drew.cell? ⟨gl,0,none⟩ = _ from x0)) agl).trans x0,(hgrow.cell_far ⟨gn,0,none⟩ (by exact wB _ _ (show w5.drew.cell? ⟨gn,0,none⟩ = _ from x2)) agn).trans x2⟩ (fun hHeld=>?_)
   clear hK K
   refine norm_ (a':=?_) ?_ ?_
   rotate_left
   ·show Act.put _ (some 134) _ = _
    simp only [Act.put,sT,sZ,sS,iW,iV]
    rfl
   refine pure_ (i:=14) (N:=some 135) (v:=?_) (a':=?_) #[J,J,J,J,J,J,J,J,J,J,J,J,J,J,J,O,O] rfl rfl (by kernel_rfl) (fun _ _ _ h=>h) (Or.inl ⟨by rfl,?_⟩) ?_ ?_
   rotate_left
   ·intro w'
    go_simp
    with_reducible rfl
   rotate_left
   ·simp only [Act.put,sT,sZ,sS,iW,iV]
    rfl
   refine pure_ (i:=15) (N:=some 136) (v:=?_) (a':=?_) #[J,J,J,J,J,J,J,J,J,J,J,J,J,J,J,J,O] rfl rfl (by kernel_rfl) (fun _ _ _ h=>h) (Or.inl ⟨by rfl,?_⟩) ?_ ?_
   rotate_left
   ·intro w'
    go_simp
    with_reducible rfl
   rotate_left
   ·simp only [Act.put,sT,sZ,sS,iW,iV]
    rfl
   refine last_ (i:=16) (N:=none) #[J,J,J,J,J,J,J,J,J,J,J,J,J,J,J,J,J] rfl rfl (by kernel_rfl) (by decide) (fun K hK=>?_)
   refine skip_ (w1:=?_) (by rfl) rfl ?_ ?_
   rotate_left
   ·go_simp
    rfl
   refine hK.out _ _ ?_
   clear hK K
   refine done_ (by kernel_rfl) ?_
   all_goals go_wp2
   all_goals go_ret
   all_goals exact ⟨rfl,_,_,_,blk_put k3 11 _ rfl,(Kd.R_set (Kd.R_over' (Kd.R_drew S4.out) (Kd.R_typed (Kd.R_drew U4.out)) (by decide) hgrow) k3 (by decide) 11 _),(Kd.R_set (Kd.R_over' (Kd.R_drew T4.out) (Kd.R_typed (Kd.R_drew U4.out)) (by decide) hgrow) k3 (by decide) 11 _),(by rw [E1.out];exact Kd.R_set ho k3 (by decide) 11 _),bS hbb hb0⟩
  ·obtain rfl : L11 = []:=List.length_eq_zero_iff.1 hz0
   go_enter Tryd.func37,Tryd.ntmps37
   go_wp2_with (first|(go_at_call 48;(with_reducible refine (conf_form.calls k line _ n1 l1 false _ G0.out A1.out).mono ?_);rintro e w2 ⟨u1,t1,rfl,q0,q1,hb⟩;have B1:=Am (below_then B0.out hb B0.out.size);have G1:=Am (Glob.below G0.out hb);have K1:=Am ((hb.block b (blk_lt K0.out)).trans K0.out);have S1:=Am (Kd.R_below S0.out hb);have T1:=Am (Kd.R_below T0.out hb);have U1:=Am (Kd.R_below U0.out hb);have Q1:=Am q0;have P1:=Am q1;clear hb q0 q1)|(go_at_call 48;(with_reducible refine (conf_form.calls k line _ n2 l2 false _ G1.out A2.out).mono ?_);rintro e w3 ⟨u2,t2,rfl,q0,q1,hb⟩;have B2:=Am (below_then B1.out hb B1.out.size);have G2:=Am (Glob.below G1.out hb);have K2:=Am ((hb.block b (blk_lt K1.out)).trans K1.out);have S2:=Am (Kd.R_below S1.out hb);have T2:=Am (Kd.R_below T1.out hb);have U2:=Am (Kd.R_below U1.out hb);have Q2:=Am q0;have P2:=Am q1;clear hb q0 q1)|(go_at_call 48;(with_reducible refine (conf_form.calls k line _ n3 l3 true _ G2.out A3.out).mono ?_);rintro e w4 ⟨u3,t3,rfl,q0,q1,hb⟩;have B3:=Am (below_then B2.out hb B2.out.size);have G3:=Am (Glob.below G2.out hb);have K3:=Am ((hb.block b (blk_lt K2.out)).trans K2.out);have S3:=Am (Kd.R_below S2.out hb);have T3:=Am (Kd.R_below T2.out hb);have U3:=Am (Kd.R_below U2.out hb);have Q3:=Am q0;have P3:=Am q1;clear hb q0 q1;have e3 : w4.cell? ⟨b,11,none⟩ = some (.slice Av ([] : List S48).length cv):=(bC K3.out 11).trans rfl)|(go_at_call 48;(with_reducible refine (conf_form.calls k line _ n4 l4 true _ G3.out A4.out).mono ?_);rintro e w5 ⟨u4,t4,rfl,q0,q1,hb⟩;have B4:=Am (below_then B3.out hb B3.out.size);have G4:=Am (Glob.below G3.out hb);have K4:=Am ((hb.block b (blk_lt K3.out)).trans K3.out);have S4:=Am (Kd.R_below S3.out hb);have T4:=Am (Kd.R_below T3.out hb);have U4:=Am (Kd.R_below U3.out hb);have Q4:=Am q0;have P4:=Am q1;clear hb q0 q1;have e4 : w5.cell? ⟨b,11,none⟩ = some (.slice Av ([] : List S48).length cv):=(bC K4.out 11).trans rfl))
   obtain ⟨gn,cn,rfl,_,_,tn,htn⟩:=Kd.R_form Q4.out (by have:=C4.out;omega)
   obtain ⟨gl,cl,rfl,_,_,tl,htl⟩:=Kd.R_form P4.out (by have:=C4.out;omega)
   obtain ⟨z0,hz0⟩ : ∃ z,rdOf ByteArray.empty l4 0 = z:=⟨_,rfl⟩
   have x0 : w5.cell? ⟨gl,0,none⟩ = some (.string z0):=hz0 ▸ (Kd.R_cell ByteArray.empty P4.out 0 (by omega) (by have:=C4.out;omega)).1
   obtain ⟨z2,hz2⟩ : ∃ z,rd n4 0 = z:=⟨_,rfl⟩
   have x2 : w5.cell? ⟨gn,0,none⟩ = some (.int .i64 z2):=hz2 ▸ (Kd.R_cell (0 : Int) Q4.out 0 (by omega) (by have:=C4.out;omega)).1
   have E1 : Aside0 ((⟨rdOf ByteArray.empty l4 0,(⟨#[]⟩ : ByteArray),rd n4 0⟩ : S48) = ⟨z0,(⟨#[]⟩ : ByteArray),z2⟩):=⟨by rw [hz0,hz2]⟩
   have agn:=Kd.R_ne U4.out htn (by decide)
   have agl:=Kd.R_ne U4.out htl (by decide)
   have agb:=Kd.R_ne U4.out K4.out (by decide)
   have pc : w5.cell? ⟨b,11,none⟩ = some (.slice Av ([] : List S48).length cv):=(bC K4.out 11).trans rfl
   have hl0 : (0 : Int) < (l4.length : Int):=by have:=C4.out;omega
   have hl0' : 0 < l4.length:=by have:=C4.out;omega
   have hn0 : (0 : Int) < (n4.length : Int):=by have:=C4.out;omega
   have hn0' : 0 < n4.length:=by have:=C4.out;omega
   have hLM:=C4.out.2.2
   have nbl : gl ≠ b:=blk_ne htl K4.out (by decide)
   have nbn : gn ≠ b:=blk_ne htn K4.out (by decide)
   have nbl':=nbl.symm
   have nbn':=nbn.symm
   have lt1:=bZ B4.out
   have blt : b < w5.heap.size:=blk_lt K4.out
   clear htn htl hz0 hz2
   refine start_ (n:=17) (S:=fun w'=>w'.cell? ⟨b,11,none⟩ = some (.slice Av ([] : List S48).length cv)∧w'.cell? ⟨gl,0,none⟩ = some (.string z0)∧w'.cell? ⟨gn,0,none⟩ = some (.int .i64 z2)) (ds:=[16]) #[O,O,O,O,O,O,O,O,O,O,O,O,O,O,O,O,O] (by kernel_rfl) rfl rfl ⟨pc,x0,x2⟩ (fun hHeld=>?_)
   refine pure_ (i:=0) (N:=some 121) (v:=?_) (a':=?_) #[J,O,O,O,O,O,O,O,O,O,O,O,O,O,O,O,O] rfl rfl (by kernel_rfl) (fun _ _ _ h=>h) (Or.inl ⟨by rfl,?_⟩) ?_ ?_
   rotate_left
   ·intro w'
    go_simp
    with_reducible rfl
   rotate_left
   ·simp only [Act.put,sT,sZ,sS,iW,iV]
    rfl
   refine pure_ (i:=1) (N:=some 122) (v:=?_) (a':=?_) #[J,J,O,O,O,O,O,O,O,O,O,O,O,O,O,O,O] rfl rfl (by kernel_rfl) (fun _ _ _ h=>h) (Or.inl ⟨by rfl,?_⟩) ?_ ?_
   rotate_left
   ·intro w'
    go_simp
    with_reducible rfl
   rotate_left
   ·simp only [Act.put,sT,sZ,sS,iW,iV]
    rfl
   refine pure_ (i:=2) (N:=some 123) (v:=?_) (a':=?_) #[J,J,J,O,O,O,O,O,O,O,O,O,O,O,O,O,O] rfl rfl (by kernel_rfl) (fun _ _ _ h=>h) (Or.inl ⟨by rfl,?_⟩) ?_ ?_
   rotate_left
   ·intro w'
    go_simp
    with_reducible rfl
   rotate_left
   ·simp only [Act.put,sT,sZ,sS,iW,iV]
    rfl
   refine pure_ (i:=3) (N:=some 124) (v:=?_) (a':=?_) #[J,J,J,J,O,O,O,O,O,O,O,O,O,O,O,O,O] rfl rfl (by kernel_rfl) (fun _ _ _ h=>h) (Or.inl ⟨by rfl,?_⟩) ?_ ?_
   rotate_left
   ·intro w'
    go_simp
    with_reducible rfl
   rotate_left
   ·simp only [Act.put,sT,sZ,sS,iW,iV]
    rfl
   refine pure_ (i:=5) (N:=some 126) (v:=?_) (a':=?_) #[J,J,J,J,O,J,O,O,O,O,O,O,O,O,O,O,O] rfl rfl (by kernel_rfl) (fun _ _ _ h=>h) (Or.inl ⟨by rfl,?_⟩) ?_ ?_
   rotate_left
   ·intro w'
    go_simp
    with_reducible rfl
   rotate_left
   ·simp only [Act.put,sT,sZ,sS,iW,iV]
    rfl
   refine pure_ (i:=6) (N:=some 127) (v:=?_) (a':=?_) #[J,J,J,J,O,J,J,O,O,O,O,O,O,O,O,O,O] rfl rfl (by kernel_rfl) (fun _ _ _ h=>h) (Or.inl ⟨by rfl,?_⟩) ?_ ?_
   rotate_left
   ·intro w'
    go_simp
    with_reducible rfl
   rotate_left
   ·simp only [Act.put,sT,sZ,sS,iW,iV]
    rfl
   refine pure_ (i:=8) (N:=some 129) (v:=?_) (a':=?_) #[J,J,J,J,O,J,J,O,J,O,O,O,O,O,O,O,O] rfl rfl (by kernel_rfl) (fun _ _ _ h=>h) (Or.inl ⟨by rfl,?_⟩) ?_ ?_
   rotate_left
   ·intro w'
    go_simp
    with_reducible rfl
   rotate_left
   ·simp only [Act.put,sT,sZ,sS,iW,iV]
    rfl
   refine pure_ (i:=9) (N:=some 130) (v:=?_) (a':=?_) #[J,J,J,J,O,J,J,O,J,J,O,O,O,O,O,O,O] rfl rfl (by kernel_rfl) (fun _ _ _ h=>h) (Or.inl ⟨by rfl,?_⟩) ?_ ?_
   rotate_left
   ·intro w'
    go_simp
    with_reducible rfl
   rotate_left
   ·simp only [Act.put,sT,sZ,sS,iW,iV]
    rfl
   refine take_ (i:=4) (N:=some 125) (v:=?_) (a':=?_) #[J,J,J,J,J,J,J,O,J,J,O,O,O,O,O,O,O] rfl rfl (by kernel_rfl) (fun _ _ _ h=>h) (Or.inl ⟨by rfl,?_⟩) hHeld ?_ ?_
   rotate_left
   ·rintro w' ⟨s0,s1,s2⟩
    go_simp
    with_reducible rfl
   rotate_left
   ·simp only [Act.put,sT,sZ,sS,iW,iV]
    rfl
   refine take_ (i:=7) (N:=some 128) (v:=?_) (a':=?_) #[J,J,J,J,J,J,J,J,J,J,O,O,O,O,O,O,O] rfl rfl (by kernel_rfl) (fun _ _ _ h=>h) (Or.inl ⟨by rfl,?_⟩) hHeld ?_ ?_
   rotate_left
   ·rintro w' ⟨s0,s1,s2⟩
    go_simp
    with_reducible rfl
   rotate_left
   ·simp only [Act.put,sT,sZ,sS,iW,iV]
    rfl
   refine take_ (i:=10) (N:=some 131) (v:=?_) (a':=?_) #[J,J,J,J,J,J,J,J,J,J,J,O,O,O,O,O,O] rfl rfl (by kernel_rfl) (fun _ _ _ h=>h) (Or.inl ⟨by rfl,?_⟩) hHeld ?_ ?_
   rotate_left
   ·rintro w' ⟨s0,s1,s2⟩
    go_simp
    with_reducible rfl
   rotate_left
   ·simp only [Act.put,sT,sZ,sS,iW,iV]
    rfl
   refine pure_ (i:=11) (N:=some 132) (v:=?_) (a':=?_) #[J,J,J,J,J,J,J,J,J,J,J,J,O,O,O,O,O] rfl rfl (by kernel_rfl) (fun _ _ _ h=>h) (Or.inl ⟨by rfl,?_⟩) ?_ ?_
   rotate_left
   ·intro w'
    go_simp
    with_reducible rfl
   rotate_left
   ·simp only [Act.put,sT,sZ,sS,iW,iV]
    rfl
   refine one_ (i:=12) (N:=some 133) #[J,J,J,J,J,J,J,J,J,J,J,J,J,O,O,O,O] rfl rfl (by kernel_rfl) (by decide) (fun K hK=>?_)
   refine value_ (w1:=?_) (v:=?_) (by rfl) rfl ?_ ?_
   rotate_left 2
   ·go_simp
    constructor
    ·rfl
    ·rfl
   refine hK.out _ _ ⟨(World.cell?_alloc_lt _ _ _ (wB _ _ (hHeld.1))).trans (hHeld.1),(World.cell?_alloc_lt _ _ _ (wB _ _ (hHeld.2.1))).trans (hHeld.2.1),(World.cell?_alloc_lt _ _ _ (wB _ _ (hHeld.2.2))).trans (hHeld.2.2)⟩ (fun hHeld=>?_)
   clear hK K
   refine norm_ (a':=?_) ?_ ?_
   rotate_left
   ·show Act.put _ (some 133) _ = _
    simp only [Act.put,sT,sZ,sS,iW,iV]
    rfl
   refine one_ (i:=13) (N:=some 134) #[J,J,J,J,J,J,J,J,J,J,J,J,J,J,O,O,O] rfl rfl (by kernel_rfl) (by decide) (fun K hK=>?_)
   refine Kd.R_append_step k48 (w0:=w0) (W:=w5.drew) w0.heap.size (by rfl) (.tmp 125) (.tmp 133) 26 48 (.agg #[(.string ⟨#[]⟩),(.string ⟨#[]⟩),(.int .i64 0)]) 40 (by rfl) Tryd.underlying26 info48 rfl (by decide) (by omega) (.slice Av ([] : List S48).length cv) ([] : List S48) (⟨z0,(⟨#[]⟩ : ByteArray),z2⟩ : S48) [.string z0,.string (⟨#[]⟩ : ByteArray),.int .i64 z2] (fun _=>True) (fun _=>False) (by rfl) (by rfl) (k48_mkM _ _ _ (⟨z0,(⟨#[]⟩ : ByteArray),z2⟩ : S48)) (fun _ hk=>hk.elim) (fun _ _=>trivial) (Kd.R_drew U4.out) (below_drew B4.out) lt1 (by omega) ?_
   intro v1 w9 ho hbb hgrow hat
   obtain ⟨A5,c5,rfl⟩:=Kd.R_slice ho
   simp only [List.length_append,List.length_cons,List.length_nil,Nat.zero_add] at ho
   have k3:=(hgrow.block b (show b < w5.drew.heap.size from blt) agb).trans (bD K4.out)
   have p3:=(bC k3 11).trans rfl
   have f3:=bF k3 11
   refine hK.out _ _ ⟨(hgrow.cell_far ⟨b,11,none⟩ (by exact wB _ _ (show w5.drew.cell? ⟨b,11,none⟩ = _ from pc)) agb).trans pc,(hgrow.cell_far ⟨gl,0,none⟩ (by exact wB _ _ (show w5.drew.cell? ⟨gl,0,none⟩ = _ from x0)) agl).trans x0,(hgrow.cell_far ⟨gn,0,none⟩ (by exact wB _ _ (show w5.drew.cell? ⟨gn,0,none⟩ = _ from x2)) agn).trans x2⟩ (fun hHeld=>?_)
   clear hK K
   refine norm_ (a':=?_) ?_ ?_
   rotate_left
   ·show Act.put _ (some 134) _ = _
    simp only [Act.put,sT,sZ,sS,iW,iV]
    rfl
   refine pure_ (i:=14) (N:=some 135) (v:=?_) (a':=?_) #[J,J,J,J,J,J,J,J,J,J,J,J,J,J,J,O,O] rfl rfl (by kernel_rfl) (fun _ _ _ h=>h) (Or.inl ⟨by rfl,?_⟩) ?_ ?_
   rotate_left
   ·intro w'
    go_simp
    with_reducible rfl
   rotate_left
   ·simp only [Act.put,sT,sZ,sS,iW,iV]
    rfl
   refine pure_ (i:=15) (N:=some 136) (v:=?_) (a':=?_) #[J,J,J,J,J,J,J,J,J,J,J,J,J,J,J,J,O] rfl rfl (by kernel_rfl) (fun _ _ _ h=>h) (Or.inl ⟨by rfl,?_⟩) ?_ ?_
   rotate_left
   ·intro w'
    go_simp
    with_reducible rfl
   rotate_left
   ·simp only [Act.put,sT,sZ,sS,iW,iV]
    rfl
   refine last_ (i:=16) (N:=none) #[J,J,J,J,J,J,J,J,J,J,J,J,J,J,J,J,J] rfl rfl (by kernel_rfl) (by decide) (fun K hK=>?_)
   refine skip_ (w1:=?_) (by rfl) rfl ?_ ?_
   rotate_left
   ·go_simp
    rfl
   refine hK.out _ _ ?_
   clear hK K
   refine done_ (by kernel_rfl) ?_
   all_goals go_wp2
   all_goals go_ret
   all_goals exact ⟨rfl,_,_,_,blk_put k3 11 _ rfl,(Kd.R_set (Kd.R_over' (Kd.R_drew S4.out) (Kd.R_typed (Kd.R_drew U4.out)) (by decide) hgrow) k3 (by decide) 11 _),(Kd.R_set (Kd.R_over' (Kd.R_drew T4.out) (Kd.R_typed (Kd.R_drew U4.out)) (by decide) hgrow) k3 (by decide) 11 _),(by rw [E1.out];exact Kd.R_set ho k3 (by decide) 11 _),bS hbb hb0⟩
 rw [if_neg c4] at h
 simp only [Option.some.injEq,Prod.mk.injEq] at h
 obtain ⟨rfl,rfl,rfl,rfl⟩:=h
 have c4' : o4 = false ∨ (o4 = true∧0 < L11.length):=by
  cases o4 with
  | false=>exact Or.inl rfl
  | true=>exact Or.inr ⟨rfl,by
    rcases Nat.eq_zero_or_pos L11.length with q|q
    ·exact absurd ⟨rfl,q⟩ c4
    ·exact q⟩
 clear c4
 rcases c3' with rfl|⟨rfl,hz⟩
 ·rcases c4' with rfl|⟨rfl,hq⟩
  ·skip
   go_enter Tryd.func37,Tryd.ntmps37
   go_wp2_with (first|(go_at_call 48;(with_reducible refine (conf_form.calls k line _ n1 l1 false _ G0.out A1.out).mono ?_);rintro e w2 ⟨u1,t1,rfl,q0,q1,hb⟩;have B1:=Am (below_then B0.out hb B0.out.size);have G1:=Am (Glob.below G0.out hb);have K1:=Am ((hb.block b (blk_lt K0.out)).trans K0.out);have S1:=Am (Kd.R_below S0.out hb);have T1:=Am (Kd.R_below T0.out hb);have U1:=Am (Kd.R_below U0.out hb);have Q1:=Am q0;have P1:=Am q1;clear hb q0 q1)|(go_at_call 48;(with_reducible refine (conf_form.calls k line _ n2 l2 false _ G1.out A2.out).mono ?_);rintro e w3 ⟨u2,t2,rfl,q0,q1,hb⟩;have B2:=Am (below_then B1.out hb B1.out.size);have G2:=Am (Glob.below G1.out hb);have K2:=Am ((hb.block b (blk_lt K1.out)).trans K1.out);have S2:=Am (Kd.R_below S1.out hb);have T2:=Am (Kd.R_below T1.out hb);have U2:=Am (Kd.R_below U1.out hb);have Q2:=Am q0;have P2:=Am q1;clear hb q0 q1)|(go_at_call 48;(with_reducible refine (conf_form.calls k line _ n3 l3 false _ G2.out A3.out).mono ?_);rintro e w4 ⟨u3,t3,rfl,q0,q1,hb⟩;have B3:=Am (below_then B2.out hb B2.out.size);have G3:=Am (Glob.below G2.out hb);have K3:=Am ((hb.block b (blk_lt K2.out)).trans K2.out);have S3:=Am (Kd.R_below S2.out hb);have T3:=Am (Kd.R_below T2.out hb);have U3:=Am (Kd.R_below U2.out hb);have Q3:=Am q0;have P3:=Am q1;clear hb q0 q1;have e3 : w4.cell? ⟨b,11,none⟩ = some (.slice Av L11.length cv):=(bC K3.out 11).trans rfl)|(go_at_call 48;(with_reducible refine (conf_form.calls k line _ n4 l4 false _ G3.out A4.out).mono ?_);rintro e w5 ⟨u4,t4,rfl,q0,q1,hb⟩;have B4:=Am (below_then B3.out hb B3.out.size);have G4:=Am (Glob.below G3.out hb);have K4:=Am ((hb.block b (blk_lt K3.out)).trans K3.out);have S4:=Am (Kd.R_below S3.out hb);have T4:=Am (Kd.R_below T3.out hb);have U4:=Am (Kd.R_below U3.out hb);have Q4:=Am q0;have P4:=Am q1;clear hb q0 q1;have e4 : w5.cell? ⟨b,11,none⟩ = some (.slice Av L11.length cv):=(bC K4.out 11).trans rfl))
   go_ret
   exact ⟨rfl,_,_,_,K4.out,S4.out,T4.out,U4.out,B4.out⟩
  ·skip
   have d4 : ((L11.length : Int) == 0) = false:=beq_eq_false_iff_ne.2 (by omega)
   go_enter Tryd.func37,Tryd.ntmps37
   go_wp2_with (first|(go_at_call 48;(with_reducible refine (conf_form.calls k line _ n1 l1 false _ G0.out A1.out).mono ?_);rintro e w2 ⟨u1,t1,rfl,q0,q1,hb⟩;have B1:=Am (below_then B0.out hb B0.out.size);have G1:=Am (Glob.below G0.out hb);have K1:=Am ((hb.block b (blk_lt K0.out)).trans K0.out);have S1:=Am (Kd.R_below S0.out hb);have T1:=Am (Kd.R_below T0.out hb);have U1:=Am (Kd.R_below U0.out hb);have Q1:=Am q0;have P1:=Am q1;clear hb q0 q1)|(go_at_call 48;(with_reducible refine (conf_form.calls k line _ n2 l2 false _ G1.out A2.out).mono ?_);rintro e w3 ⟨u2,t2,rfl,q0,q1,hb⟩;have B2:=Am (below_then B1.out hb B1.out.size);have G2:=Am (Glob.below G1.out hb);have K2:=Am ((hb.block b (blk_lt K1.out)).trans K1.out);have S2:=Am (Kd.R_below S1.out hb);have T2:=Am (Kd.R_below T1.out hb);have U2:=Am (Kd.R_below U1.out hb);have Q2:=Am q0;have P2:=Am q1;clear hb q0 q1)|(go_at_call 48;(with_reducible refine (conf_form.calls k line _ n3 l3 false _ G2.out A3.out).mono ?_);rintro e w4 ⟨u3,t3,rfl,q0,q1,hb⟩;have B3:=Am (below_then B2.out hb B2.out.size);have G3:=Am (Glob.below G2.out hb);have K3:=Am ((hb.block b (blk_lt K2.out)).trans K2.out);have S3:=Am (Kd.R_below S2.out hb);have T3:=Am (Kd.R_below T2.out hb);have U3:=Am (Kd.R_below U2.out hb);have Q3:=Am q0;have P3:=Am q1;clear hb q0 q1;have e3 : w4.cell? ⟨b,11,none⟩ = some (.slice Av L11.length cv):=(bC K3.out 11).trans rfl)|(go_at_call 48;(with_reducible refine (conf_form.calls k line _ n4 l4 true _ G3.out A4.out).mono ?_);rintro e w5 ⟨u4,t4,rfl,q0,q1,hb⟩;have B4:=Am (below_then B3.out hb B3.out.size);have G4:=Am (Glob.below G3.out hb);have K4:=Am ((hb.block b (blk_lt K3.out)).trans K3.out);have S4:=Am (Kd.R_below S3.out hb);have T4:=Am (Kd.R_below T3.out hb);have U4:=Am (Kd.R_below U3.out hb);have Q4:=Am q0;have P4:=Am q1;clear hb q0 q1;have e4 : w5.cell? ⟨b,11,none⟩ = some (.slice Av L11.length cv):=(bC K4.out 11).trans rfl))
   go_ret
   exact ⟨rfl,_,_,_,K4.out,S4.out,T4.out,U4.out,B4.out⟩
 ·rcases c4' with rfl|⟨rfl,hq⟩
  ·skip
   have d3 : decide ((0 : Int) < (L11.length : Int)) = false:=decide_eq_false (by omega)
   go_enter Tryd.func37,Tryd.ntmps37
   go_wp2_with (first|(go_at_call 48;(with_reducible refine (conf_form.calls k line _ n1 l1 false _ G0.out A1.out).mono ?_);rintro e w2 ⟨u1,t1,rfl,q0,q1,hb⟩;have B1:=Am (below_then B0.out hb B0.out.size);have G1:=Am (Glob.below G0.out hb);have K1:=Am ((hb.block b (blk_lt K0.out)).trans K0.out);have S1:=Am (Kd.R_below S0.out hb);have T1:=Am (Kd.R_below T0.out hb);have U1:=Am (Kd.R_below U0.out hb);have Q1:=Am q0;have P1:=Am q1;clear hb q0 q1)|(go_at_call 48;(with_reducible refine (conf_form.calls k line _ n2 l2 false _ G1.out A2.out).mono ?_);rintro e w3 ⟨u2,t2,rfl,q0,q1,hb⟩;have B2:=Am (below_then B1.out hb B1.out.size);have G2:=Am (Glob.below G1.out hb);have K2:=Am ((hb.block b (blk_lt K1.out)).trans K1.out);have S2:=Am (Kd.R_below S1.out hb);have T2:=Am (Kd.R_below T1.out hb);have U2:=Am (Kd.R_below U1.out hb);have Q2:=Am q0;have P2:=Am q1;clear hb q0 q1)|(go_at_call 48;(with_reducible refine (conf_form.calls k line _ n3 l3 true _ G2.out A3.out).mono ?_);rintro e w4 ⟨u3,t3,rfl,q0,q1,hb⟩;have B3:=Am (below_then B2.out hb B2.out.size);have G3:=Am (Glob.below G2.out hb);have K3:=Am ((hb.block b (blk_lt K2.out)).trans K2.out);have S3:=Am (Kd.R_below S2.out hb);have T3:=Am (Kd.R_below T2.out hb);have U3:=Am (Kd.R_below U2.out hb);have Q3:=Am q0;have P3:=Am q1;clear hb q0 q1;have e3 : w4.cell? ⟨b,11,none⟩ = some (.slice Av L11.length cv):=(bC K3.out 11).trans rfl)|(go_at_call 48;(with_reducible refine (conf_form.calls k line _ n4 l4 false _ G3.out A4.out).mono ?_);rintro e w5 ⟨u4,t4,rfl,q0,q1,hb⟩;have B4:=Am (below_then B3.out hb B3.out.size);have G4:=Am (Glob.below G3.out hb);have K4:=Am ((hb.block b (blk_lt K3.out)).trans K3.out);have S4:=Am (Kd.R_below S3.out hb);have T4:=Am (Kd.R_below T3.out hb);have U4:=Am (Kd.R_below U3.out hb);have Q4:=Am q0;have P4:=Am q1;clear hb q0 q1;have e4 : w5.cell? ⟨b,11,none⟩ = some (.slice Av L11.length cv):=(bC K4.out 11).trans rfl))
   go_ret
   exact ⟨rfl,_,_,_,K4.out,S4.out,T4.out,U4.out,B4.out⟩
  ·omega
end Go.Proofs.YtgidipomfbikiaaDoor.P
