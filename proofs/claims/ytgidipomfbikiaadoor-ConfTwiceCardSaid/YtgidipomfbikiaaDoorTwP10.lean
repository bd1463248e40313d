/- cut to what one law reaches -/
import Derived.Test.YtgidipomfbikiaaDoorTwShort
import Derived.Test.YtgidipomfbikiaaDoorTwP0
import Derived.Test.YtgidipomfbikiaaDoorTwP6
import Derived.Test.YtgidipomfbikiaaDoorTwP7
import Derived.Test.YtgidipomfbikiaaDoorTwP9
namespace Go.Proofs.YtgidipomfbikiaaDoor.P
open Go.RowKit Go.Proofs.YtgidipomfbikiaaDoorW.PrintWords Go.Proofs.YtgidipomfbikiaaDoorW.PrintLast Go.Proofs.YtgidipomfbikiaaDoorW.PrintMore
attribute [local go_sem] max2_int min2_int max_two min_two max_three min_three max_four min_four   -- for this text's walks alone
set_option linter.unusedVariables false
set_option linter.unusedSimpArgs false
attribute [local go_sem] isSome_setCell
def lays (A B C D : Value) : Array MapEntry:=#[⟨.int .i64 1,A,0⟩,⟨.int .i64 2,B,1⟩,⟨.int .i64 3,C,2⟩,⟨.int .i64 4,D,3⟩]
theorem mk_step (w : World) (r : Nat) (es : Array MapEntry) (clock : Nat) (z : Int) (val : Value) (hb : w.heap[r]? = some (.map es clock)) (hf : Instr.findNow (.int .i64) (.int .i64 z) es.toList 0 = some none) :
  (Instr.mapUpdate 82 (.map (some r)) (.int .i64 z) val).run Tryd.prog w = .ok () { w with heap:=w.heap.setIfInBounds r (.map (es.push { key:=.int .i64 z,val:=val,born:=clock }) (clock + 1)) }:=by
 have hc : (Instr.checkKey false 10000 3 (.int .i64 z)).run Tryd.prog w = .ok () w:=MapKept.run_checkKey (k:=.int .i64 z) Tryd.underlying3 (by simp [MapKept.IsKey]) false 9999
 simp [Instr.mapUpdate,run_underlying Tryd.underlying82,MapKept.run_getObj_map hb,hc,MapKept.run_findKey Tryd.underlying3 hf,MapKept.run_setObj_map _ hb,Result.andThen]
theorem look_step (w : World) (r : Nat) (es : Array MapEntry) (clock : Nat) (z : Int) (j : Nat) (val : Value) (hb : w.heap[r]? = some (.map es clock)) (hf : Instr.findNow (.int .i64) (.int .i64 z) es.toList 0 = some (some (j,val))) :
  (Instr.lookup 82 (.map (some r)) (.int .i64 z) false).run Tryd.prog w = .ok val w:=by
 have hc : ∀ e,(Instr.checkKey e 10000 3 (.int .i64 z)).run Tryd.prog w = .ok () w:=fun e=>MapKept.run_checkKey (k:=.int .i64 z) Tryd.underlying3 (by simp [MapKept.IsKey]) e 9999
 simp [Instr.lookup,run_underlying Tryd.underlying82,MapKept.run_getObj_map hb,hc,MapKept.run_findKey Tryd.underlying3 hf,Result.andThen]
theorem below_mset {B : Nat} {w w' : World} (h : Below B w w') {r : Nat} (hr : B≤r) (o : Obj) : Below B w { w' with heap:=w'.heap.setIfInBounds r o } :=
 ⟨h.os,h.tape,h.output,by simpa using h.size,fun k hk=>by
  show (w'.heap.setIfInBounds r o)[k]? = _
  rw [Array.getElem?_setIfInBounds_ne (by omega)]
  exact h.block k hk⟩
theorem mset_get {w : World} {r : Nat} {o o' : Obj} (h : w.heap[r]? = some o) : ({ w with heap:=w.heap.setIfInBounds r o' } : World).heap[r]? = some o':=by
 have hlt : r < w.heap.size:=(Array.getElem?_eq_some_iff.1 h).1
 show (w.heap.setIfInBounds r o')[r]? = _
 simp [hlt]
theorem blk_new0 (w : World) (o : Obj) : (w.alloc o).heap[w.heap.size]? = some o:=by
 show (w.heap.push o)[w.heap.size]? = _
 simp
theorem mk4 (w : World) (A B C D : Value) : ∃ w1 w2 w3 w4,(Instr.mapUpdate 82 (.map (some w.heap.size)) (.int .i64 1) A).run Tryd.prog (w.alloc (.map #[] 0)) = .ok () w1∧(Instr.mapUpdate 82 (.map (some w.heap.size)) (.int .i64 2) B).run Tryd.prog w1 = .ok () w2∧(Instr.mapUpdate 82 (.map (some w.heap.size)) (.int .i64 3) C).run Tryd.prog w2 = .ok () w3∧(Instr.mapUpdate 82 (.map (some w.heap.size)) (.int .i64 4) D).run Tryd.prog w3 = .ok () w4∧w4.heap[w.heap.size]? = some (.map (lays A B C D) 4)∧Below w.heap.size w w4:=by
 have h0 : (w.alloc (.map #[] 0)).heap[w.heap.size]? = some (.map #[] 0):=blk_new0 w _
 have b0 : Below w.heap.size w (w.alloc (.map #[] 0)):=bL (Below.refl _ _) _
 have e1:=mk_step _ _ #[] 0 1 A h0 rfl
 have g1:=mset_get (o':=.map ((#[] : Array MapEntry).push { key:=.int .i64 1,val:=A,born:=0 }) (0 + 1)) h0
 have b1:=below_mset b0 (Nat.le_refl _) (.map ((#[] : Array MapEntry).push { key:=.int .i64 1,val:=A,born:=0 }) (0 + 1))
 generalize ({ (w.alloc (.map #[] 0)) with heap:=_ } : World) = w1 at e1 g1 b1
 have e2:=mk_step _ _ _ _ 2 B g1 rfl
 have g2:=mset_get (o':=.map (((#[] : Array MapEntry).push { key:=.int .i64 1,val:=A,born:=0 }).push { key:=.int .i64 2,val:=B,born:=1 }) (1 + 1)) g1
 have b2:=below_mset b1 (Nat.le_refl _) (.map (((#[] : Array MapEntry).push { key:=.int .i64 1,val:=A,born:=0 }).push { key:=.int .i64 2,val:=B,born:=1 }) (1 + 1))
 have e3:=mk_step _ _ _ _ 3 C g2 rfl
 have g3:=mset_get (o':=.map ((((#[] : Array MapEntry).push { key:=.int .i64 1,val:=A,born:=0 }).push { key:=.int .i64 2,val:=B,born:=1 }).push { key:=.int .i64 3,val:=C,born:=2 }) (2 + 1)) g2
 have b3:=below_mset b2 (Nat.le_refl _) (.map ((((#[] : Array MapEntry).push { key:=.int .i64 1,val:=A,born:=0 }).push { key:=.int .i64 2,val:=B,born:=1 }).push { key:=.int .i64 3,val:=C,born:=2 }) (2 + 1))
 have e4:=mk_step _ _ _ _ 4 D g3 rfl
 have g4:=mset_get (o':=.map (lays A B C D) 4) g3
 have b4:=below_mset b3 (Nat.le_refl _) (.map (lays A B C D) 4)
 exact ⟨_,_,_,_,e1,e2,e3,e4,g4,b4⟩
theorem clo1 (b bx g len cap : Nat) (v z : Int) (w : World) (hx : w.cell? ⟨bx,0,none⟩ = some (.pointer (some ⟨b,0,none⟩))) (hg : w.cell? ⟨g,0,none⟩ = some (.int .i64 z)) (hv : w.cell? ⟨b,1,none⟩ = some (.int .i64 v)) (hf : w.frozen? ⟨b,1,none⟩ = false) (hn : (0 : Int) < (len : Int)) (hn2 : 0 < len) :
  Calls Tryd.prog 44 #[.slice (some ⟨g,0,none⟩) len cap,.pointer (some ⟨bx,0,none⟩)] w fun e w'=>e = .returned (.tuple #[])∧w' = (w.setCell ⟨b,1,none⟩ (.int .i64 z)).drew:=by
 have hu28:=Tryd.underlying28
 go_enter Tryd.func44,Tryd.ntmps44
 go_region
 all_goals (go_end0;exact ⟨rfl,rfl⟩)
theorem clo2 (b bx g len cap : Nat) (v z : Int) (w : World) (hx : w.cell? ⟨bx,0,none⟩ = some (.pointer (some ⟨b,0,none⟩))) (hg : w.cell? ⟨g,0,none⟩ = some (.int .i64 z)) (hv : w.cell? ⟨b,2,none⟩ = some (.int .i64 v)) (hf : w.frozen? ⟨b,2,none⟩ = false) (hn : (0 : Int) < (len : Int)) (hn2 : 0 < len) :
  Calls Tryd.prog 45 #[.slice (some ⟨g,0,none⟩) len cap,.pointer (some ⟨bx,0,none⟩)] w fun e w'=>e = .returned (.tuple #[])∧w' = (w.setCell ⟨b,2,none⟩ (.int .i64 z)).drew:=by
 have hu28:=Tryd.underlying28
 go_enter Tryd.func45,Tryd.ntmps45
 go_region
 all_goals (go_end0;exact ⟨rfl,rfl⟩)
theorem clo3 (b bx g len cap : Nat) (v z : Int) (w : World) (hx : w.cell? ⟨bx,0,none⟩ = some (.pointer (some ⟨b,0,none⟩))) (hg : w.cell? ⟨g,0,none⟩ = some (.int .i64 z)) (hv : w.cell? ⟨b,3,none⟩ = some (.int .i64 v)) (hf : w.frozen? ⟨b,3,none⟩ = false) (hn : (0 : Int) < (len : Int)) (hn2 : 0 < len) :
  Calls Tryd.prog 46 #[.slice (some ⟨g,0,none⟩) len cap,.pointer (some ⟨bx,0,none⟩)] w fun e w'=>e = .returned (.tuple #[])∧w' = (w.setCell ⟨b,3,none⟩ (.int .i64 z)).drew:=by
 have hu28:=Tryd.underlying28
 go_enter Tryd.func46,Tryd.ntmps46
 go_region
 all_goals (go_end0;exact ⟨rfl,rfl⟩)
set_option maxHeartbeats 4000000 in
theorem clo4 (b bx g len cap : Nat) (v0 v1 v2 v3 v4 z0 z1 z2 z3 z4 : Int) (w : World) (hx : w.cell? ⟨bx,0,none⟩ = some (.pointer (some ⟨b,0,none⟩))) (hv0 : w.cell? ⟨b,4,none⟩ = some (.int .i64 v0)) (hf0 : w.frozen? ⟨b,4,none⟩ = false) (hg0 : w.cell? ⟨g,0,none⟩ = some (.int .i64 z0)) (hv1 : w.cell? ⟨b,5,none⟩ = some (.int .i64 v1)) (hf1 : w.frozen? ⟨b,5,none⟩ = false) (hg1 : w.cell? ⟨g,1,none⟩ = some (.int .i64 z1)) (hv2 : w.cell? ⟨b,6,none⟩ = some (.int .i64 v2)) (hf2 : w.frozen? ⟨b,6,none⟩ = false) (hg2 : w.cell? ⟨g,2,none⟩ = some (.int .i64 z2)) (hv3 : w.cell? ⟨b,7,none⟩ = some (.int .i64 v3)) (hf3 : w.frozen? ⟨b,7,none⟩ = false) (hg3 : w.cell? ⟨g,3,none⟩ = some (.int .i64 z3)) (hv4 : w.cell? ⟨b,8,none⟩ = some (.int .i64 v4)) (hf4 : w.frozen? ⟨b,8,none⟩ = false) (hg4 : w.cell? ⟨g,4,none⟩ = some (.int .i64 z4)) (hn0 : 0 < len) (hn1 : 1 < len) (hn2 : 2 < len) (hn3 : 3 < len) (hn4 : 4 < len) (hm0 : (0 : Int) < (len : Int)) (hm1 : (1 : Int) < (len : Int)) (hm2 : (2 : Int) < (len : Int)) (hm3 : (3 : Int) < (len : Int)) (hm4 : (4 : Int) < (len : Int)) :
  Calls Tryd.prog 47 #[.slice (some ⟨g,0,none⟩) len cap,.pointer (some ⟨bx,0,none⟩)] w fun e w'=>e = .returned (.tuple #[])∧w' = (((((w.setCell ⟨b,4,none⟩ (.int .i64 z0)).setCell ⟨b,5,none⟩ (.int .i64 z1)).setCell ⟨b,6,none⟩ (.int .i64 z2)).setCell ⟨b,7,none⟩ (.int .i64 z3)).setCell ⟨b,8,none⟩ (.int .i64 z4)).drew:=by
 have hu28:=Tryd.underlying28
 have hu23:=Tryd.underlying23
 go_enter Tryd.func47,Tryd.ntmps47
 go_region
 all_goals (go_end0;exact ⟨rfl,rfl⟩)
structure Hd where
 f0 : Int
 f1 : Int
 f2 : Int
 f3 : Int
 f4 : Int
 f5 : Int
 f6 : Int
 f7 : Int
 f8 : Int
def halfL : ByteArray:=⟨#[104,97,108,102,32,35]⟩
def quantL : ByteArray:=⟨#[113,117,97,110,116,117,109,32,35]⟩
def requL : ByteArray:=⟨#[114,101,113,117,101,117,101,115,32,35]⟩
def weigL : ByteArray:=⟨#[119,101,105,103,104,116,115,32,35,32,35,32,35,32,35,32,35]⟩
def polW : List ByteArray:=[(⟨#[]⟩ : ByteArray),(⟨#[102,105,102,111]⟩ : ByteArray),(⟨#[101,97,115,121]⟩ : ByteArray),(⟨#[99,111,110,115,101,114,118,97,116,105,118,101]⟩ : ByteArray),(⟨#[103,97,110,103]⟩ : ByteArray)]
def polP : ByteArray:=⟨#[112,111,108,105,99,121,32]⟩
def polF (line : ByteArray) : List ByteArray→Nat→Int→Int
 | [],_,p=>p
 | x :: r,i,p=>polF line r (i + 1) (if 0 < i∧line.toList = (polP ++ x).toList then (i : Int) else p)
def conf_first.f (k : Nat) (ki : Int) (line : ByteArray) (c : Hd) : Option (Bool × Hd) :=
 if ki = 0 then some (decide (0 < polF line polW 0 c.f0),{ c with f0:=polF line polW 0 c.f0 })
 else if ki = 1 then (conf_form.f k line halfL).bind fun x=>if x.2.2 = true then (if 0 < x.1.length then some (true,{ c with f1:=rd x.1 0 }) else none) else some (false,c)
 else if ki = 2 then (conf_form.f k line quantL).bind fun x=>if x.2.2 = true then (if 0 < x.1.length then some (true,{ c with f2:=rd x.1 0 }) else none) else some (false,c)
 else if ki = 3 then (conf_form.f k line requL).bind fun x=>if x.2.2 = true then (if 0 < x.1.length then some (true,{ c with f3:=rd x.1 0 }) else none) else some (false,c)
 else if ki = 4 then (conf_form.f k line weigL).bind fun x=>if x.2.2 = true then (if 4 < x.1.length then some (true,{ c with f4:=rd x.1 0,f5:=rd x.1 1,f6:=rd x.1 2,f7:=rd x.1 3,f8:=rd x.1 4 }) else none) else some (false,c)
 else none
theorem conf_first.mono : ∀ a0 a1 a2 k,LeO (conf_first.f k a0 a1 a2) (conf_first.f (k + 1) a0 a1 a2):=by
 intro a0 a1 a2 k
 unfold conf_first.f
 repeat' first
   | (with_reducible exact conf_form.mono _ _ _)
   | (with_reducible exact LeO.refl _)
   | (with_reducible refine LeO.ite ?_ ?_)
   | (with_reducible refine LeO.bind ?_ (fun _=>?_))
theorem polF_step (line : ByteArray) (i : Nat) (p : Int) (x : ByteArray) (hx : polW.drop i = x :: polW.drop (i + 1)) (q : Bool) (h0 : 0 < i) (hq : (line.toList == (polP ++ x).toList) = q) : polF line (polW.drop i) i p = polF line (polW.drop (i + 1)) (i + 1) (if q = true then (i : Int) else p):=by
 rw [hx,polF]
 subst hq
 congr 1
 by_cases h : line.toList = (polP ++ x).toList
 ·rw [if_pos ⟨h0,h⟩,if_pos (by simpa using h)]
 rw [if_neg (fun z=>h z.2),if_neg (by simpa using h)]
theorem below_up1 {w w' : World} {o : Obj} (h : Below (w.heap.size + 1) (w.alloc o) w') : Below w.heap.size w w' :=
 ⟨h.os,h.tape,h.output,Nat.le_trans (by show w.heap.size≤(w.heap.push o).size;simp) h.size,fun k hk=>(h.block k (by omega)).trans (Below.heap_alloc w o k hk)⟩
set_option maxHeartbeats 8000000 in
set_option maxRecDepth 1000000 in
theorem conf_first.calls (k : Nat) (b : Nat) (c : Hd) (v9 v10 v11 : Value) (L9 : List S50) (L10 : List S52) (L11 : List S48) (ki : Int) (line : ByteArray) (r : Bool) (d : Hd) (w0 w : World) (hG : Glob w) (hB : Below w0.heap.size w0 w) (hb0 : w0.heap.size≤b)
  (hb : w.heap[b]? = some (.cells #[.int .i64 c.f0,.int .i64 c.f1,.int .i64 c.f2,.int .i64 c.f3,.int .i64 c.f4,.int .i64 c.f5,.int .i64 c.f6,.int .i64 c.f7,.int .i64 c.f8,v9,v10,v11] 28 (0,0)))
  (h9 : Kd.R k50 50 w w0.heap.size (fun _=>True) v9 L9) (h10 : Kd.R k52 52 w w0.heap.size (fun _=>True) v10 L10) (h11 : Kd.R k48 48 w w0.heap.size (fun _=>True) v11 L11)
  (h : conf_first.f k ki line c = some (r,d)) :
  Calls Tryd.prog 36 #[.pointer (some ⟨b,0,none⟩),.int .i64 ki,.string line] w fun e w'=>e = .returned (.bool r)∧w'.heap[b]? = some (.cells #[.int .i64 d.f0,.int .i64 d.f1,.int .i64 d.f2,.int .i64 d.f3,.int .i64 d.f4,.int .i64 d.f5,.int .i64 d.f6,.int .i64 d.f7,.int .i64 d.f8,v9,v10,v11] 28 (0,0))∧Kd.R k50 50 w' w0.heap.size (fun _=>True) v9 L9∧Kd.R k52 52 w' w0.heap.size (fun _=>True) v10 L10∧Kd.R k48 48 w' w0.heap.size (fun _=>True) v11 L11∧Below w0.heap.size w0 w':=by
 have hu28:=Tryd.underlying28
 have hmf : ∀ (fn : Fn) (first cap : Array Value) (w : World),(Instr.makeFunc fn first cap).run Tryd.prog w = .ok (.func fn first cap) w:=fun _ _ _ _=>rfl
 have hmm:=@run_makeMap Tryd.prog
 obtain ⟨w1,w2,w3,w4,e1,e2,e3,e4,gM,bM⟩:=mk4 (w.alloc (.cells #[.pointer (some ⟨b,0,none⟩)] 73)) (.func (.func 44) #[] #[.pointer (some ⟨w.heap.size,0,none⟩)]) (.func (.func 45) #[] #[.pointer (some ⟨w.heap.size,0,none⟩)]) (.func (.func 46) #[] #[.pointer (some ⟨w.heap.size,0,none⟩)]) (.func (.func 47) #[] #[.pointer (some ⟨w.heap.size,0,none⟩)])
 have hsz : (w.alloc (.cells #[.pointer (some ⟨b,0,none⟩)] 73)).heap.size = w.heap.size + 1:=by
  show (w.heap.push _).size = w.heap.size + 1
  rw [Array.size_push]
 rw [hsz] at e1 e2 e3 e4 gM bM
 have lb:=blk_lt hb
 have KX:=Am ((bM.block w.heap.size (by omega)).trans (blk_new0 w (.cells #[.pointer (some ⟨b,0,none⟩)] 73)))
 have GM:=Am gM
 have b1 : Below w.heap.size w w4:=below_up1 bM
 have B1:=Am (below_then hB b1 (bZ hB))
 have G1:=Am (Glob.below hG b1)
 have K1:=Am ((b1.block b lb).trans hb)
 have S1:=Am (Kd.R_below h9 b1)
 have T1:=Am (Kd.R_below h10 b1)
 have U1:=Am (Kd.R_below h11 b1)
 have HH:=Am h
 clear hG hB hb h9 h10 h11 gM bM b1 h
 by_cases k0 : ki = 0
 ·subst k0
  have hf : (some (decide (0 < polF line polW 0 c.f0),{ c with f0:=polF line polW 0 c.f0 }) : Option (Bool × Hd)) = some (r,d):=by
   have h:=HH.out
   unfold conf_first.f at h
   rw [if_pos rfl] at h
   exact h
  simp only [Option.some.injEq,Prod.mk.injEq] at hf
  obtain ⟨rfl,rfl⟩:=hf
  clear HH
  go_enter Tryd.func36,Tryd.ntmps36
  go_wp2_with (first|(go_at_call 29;(with_reducible refine (conf_policies.calls polW _ rfl).mono ?_);rintro e w5 ⟨v,rfl,q0,hb⟩;have B2:=Am (below_then B1.out hb B1.out.size);have K2:=Am ((hb.block b (blk_lt K1.out)).trans K1.out);have KX2:=Am ((hb.block w.heap.size (blk_lt KX.out)).trans KX.out);have S2:=Am (Kd.R_below S1.out hb);have T2:=Am (Kd.R_below T1.out hb);have U2:=Am (Kd.R_below U1.out hb);have NE:=Am (blk_lt K1.out);have NX:=Am (blk_lt KX.out);obtain ⟨gv,cv,rfl,_,_,tv,htv⟩:=Kd.R_form q0 (by decide);have Q2:=Am q0;have TV:=Am htv;clear q0 hb htv))
  clear e1 e2 e3 e4 hmf hmm hsz GM KX K1 S1 T1 U1 B1
  have NV:=Am (Kd.R_ne Q2.out K2.out (by decide))
  have hl5 : polW.length = 5:=rfl
  go_loopg [24] 6 (fun gk s24 wr=>∃ (i : Nat) (p : Int),s24 = .int .i64 i∧6 = i + gk∧i≤5∧Aside0 (polF line (polW.drop i) i p = polF line polW 0 c.f0)∧Aside0 (wr.heap[b]? = some (.cells #[.int .i64 p,.int .i64 c.f1,.int .i64 c.f2,.int .i64 c.f3,.int .i64 c.f4,.int .i64 c.f5,.int .i64 c.f6,.int .i64 c.f7,.int .i64 c.f8,v9,v10,v11] 28 (0,0)))∧Aside0 (wr.heap[w.heap.size]? = some (.cells #[.pointer (some ⟨b,0,none⟩)] 73 (0,0)))∧Aside0 (Kd.R Kd.string 9 wr w4.heap.size (fun _=>True) (.slice (some ⟨gv,0,none⟩) polW.length cv) polW)∧Aside0 (Kd.R k50 50 wr w0.heap.size (fun _=>True) v9 L9)∧Aside0 (Kd.R k52 52 wr w0.heap.size (fun _=>True) v10 L10)∧Aside0 (Kd.R k48 48 wr w0.heap.size (fun _=>True) v11 L11)∧Aside0 (Below w0.heap.size w0 wr))
  case atStart=>exact ⟨0,c.f0,rfl,by omega,by omega,⟨rfl⟩,K2,KX2,Q2,S2,T2,U2,B2⟩
  case round =>
   clear K2 KX2 Q2 S2 T2 U2 B2
   obtain ⟨i,p,rfl,hgk,hi5,HF,KB,KX,Q,S,T,U,B⟩:=hrel
   obtain ⟨gk,rfl⟩ : ∃ m,gk = m + 1:=⟨gk - 1,by omega⟩
   have xb : wr.cell? ⟨w.heap.size,0,none⟩ = some (.pointer (some ⟨b,0,none⟩)):=(bC KX.out 0).trans rfl
   have x0 : wr.cell? ⟨b,0,none⟩ = some (.int .i64 p):=(bC KB.out 0).trans rfl
   have f0:=bF KB.out 0
   rcases i with _|_|_|_|_|i
   ·have z : wr.cell? ⟨gv,0,none⟩ = some (.string (⟨#[]⟩ : ByteArray)):=(Kd.R_cell ByteArray.empty Q.out 0 (by omega) (by decide)).1
    go_wp2
    go_roundg gk
    case measure=>exact Nat.lt_succ_self _
    case rel=>exact ⟨1,p,rfl,by omega,by omega,⟨by rw [← HF.out];rfl⟩,KB,KX,Q,S,T,U,B⟩
   ·have z : wr.cell? ⟨gv,1,none⟩ = some (.string (⟨#[102,105,102,111]⟩ : ByteArray)):=(Kd.R_cell ByteArray.empty Q.out 1 (by omega) (by decide)).1
    obtain ⟨q,hq⟩ : ∃ q : Bool,(line.toList == (polP ++ (⟨#[102,105,102,111]⟩ : ByteArray)).toList) = q:=⟨_,rfl⟩
    have hF:=Am ((polF_step line 1 p (⟨#[102,105,102,111]⟩ : ByteArray) rfl q (by omega) hq).symm.trans HF.out)
    unfold polP at hq
    clear HF
    cases q with
    | true =>
     go_wp2
     go_roundg gk
     case measure=>exact Nat.lt_succ_self _
     case rel=>exact ⟨2,1,rfl,by omega,by omega,⟨hF.out⟩,⟨blk_put KB.out 0 _ rfl⟩,⟨blk_far KX.out (by show w.heap.size ≠ b;omega) _⟩,⟨Kd.R_set Q.out KB.out (by decide) 0 _⟩,⟨Kd.R_set S.out KB.out (by decide) 0 _⟩,⟨Kd.R_set T.out KB.out (by decide) 0 _⟩,⟨Kd.R_set U.out KB.out (by decide) 0 _⟩,⟨bS B.out hb0⟩⟩
    | false =>
     go_wp2
     go_roundg gk
     case measure=>exact Nat.lt_succ_self _
     case rel=>exact ⟨2,p,rfl,by omega,by omega,⟨hF.out⟩,KB,KX,Q,S,T,U,B⟩
   ·have z : wr.cell? ⟨gv,2,none⟩ = some (.string (⟨#[101,97,115,121]⟩ : ByteArray)):=(Kd.R_cell ByteArray.empty Q.out 2 (by omega) (by decide)).1
    obtain ⟨q,hq⟩ : ∃ q : Bool,(line.toList == (polP ++ (⟨#[101,97,115,121]⟩ : ByteArray)).toList) = q:=⟨_,rfl⟩
    have hF:=Am ((polF_step line 2 p (⟨#[101,97,115,121]⟩ : ByteArray) rfl q (by omega) hq).symm.trans HF.out)
    unfold polP at hq
    clear HF
    cases q with
    | true =>
     go_wp2
     go_roundg gk
     case measure=>exact Nat.lt_succ_self _
     case rel=>exact ⟨3,2,rfl,by omega,by omega,⟨hF.out⟩,⟨blk_put KB.out 0 _ rfl⟩,⟨blk_far KX.out (by show w.heap.size ≠ b;omega) _⟩,⟨Kd.R_set Q.out KB.out (by decide) 0 _⟩,⟨Kd.R_set S.out KB.out (by decide) 0 _⟩,⟨Kd.R_set T.out KB.out (by decide) 0 _⟩,⟨Kd.R_set U.out KB.out (by decide) 0 _⟩,⟨bS B.out hb0⟩⟩
    | false =>
     go_wp2
     go_roundg gk
     case measure=>exact Nat.lt_succ_self _
     case rel=>exact ⟨3,p,rfl,by omega,by omega,⟨hF.out⟩,KB,KX,Q,S,T,U,B⟩
   ·have z : wr.cell? ⟨gv,3,none⟩ = some (.string (⟨#[99,111,110,115,101,114,118,97,116,105,118,101]⟩ : ByteArray)):=(Kd.R_cell ByteArray.empty Q.out 3 (by omega) (by decide)).1
    obtain ⟨q,hq⟩ : ∃ q : Bool,(line.toList == (polP ++ (⟨#[99,111,110,115,101,114,118,97,116,105,118,101]⟩ : ByteArray)).toList) = q:=⟨_,rfl⟩
    have hF:=Am ((polF_step line 3 p (⟨#[99,111,110,115,101,114,118,97,116,105,118,101]⟩ : ByteArray) rfl q (by omega) hq).symm.trans HF.out)
    unfold polP at hq
    clear HF
    cases q with
    | true =>
     go_wp2
     go_roundg gk
     case measure=>exact Nat.lt_succ_self _
     case rel=>exact ⟨4,3,rfl,by omega,by omega,⟨hF.out⟩,⟨blk_put KB.out 0 _ rfl⟩,⟨blk_far KX.out (by show w.heap.size ≠ b;omega) _⟩,⟨Kd.R_set Q.out KB.out (by decide) 0 _⟩,⟨Kd.R_set S.out KB.out (by decide) 0 _⟩,⟨Kd.R_set T.out KB.out (by decide) 0 _⟩,⟨Kd.R_set U.out KB.out (by decide) 0 _⟩,⟨bS B.out hb0⟩⟩
    | false =>
     go_wp2
     go_roundg gk
     case measure=>exact Nat.lt_succ_self _
     case rel=>exact ⟨4,p,rfl,by omega,by omega,⟨hF.out⟩,KB,KX,Q,S,T,U,B⟩
   ·have z : wr.cell? ⟨gv,4,none⟩ = some (.string (⟨#[103,97,110,103]⟩ : ByteArray)):=(Kd.R_cell ByteArray.empty Q.out 4 (by omega) (by decide)).1
    obtain ⟨q,hq⟩ : ∃ q : Bool,(line.toList == (polP ++ (⟨#[103,97,110,103]⟩ : ByteArray)).toList) = q:=⟨_,rfl⟩
    have hF:=Am ((polF_step line 4 p (⟨#[103,97,110,103]⟩ : ByteArray) rfl q (by omega) hq).symm.trans HF.out)
    unfold polP at hq
    clear HF
    cases q with
    | true =>
     go_wp2
     go_roundg gk
     case measure=>exact Nat.lt_succ_self _
     case rel=>exact ⟨5,4,rfl,by omega,by omega,⟨hF.out⟩,⟨blk_put KB.out 0 _ rfl⟩,⟨blk_far KX.out (by show w.heap.size ≠ b;omega) _⟩,⟨Kd.R_set Q.out KB.out (by decide) 0 _⟩,⟨Kd.R_set S.out KB.out (by decide) 0 _⟩,⟨Kd.R_set T.out KB.out (by decide) 0 _⟩,⟨Kd.R_set U.out KB.out (by decide) 0 _⟩,⟨bS B.out hb0⟩⟩
    | false =>
     go_wp2
     go_roundg gk
     case measure=>exact Nat.lt_succ_self _
     case rel=>exact ⟨5,p,rfl,by omega,by omega,⟨hF.out⟩,KB,KX,Q,S,T,U,B⟩
   ·obtain rfl : i = 0:=by omega
    by_cases hp : 0 < p
    ·have e1 : decide (0 < p) = true:=decide_eq_true hp
     go_wp2
     go_ret
     have hF : p = polF line polW 0 c.f0:=HF.out
     exact ⟨by rw [← hF];simp [hp],by rw [← hF];exact KB.out,S.out,T.out,U.out,B.out⟩
    have e1 : decide (0 < p) = false:=decide_eq_false hp
    go_wp2
    go_ret
    have hF : p = polF line polW 0 c.f0:=HF.out
    exact ⟨by rw [← hF];simp [hp],by rw [← hF];exact KB.out,S.out,T.out,U.out,B.out⟩
 by_cases k1 : ki = 1
 ·subst k1
  have h:=HH.out
  unfold conf_first.f at h
  rw [if_neg k0,if_pos rfl] at h
  unfold halfL at h
  obtain ⟨⟨n1,l1,o1⟩,A1,h⟩:=oB h
  have A1:=Am A1
  dsimp only at h
  clear HH k0
  have bb1 : b ≠ w.heap.size:=by omega
  cases o1 with
  | false =>
   rw [if_neg (by simp)] at h
   simp only [Option.some.injEq,Prod.mk.injEq] at h
   obtain ⟨rfl,rfl⟩:=h
   go_enter Tryd.func36,Tryd.ntmps36
   go_wp2_with (first|(go_at_call 48;(with_reducible refine (conf_form.calls k line _ n1 l1 false _ ?s1 A1.out).mono ?_);(case s1=>exact Glob.below G1.out (by repeat (first|exact Below.refl _ _|apply bL|apply pN|apply bE)));rintro e w5 ⟨u1,t1,rfl,q0,q1,hb0_⟩;have hb:=below_then (show Below w4.heap.size w4 _ by repeat (first|exact Below.refl _ _|apply bL|apply pN|apply bE)) hb0_ (bZ (show Below w4.heap.size w4 _ by repeat (first|exact Below.refl _ _|apply bL|apply pN|apply bE)));have B2:=Am (below_then B1.out hb (bZ B1.out));have K2:=Am ((hb.block b (blk_lt K1.out)).trans K1.out);have KX2:=Am ((hb.block w.heap.size (blk_lt KX.out)).trans KX.out);have GM2:=Am ((hb.block (w.heap.size + 1) (Array.getElem?_eq_some_iff.1 GM.out).1).trans GM.out);have S2:=Am (Kd.R_below S1.out hb);have T2:=Am (Kd.R_below T1.out hb);have U2:=Am (Kd.R_below U1.out hb);have Q2:=Am q0;clear q0 q1 hb hb0_))
   go_ret
   exact ⟨rfl,K2.out,S2.out,T2.out,U2.out,B2.out⟩
  | true =>
   rw [if_pos rfl] at h
   by_cases g1 : 0 < n1.length
   case neg=>rw [if_neg g1] at h;cases h
   rw [if_pos g1] at h
   simp only [Option.some.injEq,Prod.mk.injEq] at h
   obtain ⟨rfl,rfl⟩:=h
   have g1:=Am g1
   go_enter Tryd.func36,Tryd.ntmps36
   go_wp2_with (first|(go_at_call 48;(with_reducible refine (conf_form.calls k line _ n1 l1 true _ ?s1 A1.out).mono ?_);(case s1=>exact Glob.below G1.out (by repeat (first|exact Below.refl _ _|apply bL|apply pN|apply bE)));rintro e w5 ⟨u1,t1,rfl,q0,q1,hb0_⟩;obtain ⟨gn,cn,rfl,_,_,tn,htn⟩:=Kd.R_form q0 (by have:=g1.out;omega);have hb:=below_then (show Below w4.heap.size w4 _ by repeat (first|exact Below.refl _ _|apply bL|apply pN|apply bE)) hb0_ (bZ (show Below w4.heap.size w4 _ by repeat (first|exact Below.refl _ _|apply bL|apply pN|apply bE)));have B2:=Am (below_then B1.out hb (bZ B1.out));have K2:=Am ((hb.block b (blk_lt K1.out)).trans K1.out);have KX2:=Am ((hb.block w.heap.size (blk_lt KX.out)).trans KX.out);have GM2:=Am ((hb.block (w.heap.size + 1) (Array.getElem?_eq_some_iff.1 GM.out).1).trans GM.out);have S2:=Am (Kd.R_below S1.out hb);have T2:=Am (Kd.R_below T1.out hb);have U2:=Am (Kd.R_below U1.out hb);have Q2:=Am q0;have hlk : (Instr.lookup 82 (.map (some (w.heap.size + 1))) (.int .i64 1) false).run Tryd.prog w5 = .ok (.func (.func 44) #[] #[.pointer (some ⟨w.heap.size,0,none⟩)]) w5:=look_step _ _ _ _ 1 0 _ GM2.out rfl;clear q0 q1 hb hb0_)|(go_at_call 44;(with_reducible refine (clo1 b w.heap.size gn n1.length cn c.f1 (rd n1 0) _ ?c1 ?c2 ?c3 ?c4 ?c5 ?c6).mono ?_);(case c1=>exact (bC KX2.out 0).trans rfl);(case c2=>exact (Kd.R_cell (0 : Int) Q2.out 0 (by omega) (by have:=g1.out;omega)).1);(case c3=>exact (bC K2.out 1).trans rfl);(case c4=>exact bF K2.out 1);(case c5=>(have:=g1.out;omega));(case c6=>exact g1.out);rintro e w6 ⟨rfl,rfl⟩))
   go_ret
   exact ⟨rfl,bD (blk_put K2.out 1 _ rfl),Kd.R_drew (Kd.R_set S2.out K2.out (by decide) 1 _),Kd.R_drew (Kd.R_set T2.out K2.out (by decide) 1 _),Kd.R_drew (Kd.R_set U2.out K2.out (by decide) 1 _),below_drew (bS B2.out hb0)⟩
 by_cases k2 : ki = 2
 ·subst k2
  have h:=HH.out
  unfold conf_first.f at h
  rw [if_neg k0,if_neg k1,if_pos rfl] at h
  unfold quantL at h
  obtain ⟨⟨n1,l1,o1⟩,A1,h⟩:=oB h
  have A1:=Am A1
  dsimp only at h
  clear HH k0 k1
  have bb1 : b ≠ w.heap.size:=by omega
  cases o1 with
  | false =>
   rw [if_neg (by simp)] at h
   simp only [Option.some.injEq,Prod.mk.injEq] at h
   obtain ⟨rfl,rfl⟩:=h
   go_enter Tryd.func36,Tryd.ntmps36
   go_wp2_with (first|(go_at_call 48;(with_reducible refine (conf_form.calls k line _ n1 l1 false _ ?s1 A1.out).mono ?_);(case s1=>exact Glob.below G1.out (by repeat (first|exact Below.refl _ _|apply bL|apply pN|apply bE)));rintro e w5 ⟨u1,t1,rfl,q0,q1,hb0_⟩;have hb:=below_then (show Below w4.heap.size w4 _ by repeat (first|exact Below.refl _ _|apply bL|apply pN|apply bE)) hb0_ (bZ (show Below w4.heap.size w4 _ by repeat (first|exact Below.refl _ _|apply bL|apply pN|apply bE)));have B2:=Am (below_then B1.out hb (bZ B1.out));have K2:=Am ((hb.block b (blk_lt K1.out)).trans K1.out);have KX2:=Am ((hb.block w.heap.size (blk_lt KX.out)).trans KX.out);have GM2:=Am ((hb.block (w.heap.size + 1) (Array.getElem?_eq_some_iff.1 GM.out).1).trans GM.out);have S2:=Am (Kd.R_below S1.out hb);have T2:=Am (Kd.R_below T1.out hb);have U2:=Am (Kd.R_below U1.out hb);have Q2:=Am q0;clear q0 q1 hb hb0_))
   go_ret
   exact ⟨rfl,K2.out,S2.out,T2.out,U2.out,B2.out⟩
  | true =>
   rw [if_pos rfl] at h
   by_cases g1 : 0 < n1.length
   case neg=>rw [if_neg g1] at h;cases h
   rw [if_pos g1] at h
   simp only [Option.some.injEq,Prod.mk.injEq] at h
   obtain ⟨rfl,rfl⟩:=h
   have g1:=Am g1
   go_enter Tryd.func36,Tryd.ntmps36
   go_wp2_with (first|(go_at_call 48;(with_reducible refine (conf_form.calls k line _ n1 l1 true _ ?s1 A1.out).mono ?_);(case s1=>exact Glob.below G1.out (by repeat (first|exact Below.refl _ _|apply bL|apply pN|apply bE)));rintro e w5 ⟨u1,t1,rfl,q0,q1,hb0_⟩;obtain ⟨gn,cn,rfl,_,_,tn,htn⟩:=Kd.R_form q0 (by have:=g1.out;omega);have hb:=below_then (show Below w4.heap.size w4 _ by repeat (first|exact Below.refl _ _|apply bL|apply pN|apply bE)) hb0_ (bZ (show Below w4.heap.size w4 _ by repeat (first|exact Below.refl _ _|apply bL|apply pN|apply bE)));have B2:=Am (below_then B1.out hb (bZ B1.out));have K2:=Am ((hb.block b (blk_lt K1.out)).trans K1.out);have KX2:=Am ((hb.block w.heap.size (blk_lt KX.out)).trans KX.out);have GM2:=Am ((hb.block (w.heap.size + 1) (Array.getElem?_eq_some_iff.1 GM.out).1).trans GM.out);have S2:=Am (Kd.R_below S1.out hb);have T2:=Am (Kd.R_below T1.out hb);have U2:=Am (Kd.R_below U1.out hb);have Q2:=Am q0;have hlk : (Instr.lookup 82 (.map (some (w.heap.size + 1))) (.int .i64 2) false).run Tryd.prog w5 = .ok (.func (.func 45) #[] #[.pointer (some ⟨w.heap.size,0,none⟩)]) w5:=look_step _ _ _ _ 2 1 _ GM2.out rfl;clear q0 q1 hb hb0_)|(go_at_call 45;(with_reducible refine (clo2 b w.heap.size gn n1.length cn c.f2 (rd n1 0) _ ?c1 ?c2 ?c3 ?c4 ?c5 ?c6).mono ?_);(case c1=>exact (bC KX2.out 0).trans rfl);(case c2=>exact (Kd.R_cell (0 : Int) Q2.out 0 (by omega) (by have:=g1.out;omega)).1);(case c3=>exact (bC K2.out 2).trans rfl);(case c4=>exact bF K2.out 2);(case c5=>(have:=g1.out;omega));(case c6=>exact g1.out);rintro e w6 ⟨rfl,rfl⟩))
   go_ret
   exact ⟨rfl,bD (blk_put K2.out 2 _ rfl),Kd.R_drew (Kd.R_set S2.out K2.out (by decide) 2 _),Kd.R_drew (Kd.R_set T2.out K2.out (by decide) 2 _),Kd.R_drew (Kd.R_set U2.out K2.out (by decide) 2 _),below_drew (bS B2.out hb0)⟩
 by_cases k3 : ki = 3
 ·subst k3
  have h:=HH.out
  unfold conf_first.f at h
  rw [if_neg k0,if_neg k1,if_neg k2,if_pos rfl] at h
  unfold requL at h
  obtain ⟨⟨n1,l1,o1⟩,A1,h⟩:=oB h
  have A1:=Am A1
  dsimp only at h
  clear HH k0 k1 k2
  have bb1 : b ≠ w.heap.size:=by omega
  cases o1 with
  | false =>
   rw [if_neg (by simp)] at h
   simp only [Option.some.injEq,Prod.mk.injEq] at h
   obtain ⟨rfl,rfl⟩:=h
   go_enter Tryd.func36,Tryd.ntmps36
   go_wp2_with (first|(go_at_call 48;(with_reducible refine (conf_form.calls k line _ n1 l1 false _ ?s1 A1.out).mono ?_);(case s1=>exact Glob.below G1.out (by repeat (first|exact Below.refl _ _|apply bL|apply pN|apply bE)));rintro e w5 ⟨u1,t1,rfl,q0,q1,hb0_⟩;have hb:=below_then (show Below w4.heap.size w4 _ by repeat (first|exact Below.refl _ _|apply bL|apply pN|apply bE)) hb0_ (bZ (show Below w4.heap.size w4 _ by repeat (first|exact Below.refl _ _|apply bL|apply pN|apply bE)));have B2:=Am (below_then B1.out hb (bZ B1.out));have K2:=Am ((hb.block b (blk_lt K1.out)).trans K1.out);have KX2:=Am ((hb.block w.heap.size (blk_lt KX.out)).trans KX.out);have GM2:=Am ((hb.block (w.heap.size + 1) (Array.getElem?_eq_some_iff.1 GM.out).1).trans GM.out);have S2:=Am (Kd.R_below S1.out hb);have T2:=Am (Kd.R_below T1.out hb);have U2:=Am (Kd.R_below U1.out hb);have Q2:=Am q0;clear q0 q1 hb hb0_))
   go_ret
   exact ⟨rfl,K2.out,S2.out,T2.out,U2.out,B2.out⟩
  | true =>
   rw [if_pos rfl] at h
   by_cases g1 : 0 < n1.length
   case neg=>rw [if_neg g1] at h;cases h
   rw [if_pos g1] at h
   simp only [Option.some.injEq,Prod.mk.injEq] at h
   obtain ⟨rfl,rfl⟩:=h
   have g1:=Am g1
   go_enter Tryd.func36,Tryd.ntmps36
   go_wp2_with (first|(go_at_call 48;(with_reducible refine (conf_form.calls k line _ n1 l1 true _ ?s1 A1.out).mono ?_);(case s1=>exact Glob.below G1.out (by repeat (first|exact Below.refl _ _|apply bL|apply pN|apply bE)));rintro e w5 ⟨u1,t1,rfl,q0,q1,hb0_⟩;obtain ⟨gn,cn,rfl,_,_,tn,htn⟩:=Kd.R_form q0 (by have:=g1.out;omega);have hb:=below_then (show Below w4.heap.size w4 _ by repeat (first|exact Below.refl _ _|apply bL|apply pN|apply bE)) hb0_ (bZ (show Below w4.heap.size w4 _ by repeat (first|exact Below.refl _ _|apply bL|apply pN|apply bE)));have B2:=Am (below_then B1.out hb (bZ B1.out));have K2:=Am ((hb.block b (blk_lt K1.out)).trans K1.out);have KX2:=Am ((hb.block w.heap.size (blk_lt KX.out)).trans KX.out);have GM2:=Am ((hb.block (w.heap.size + 1) (Array.getElem?_eq_some_iff.1 GM.out).1).trans GM.out);have S2:=Am (Kd.R_below S1.out hb);have T2:=Am (Kd.R_below T1.out hb);have U2:=Am (Kd.R_below U1.out hb);have Q2:=Am q0;have hlk : (Instr.lookup 82 (.map (some (w.heap.size + 1))) (.int .i64 3) false).run Tryd.prog w5 = .ok (.func (.func 46) #[] #[.pointer (some ⟨w.heap.size,0,none⟩)]) w5:=look_step _ _ _ _ 3 2 _ GM2.out rfl;clear q0 q1 hb hb0_)|(go_at_call 46;(with_reducible refine (clo3 b w.heap.size gn n1.length cn c.f3 (rd n1 0) _ ?c1 ?c2 ?c3 ?c4 ?c5 ?c6).mono ?_);(case c1=>exact (bC KX2.out 0).trans rfl);(case c2=>exact (Kd.R_cell (0 : Int) Q2.out 0 (by omega) (by have:=g1.out;omega)).1);(case c3=>exact (bC K2.out 3).trans rfl);(case c4=>exact bF K2.out 3);(case c5=>(have:=g1.out;omega));(case c6=>exact g1.out);rintro e w6 ⟨rfl,rfl⟩))
   go_ret
   exact ⟨rfl,bD (blk_put K2.out 3 _ rfl),Kd.R_drew (Kd.R_set S2.out K2.out (by decide) 3 _),Kd.R_drew (Kd.R_set T2.out K2.out (by decide) 3 _),Kd.R_drew (Kd.R_set U2.out K2.out (by decide) 3 _),below_drew (bS B2.out hb0)⟩
 by_cases k4 : ki = 4
 rotate_left
 ·have h:=HH.out
  unfold conf_first.f at h
  rw [if_neg k0,if_neg k1,if_neg k2,if_neg k3,if_neg k4] at h
  cases h
 subst k4
 have h:=HH.out
 unfold conf_first.f at h
 rw [if_neg k0,if_neg k1,if_neg k2,if_neg k3,if_pos rfl] at h
 unfold weigL at h
 obtain ⟨⟨n1,l1,o1⟩,A1,h⟩:=oB h
 have A1:=Am A1
 dsimp only at h
 clear HH k0 k1 k2 k3
 have bb1 : b ≠ w.heap.size:=by omega
 cases o1 with
 | false =>
  rw [if_neg (by simp)] at h
  simp only [Option.some.injEq,Prod.mk.injEq] at h
  obtain ⟨rfl,rfl⟩:=h
  go_enter Tryd.func36,Tryd.ntmps36
  go_wp2_with (first|(go_at_call 48;(with_reducible refine (conf_form.calls k line _ n1 l1 false _ ?s1 A1.out).mono ?_);(case s1=>exact Glob.below G1.out (by repeat (first|exact Below.refl _ _|apply bL|apply pN|apply bE)));rintro e w5 ⟨u1,t1,rfl,q0,q1,hb0_⟩;have hb:=below_then (show Below w4.heap.size w4 _ by repeat (first|exact Below.refl _ _|apply bL|apply pN|apply bE)) hb0_ (bZ (show Below w4.heap.size w4 _ by repeat (first|exact Below.refl _ _|apply bL|apply pN|apply bE)));have B2:=Am (below_then B1.out hb (bZ B1.out));have K2:=Am ((hb.block b (blk_lt K1.out)).trans K1.out);have KX2:=Am ((hb.block w.heap.size (blk_lt KX.out)).trans KX.out);have GM2:=Am ((hb.block (w.heap.size + 1) (Array.getElem?_eq_some_iff.1 GM.out).1).trans GM.out);have S2:=Am (Kd.R_below S1.out hb);have T2:=Am (Kd.R_below T1.out hb);have U2:=Am (Kd.R_below U1.out hb);have Q2:=Am q0;clear q0 q1 hb hb0_))
  go_ret
  exact ⟨rfl,K2.out,S2.out,T2.out,U2.out,B2.out⟩
 | true =>
  rw [if_pos rfl] at h
  by_cases g1 : 4 < n1.length
  case neg=>rw [if_neg g1] at h;cases h
  rw [if_pos g1] at h
  simp only [Option.some.injEq,Prod.mk.injEq] at h
  obtain ⟨rfl,rfl⟩:=h
  have g1:=Am g1
  go_enter Tryd.func36,Tryd.ntmps36
  go_wp2_with (first|(go_at_call 48;(with_reducible refine (conf_form.calls k line _ n1 l1 true _ ?s1 A1.out).mono ?_);(case s1=>exact Glob.below G1.out (by repeat (first|exact Below.refl _ _|apply bL|apply pN|apply bE)));rintro e w5 ⟨u1,t1,rfl,q0,q1,hb0_⟩;obtain ⟨gn,cn,rfl,_,_,tn,htn⟩:=Kd.R_form q0 (by have:=g1.out;omega);have hb:=below_then (show Below w4.heap.size w4 _ by repeat (first|exact Below.refl _ _|apply bL|apply pN|apply bE)) hb0_ (bZ (show Below w4.heap.size w4 _ by repeat (first|exact Below.refl _ _|apply bL|apply pN|apply bE)));have B2:=Am (below_then B1.out hb (bZ B1.out));have K2:=Am ((hb.block b (blk_lt K1.out)).trans K1.out);have KX2:=Am ((hb.block w.heap.size (blk_lt KX.out)).trans KX.out);have GM2:=Am ((hb.block (w.heap.size + 1) (Array.getElem?_eq_some_iff.1 GM.out).1).trans GM.out);have S2:=Am (Kd.R_below S1.out hb);have T2:=Am (Kd.R_below T1.out hb);have U2:=Am (Kd.R_below U1.out hb);have Q2:=Am q0;have hlk : (Instr.lookup 82 (.map (some (w.heap.size + 1))) (.int .i64 4) false).run Tryd.prog w5 = .ok (.func (.func 47) #[] #[.pointer (some ⟨w.heap.size,0,none⟩)]) w5:=look_step _ _ _ _ 4 3 _ GM2.out rfl;clear q0 q1 hb hb0_)|(go_at_call 47;(with_reducible refine (clo4 b w.heap.size gn n1.length cn c.f4 c.f5 c.f6 c.f7 c.f8 (rd n1 0) (rd n1 1) (rd n1 2) (rd n1 3) (rd n1 4) _ ?c1 ?v0 ?f0 ?g0 ?v1 ?f1 ?g1 ?v2 ?f2 ?g2 ?v3 ?f3 ?g3 ?v4 ?f4 ?g4 ?n0 ?n1 ?n2 ?n3 ?n4 ?m0 ?m1 ?m2 ?m3 ?m4).mono ?_);(case c1=>exact (bC KX2.out 0).trans rfl);(case v0=>exact (bC K2.out 4).trans rfl);(case f0=>exact bF K2.out 4);(case g0=>exact (Kd.R_cell (0 : Int) Q2.out 0 (by omega) (by have:=g1.out;omega)).1);(case n0=>(have:=g1.out;omega));(case m0=>(have:=g1.out;omega));(case v1=>exact (bC K2.out 5).trans rfl);(case f1=>exact bF K2.out 5);(case g1=>exact (Kd.R_cell (0 : Int) Q2.out 1 (by omega) (by have:=g1.out;omega)).1);(case n1=>(have:=g1.out;omega));(case m1=>(have:=g1.out;omega));(case v2=>exact (bC K2.out 6).trans rfl);(case f2=>exact bF K2.out 6);(case g2=>exact (Kd.R_cell (0 : Int) Q2.out 2 (by omega) (by have:=g1.out;omega)).1);(case n2=>(have:=g1.out;omega));(case m2=>(have:=g1.out;omega));(case v3=>exact (bC K2.out 7).trans rfl);(case f3=>exact bF K2.out 7);(case g3=>exact (Kd.R_cell (0 : Int) Q2.out 3 (by omega) (by have:=g1.out;omega)).1);(case n3=>(have:=g1.out;omega));(case m3=>(have:=g1.out;omega));(case v4=>exact (bC K2.out 8).trans rfl);(case f4=>exact bF K2.out 8);(case g4=>exact (Kd.R_cell (0 : Int) Q2.out 4 (by omega) (by have:=g1.out;omega)).1);(case n4=>(have:=g1.out;omega));(case m4=>(have:=g1.out;omega));rintro e w6 ⟨rfl,rfl⟩))
  go_ret
  have KK0:=K2.out
  have KK1:=(blk_put (cs':=#[.int .i64 c.f0,.int .i64 c.f1,.int .i64 c.f2,.int .i64 c.f3,.int .i64 (rd n1 0),.int .i64 c.f5,.int .i64 c.f6,.int .i64 c.f7,.int .i64 c.f8,v9,v10,v11]) KK0 4 _ rfl)
  have KK2:=(blk_put (cs':=#[.int .i64 c.f0,.int .i64 c.f1,.int .i64 c.f2,.int .i64 c.f3,.int .i64 (rd n1 0),.int .i64 (rd n1 1),.int .i64 c.f6,.int .i64 c.f7,.int .i64 c.f8,v9,v10,v11]) KK1 5 _ rfl)
  have KK3:=(blk_put (cs':=#[.int .i64 c.f0,.int .i64 c.f1,.int .i64 c.f2,.int .i64 c.f3,.int .i64 (rd n1 0),.int .i64 (rd n1 1),.int .i64 (rd n1 2),.int .i64 c.f7,.int .i64 c.f8,v9,v10,v11]) KK2 6 _ rfl)
  have KK4:=(blk_put (cs':=#[.int .i64 c.f0,.int .i64 c.f1,.int .i64 c.f2,.int .i64 c.f3,.int .i64 (rd n1 0),.int .i64 (rd n1 1),.int .i64 (rd n1 2),.int .i64 (rd n1 3),.int .i64 c.f8,v9,v10,v11]) KK3 7 _ rfl)
  have KK5:=(blk_put (cs':=#[.int .i64 c.f0,.int .i64 c.f1,.int .i64 c.f2,.int .i64 c.f3,.int .i64 (rd n1 0),.int .i64 (rd n1 1),.int .i64 (rd n1 2),.int .i64 (rd n1 3),.int .i64 (rd n1 4),v9,v10,v11]) KK4 8 _ rfl)
  exact ⟨rfl,bD KK5,Kd.R_drew (Kd.R_set (Kd.R_set (Kd.R_set (Kd.R_set (Kd.R_set S2.out KK0 (by decide) 4 _) KK1 (by decide) 5 _) KK2 (by decide) 6 _) KK3 (by decide) 7 _) KK4 (by decide) 8 _),Kd.R_drew (Kd.R_set (Kd.R_set (Kd.R_set (Kd.R_set (Kd.R_set T2.out KK0 (by decide) 4 _) KK1 (by decide) 5 _) KK2 (by decide) 6 _) KK3 (by decide) 7 _) KK4 (by decide) 8 _),Kd.R_drew (Kd.R_set (Kd.R_set (Kd.R_set (Kd.R_set (Kd.R_set U2.out KK0 (by decide) 4 _) KK1 (by decide) 5 _) KK2 (by decide) 6 _) KK3 (by decide) 7 _) KK4 (by decide) 8 _),below_drew (bS (bS (bS (bS (bS B2.out hb0) hb0) hb0) hb0) hb0)⟩
end Go.Proofs.YtgidipomfbikiaaDoor.P
