/- cut to what one law reaches -/
import Derived.Test.YtakdneopmojjdaaDoorBfShort
import Derived.Test.YtakdneopmojjdaaDoorBfP0
import Derived.Test.YtakdneopmojjdaaDoorBfP2
import Derived.Test.YtakdneopmojjdaaDoorBfP3
import Derived.Test.YtakdneopmojjdaaDoorBfP4
namespace Go.Proofs.YtakdneopmojjdaaDoor.P
open Go.RowKit Go.Proofs.YtakdneopmojjdaaDoorW.PrintWords Go.Proofs.YtakdneopmojjdaaDoorW.PrintLast Go.Proofs.YtakdneopmojjdaaDoorW.PrintMore
attribute [local go_sem] max2_int min2_int max_two min_two max_three min_three max_four min_four   -- for this text's walks alone
set_option linter.unusedVariables false
set_option linter.unusedSimpArgs false
attribute [local go_sem] isSome_setCell
def wordsL : List ByteArray:=[(⟨#[114,101,113,117,101,117,101,100]⟩ : ByteArray),(⟨#[]⟩ : ByteArray),(⟨#[]⟩ : ByteArray),(⟨#[]⟩ : ByteArray),(⟨#[]⟩ : ByteArray),(⟨#[100,111,110,101]⟩ : ByteArray),(⟨#[102,97,105,108,101,100]⟩ : ByteArray),(⟨#[99,97,110,99,101,108,108,101,100]⟩ : ByteArray),(⟨#[108,97,116,101]⟩ : ByteArray)]
def numsF : List ByteArray→Nat→List Int→Option (Option (List Int))
 | [],_,n=>some (some n)
 | s :: r,i,n=>(book_number.f s).bind fun x=>if x.2 = true then (if i = 0∧4294967296≤x.1 then some none else numsF r (i + 1) (n.set i x.1)) else some none
def book_Parse.f (k : Nat) (a0 : ByteArray) : Option (Int × ByteArray × Int × Int × Int × Int × Int) :=
 (strings_Split.f a0 (⟨#[32]⟩ : ByteArray)).bind fun l=>match l with
  | [x0,x1,x2,x3,x4]=>(strings_Cut.f x2 (⟨#[120]⟩ : ByteArray)).bind fun c=>(slices_Index_string_string.f k wordsL x3).bind fun how =>
    if c.2.2 = true then (if how < 0 then some (0,(⟨#[]⟩ : ByteArray),0,0,0,0,60) else if x3.toList = [] then some (0,(⟨#[]⟩ : ByteArray),0,0,0,0,60) else
     (script_Name.f x1).bind fun t=>if t = true then (numsF [x0,c.1,c.2.1,x4] 0 [0,0,0,0]).bind fun x=>match x with
       | some [y0,y1,y2,y3]=>(book_right.f (IntKind.u32.wrap y0) x1 y1 y2 how y3).bind fun q=>if q = true then some (IntKind.u32.wrap y0,x1,y1,y2,how,y3,0) else some (0,(⟨#[]⟩ : ByteArray),0,0,0,0,200)
       | _=>some (0,(⟨#[]⟩ : ByteArray),0,0,0,0,60)
      else some (0,(⟨#[]⟩ : ByteArray),0,0,0,0,60))
    else some (0,(⟨#[]⟩ : ByteArray),0,0,0,0,60)
  | _=>some (0,(⟨#[]⟩ : ByteArray),0,0,0,0,60)
theorem book_Parse.mono : ∀ a0 k,LeO (book_Parse.f k a0) (book_Parse.f (k + 1) a0):=by
 intro a0 k
 unfold book_Parse.f
 refine LeO.bind (LeO.refl _) (fun l=>?_)
 split
 ·refine LeO.bind (LeO.refl _) (fun c=>?_)
  refine LeO.bind (slices_Index_string_string.mono _ _ _) (fun how=>?_)
  exact LeO.refl _
 ·exact LeO.refl _
theorem put6 {w : World} {g t : Nat} {u0 u1 u2 u3 u4 u5 : Value} (h : w.heap[g]? = some (.cells #[u0,u1,u2,u3,u4,u5] t (0,0))) (x0 x1 x2 x3 x4 x5 : Value) : ((((((w.setCell ⟨g,0,none⟩ (x0)).setCell ⟨g,1,none⟩ (x1)).setCell ⟨g,2,none⟩ (x2)).setCell ⟨g,3,none⟩ (x3)).setCell ⟨g,4,none⟩ (x4)).setCell ⟨g,5,none⟩ (x5)).heap[g]? = some (.cells #[x0,x1,x2,x3,x4,x5] t (0,0)):=by
 have h0:=blk_put h 0 x0 (cs':=#[x0,u1,u2,u3,u4,u5]) rfl
 have h1:=blk_put h0 1 x1 (cs':=#[x0,x1,u2,u3,u4,u5]) rfl
 have h2:=blk_put h1 2 x2 (cs':=#[x0,x1,x2,u3,u4,u5]) rfl
 have h3:=blk_put h2 3 x3 (cs':=#[x0,x1,x2,x3,u4,u5]) rfl
 have h4:=blk_put h3 4 x4 (cs':=#[x0,x1,x2,x3,x4,u5]) rfl
 have h5:=blk_put h4 5 x5 (cs':=#[x0,x1,x2,x3,x4,x5]) rfl
 exact h5
theorem below6 {w W : World} {g : Nat} (h : Below w.heap.size w W) (hg : w.heap.size≤g) (x0 x1 x2 x3 x4 x5 : Value) : Below w.heap.size w ((((((W.setCell ⟨g,0,none⟩ (x0)).setCell ⟨g,1,none⟩ (x1)).setCell ⟨g,2,none⟩ (x2)).setCell ⟨g,3,none⟩ (x3)).setCell ⟨g,4,none⟩ (x4)).setCell ⟨g,5,none⟩ (x5)):=by
 have h0:=bS (j:=0) (v:=x0) h hg
 have h1:=bS (j:=1) (v:=x1) h0 hg
 have h2:=bS (j:=2) (v:=x2) h1 hg
 have h3:=bS (j:=3) (v:=x3) h2 hg
 have h4:=bS (j:=4) (v:=x4) h3 hg
 have h5:=bS (j:=5) (v:=x5) h4 hg
 exact h5
theorem run_all50 (g : Nat) (w : World) : (Instr.sliceAt 50 (.pointer (some ⟨g,0,none⟩)) none none none).run Tryd.prog w = .ok (.slice (some ⟨g,0,none⟩) 9 9) w:=by
 simp [Instr.sliceAt,run_underlying Tryd.underlying50,Instr.sureAddr,Instr.sliceBounds,go_sem]
theorem run_at58 (g j : Nat) (hj : j < 4) (w : World) : (Instr.indexAt 58 (.pointer (some ⟨g,0,none⟩)) (.int .i64 (j : Int))).run Tryd.prog w = .ok (.pointer (some ⟨g,j,none⟩)) w:=by
 have h1 : (0 : Int)≤(j : Int):=by omega
 have h2 : (j : Int) < (4 : Int):=by omega
 simp [Instr.indexAt,run_underlying Tryd.underlying58,Instr.sureAddr,asIntOf,h1,h2,hj,go_sem,Addr.add]
 intro q;exact q.symm
theorem run_ix59 (x0 x1 x2 x3 : ByteArray) (j : Nat) (y : ByteArray) (hy : [x0,x1,x2,x3][j]? = some y) (w : World) : (Instr.index 59 (.agg #[.string x0,.string x1,.string x2,.string x3]) (.int .i64 (j : Int))).run Tryd.prog w = .ok (.string y) w:=by
 match j,hy with
 | 0,hy=>obtain rfl:=Option.some.inj hy;simp [Instr.index,go_sem]
 | 1,hy=>obtain rfl:=Option.some.inj hy;simp [Instr.index,go_sem]
 | 2,hy=>obtain rfl:=Option.some.inj hy;simp [Instr.index,go_sem]
 | 3,hy=>obtain rfl:=Option.some.inj hy;simp [Instr.index,go_sem]
 | j + 4,hy=>simp at hy
theorem C_words {w : World} {g : Nat} (h : w.heap[g]? = some (.cells (wordsL.map Value.string).toArray 50 (0,0))) : Kd.C Kd.string w (some ⟨g,0,none⟩) wordsL.length wordsL:=by
 refine ⟨rfl,by decide,fun _=>⟨_,rfl,fun j p hj=>⟨[.string p],rfl,rfl,fun i u hu=>?_⟩⟩⟩
 obtain ⟨hi,hu2⟩:=List.getElem?_eq_some_iff.1 hu
 obtain rfl : i = 0:=by simpa using hi
 obtain rfl : Value.string p = u:=hu2
 have e : (⟨g,0,none⟩ : Addr).add (j * 1 + 0) = ⟨g,j,none⟩:=by
  simp [Addr.add]
  intro q;exact q.symm
 show w.cell? ((⟨g,0,none⟩ : Addr).add (j * 1 + 0)) = _
 rw [e]
 refine (bC h j).trans ?_
 simp [hj]
set_option maxHeartbeats 8000000 in
set_option maxRecDepth 1000000 in
theorem book_Parse.calls (k : Nat) (a0 : ByteArray) (r1 : Int) (r2 : ByteArray) (r3 r4 r5 r6 r7 : Int) (w : World) (hG : Glob w) (h : book_Parse.f k a0 = some (r1,r2,r3,r4,r5,r6,r7)) :
  Calls Tryd.prog 10 #[.string a0] w fun e w'=>e = .returned (.tuple #[.agg #[.int .u32 r1,.string r2,.int .i64 r3,.int .i64 r4,.int .i64 r5,.int .i64 r6],.int .i64 r7])∧Below w.heap.size w w':=by
 have hu24:=Tryd.underlying24
 have hu50:=Tryd.underlying50
 have hu58:=Tryd.underlying58
 have HG:=Am hG
 have HB:=Am (Below.refl w.heap.size w)
 unfold book_Parse.f at h
 replace h:=oB h
 obtain ⟨l,A1',h⟩:=h
 have A1:=Am A1'
 clear A1'
 clear hG
 by_cases hl : l.length = 5
 case neg =>
  have e5 : ((l.length : Int) != 5) = true:=by rw [bne_iff_ne];omega
  have h2 : some ((0 : Int),(⟨#[]⟩ : ByteArray),(0 : Int),(0 : Int),(0 : Int),(0 : Int),(60 : Int)) = some (r1,r2,r3,r4,r5,r6,r7):=by
   revert h
   split
   ·simp at hl
   ·intro h;exact h
  clear h hl
  simp only [Option.some.injEq,Prod.mk.injEq] at h2
  obtain ⟨rfl,rfl,rfl,rfl,rfl,rfl,rfl⟩:=h2
  go_enter Tryd.func10,Tryd.ntmps10
  go_wp2_with (first|((with_reducible refine gD (N:=2) rfl ?_);refine box_event ?hg (N:=2) ?hd (cs:=#[.int .u32 0,.string (⟨#[]⟩ : ByteArray),.int .i64 0,.int .i64 0,.int .i64 0,.int .i64 0]) (t:=24) ?hr ?_;(case hd=>rfl);(case hg=>rfl);(case hr=>first|(go_simp;done)|(go_simp;rfl));intro gR hg w1 hbox hb;have GEgR : Aside0 (w.heap.size≤gR):=Am (by rw [hg];exact (bZ (by repeat (first|(with_reducible first|exact HB.out|apply bL|apply pN|apply bE)|exact HB.out))));have n0_:=Am (below_step (by repeat (first|(with_reducible first|exact HB.out|apply bL|apply pN|apply bE)|exact HB.out)) hb);clear HB;have HB:=n0_;clear n0_;have KR:=Am hbox;clear hb hbox hg;skip)|(go_at_call 23;(with_reducible refine (strings_Split.calls a0 (⟨#[32]⟩ : ByteArray) _ _ ?s1 A1.out).mono ?_);(case s1=>exact Glob.below HG.out (by repeat (first|(with_reducible first|exact HB.out|apply bL|apply pN|apply bE)|exact HB.out)));rintro e w2 ⟨v,rfl,q0,hb⟩;have S:=Am (Kd.R_lower q0 (bZ (by repeat (first|(with_reducible first|exact HB.out|apply bL|apply pN|apply bE)|exact HB.out))));clear q0;have n0_:=Am (below_step (by repeat (first|(with_reducible first|exact HB.out|apply bL|apply pN|apply bE)|exact HB.out)) hb);have n_KR:=Am (blk_below (g:=gR) (o:=.cells #[.int .u32 0,.string (⟨#[]⟩ : ByteArray),.int .i64 0,.int .i64 0,.int .i64 0,.int .i64 0] 24 (0,0)) (by (with_reducible repeat (first|refine bN ?_ _|refine bD ?_|refine bA ?_ _));exact KR.out) hb);clear HB;have HB:=n0_;clear n0_;clear KR;have KR:=n_KR;clear n_KR;obtain ⟨A,c,rfl⟩:=Kd.R_slice S.out;have xr0 : w2.cell? ⟨gR,0,none⟩ = some (.int .u32 0):=(bC KR.out 0).trans rfl;have fr0:=bF KR.out 0;have xr1 : w2.cell? ⟨gR,1,none⟩ = some (.string (⟨#[]⟩ : ByteArray)):=(bC KR.out 1).trans rfl;have fr1:=bF KR.out 1;have xr2 : w2.cell? ⟨gR,2,none⟩ = some (.int .i64 0):=(bC KR.out 2).trans rfl;have fr2:=bF KR.out 2;have xr3 : w2.cell? ⟨gR,3,none⟩ = some (.int .i64 0):=(bC KR.out 3).trans rfl;have fr3:=bF KR.out 3;have xr4 : w2.cell? ⟨gR,4,none⟩ = some (.int .i64 0):=(bC KR.out 4).trans rfl;have fr4:=bF KR.out 4;have xr5 : w2.cell? ⟨gR,5,none⟩ = some (.int .i64 0):=(bC KR.out 5).trans rfl;have fr5:=bF KR.out 5;clear hb))
  try rw [Exit.noGoto_ret]
  refine bodyPost_ret (results_ct rfl _ _ gR 24 #[.int .u32 0,.string (⟨#[]⟩ : ByteArray),.int .i64 0,.int .i64 0,.int .i64 0,.int .i64 0] (0,0) _ rfl (put6 (by (with_reducible repeat (first|refine bN ?_ _|refine bD ?_|refine bA ?_ _));exact KR.out) (.int .u32 0) (.string (⟨#[]⟩ : ByteArray)) (.int .i64 0) (.int .i64 0) (.int .i64 0) (.int .i64 0)) Tryd.underlying24 rfl (by kernel_rfl)) rfl ?_
  exact ⟨rfl,below6 (by repeat (first|(with_reducible first|exact HB.out|apply bL|apply pN|apply bE)|exact HB.out)) GEgR.out (.int .u32 0) (.string (⟨#[]⟩ : ByteArray)) (.int .i64 0) (.int .i64 0) (.int .i64 0) (.int .i64 0)⟩
 obtain ⟨x0,x1,x2,x3,x4,rfl⟩ : ∃ x0 x1 x2 x3 x4,l = [x0,x1,x2,x3,x4]:=by
  match l,hl with
  | [x0,x1,x2,x3,x4],_=>exact ⟨_,_,_,_,_,rfl⟩
 have e5 : ((5 : Int) != 5) = false:=rfl
 clear hl
 dsimp only at h
 replace h:=oB h
 obtain ⟨⟨wk,sc,okc⟩,A2',h⟩:=h
 replace h:=oB h
 obtain ⟨how,A3,h⟩:=h
 have A2:=Am A2'
 clear A2'
 have IC : ∀ (g : Nat) (w' : World),Kd.C Kd.string w' (some ⟨g,0,none⟩) wordsL.length wordsL→Calls Tryd.prog 25 #[.slice (some ⟨g,0,none⟩) 9 9,.string x3] w' (fun e w''=>e = .returned (.int .i64 how)∧Drawn0 w' w''):=fun g w' hc=>slices_Index_string_string.calls k _ 9 wordsL x3 how w' hc (by decide) A3
 have hall:=run_all50
 clear A3
 dsimp only at h
 cases okc with
 | false =>
  rw [if_neg (by simp)] at h
  simp only [Option.some.injEq,Prod.mk.injEq] at h
  obtain ⟨rfl,rfl,rfl,rfl,rfl,rfl,rfl⟩:=h
  go_enter Tryd.func10,Tryd.ntmps10
  go_wp2_with (first|((with_reducible refine gD (N:=2) rfl ?_);refine box_event ?hg (N:=2) ?hd (cs:=#[.int .u32 0,.string (⟨#[]⟩ : ByteArray),.int .i64 0,.int .i64 0,.int .i64 0,.int .i64 0]) (t:=24) ?hr ?_;(case hd=>rfl);(case hg=>rfl);(case hr=>first|(go_simp;done)|(go_simp;rfl));intro gR hg w1 hbox hb;have GEgR : Aside0 (w.heap.size≤gR):=Am (by rw [hg];exact (bZ (by repeat (first|(with_reducible first|exact HB.out|apply bL|apply pN|apply bE)|exact HB.out))));have n0_:=Am (below_step (by repeat (first|(with_reducible first|exact HB.out|apply bL|apply pN|apply bE)|exact HB.out)) hb);clear HB;have HB:=n0_;clear n0_;have KR:=Am hbox;clear hb hbox hg;skip)|(go_at_call 23;(with_reducible refine (strings_Split.calls a0 (⟨#[32]⟩ : ByteArray) _ _ ?s1 A1.out).mono ?_);(case s1=>exact Glob.below HG.out (by repeat (first|(with_reducible first|exact HB.out|apply bL|apply pN|apply bE)|exact HB.out)));rintro e w2 ⟨v,rfl,q0,hb⟩;have S:=Am (Kd.R_lower q0 (bZ (by repeat (first|(with_reducible first|exact HB.out|apply bL|apply pN|apply bE)|exact HB.out))));clear q0;have n0_:=Am (below_step (by repeat (first|(with_reducible first|exact HB.out|apply bL|apply pN|apply bE)|exact HB.out)) hb);have n_KR:=Am (blk_below (g:=gR) (o:=.cells #[.int .u32 0,.string (⟨#[]⟩ : ByteArray),.int .i64 0,.int .i64 0,.int .i64 0,.int .i64 0] 24 (0,0)) (by (with_reducible repeat (first|refine bN ?_ _|refine bD ?_|refine bA ?_ _));exact KR.out) hb);clear HB;have HB:=n0_;clear n0_;clear KR;have KR:=n_KR;clear n_KR;obtain ⟨gv,cv,hv,_,_,_⟩:=Kd.R_form S.out (Nat.zero_lt_succ _);obtain rfl : v = .slice (some ⟨gv,0,none⟩) 5 cv:=hv;have z2 : w2.cell? ⟨gv,2,none⟩ = some (.string x2):=(Kd.R_cell ByteArray.empty S.out 2 (by decide) (by simp)).1;clear hb)|(go_at_call 24;(with_reducible refine (strings_Cut.calls x2 (⟨#[120]⟩ : ByteArray) wk sc _ _ ?s1 A2.out).mono ?_);(case s1=>exact Glob.below HG.out (by repeat (first|(with_reducible first|exact HB.out|apply bL|apply pN|apply bE)|exact HB.out)));rintro e w3 ⟨rfl,hb⟩;have n0_:=Am (below_step (by repeat (first|(with_reducible first|exact HB.out|apply bL|apply pN|apply bE)|exact HB.out)) hb);have n_KR:=Am (blk_below (g:=gR) (o:=.cells #[.int .u32 0,.string (⟨#[]⟩ : ByteArray),.int .i64 0,.int .i64 0,.int .i64 0,.int .i64 0] 24 (0,0)) (by (with_reducible repeat (first|refine bN ?_ _|refine bD ?_|refine bA ?_ _));exact KR.out) hb);have n_S:=Am (Kd.R_below (by (with_reducible repeat (first|apply Kd.R_drewN|apply Kd.R_drew|apply Kd.R_alloc));exact S.out) hb);clear HB;have HB:=n0_;clear n0_;clear KR;have KR:=n_KR;clear n_KR;clear S;have S:=n_S;clear n_S;clear hb)|(go_at_call 22;(with_reducible refine (book_names.calls _ _ _ _ _ _ _ _ _ _ rfl).mono ?_);rintro e w4 ⟨rfl,hb⟩;have n0_:=Am (below_step (by repeat (first|(with_reducible first|exact HB.out|apply bL|apply pN|apply bE)|exact HB.out)) hb);have n_KR:=Am (blk_below (g:=gR) (o:=.cells #[.int .u32 0,.string (⟨#[]⟩ : ByteArray),.int .i64 0,.int .i64 0,.int .i64 0,.int .i64 0] 24 (0,0)) (by (with_reducible repeat (first|refine bN ?_ _|refine bD ?_|refine bA ?_ _));exact KR.out) hb);have n_S:=Am (Kd.R_below (by (with_reducible repeat (first|apply Kd.R_drewN|apply Kd.R_drew|apply Kd.R_alloc));exact S.out) hb);clear HB;have HB:=n0_;clear n0_;clear KR;have KR:=n_KR;clear n_KR;clear S;have S:=n_S;clear n_S;clear hb))
  have w5e : ∃ w5 gA,w5 = w4.alloc (.cells #[.string (⟨#[114,101,113,117,101,117,101,100]⟩ : ByteArray),.string (⟨#[]⟩ : ByteArray),.string (⟨#[]⟩ : ByteArray),.string (⟨#[]⟩ : ByteArray),.string (⟨#[]⟩ : ByteArray),.string (⟨#[100,111,110,101]⟩ : ByteArray),.string (⟨#[102,97,105,108,101,100]⟩ : ByteArray),.string (⟨#[99,97,110,99,101,108,108,101,100]⟩ : ByteArray),.string (⟨#[108,97,116,101]⟩ : ByteArray)] 50)∧gA = w4.heap.size:=⟨_,_,rfl,rfl⟩
  obtain ⟨w5,gA,hw5,hgA⟩:=w5e
  have KA : Aside0 (w5.heap[gA]? = some (.cells #[.string (⟨#[114,101,113,117,101,117,101,100]⟩ : ByteArray),.string (⟨#[]⟩ : ByteArray),.string (⟨#[]⟩ : ByteArray),.string (⟨#[]⟩ : ByteArray),.string (⟨#[]⟩ : ByteArray),.string (⟨#[100,111,110,101]⟩ : ByteArray),.string (⟨#[102,97,105,108,101,100]⟩ : ByteArray),.string (⟨#[99,97,110,99,101,108,108,101,100]⟩ : ByteArray),.string (⟨#[108,97,116,101]⟩ : ByteArray)] 50 (0,0))):=⟨by rw [hw5,hgA];exact blk_new w4 _⟩
  have n_KR : Aside0 (w5.heap[gR]? = some (.cells #[.int .u32 0,.string (⟨#[]⟩ : ByteArray),.int .i64 0,.int .i64 0,.int .i64 0,.int .i64 0] 24 (0,0))):=⟨by rw [hw5];exact bA KR.out _⟩
  have n_S : Aside0 (Kd.R Kd.string 9 w5 _ _ _ _):=⟨by rw [hw5];exact Kd.R_alloc S.out _⟩
  have n_HB : Aside0 (Below w.heap.size w w5):=⟨by rw [hw5];exact bL HB.out _⟩
  rw [← hw5,← hgA]
  clear KR S HB hw5 hgA
  have KR:=n_KR
  have S:=n_S
  have HB:=n_HB
  clear n_KR n_S n_HB
  have z3 : w5.cell? ⟨gv,3,none⟩ = some (.string x3):=(Kd.R_cell ByteArray.empty S.out 3 (by decide) (by simp)).1
  have n_:=Am (bD KR.out)
  clear KR
  have KR:=n_
  clear n_
  have n_:=Am (bD KA.out)
  clear KA
  have KA:=n_
  clear n_
  have n_:=Am (Kd.R_drew S.out)
  clear S
  have S:=n_
  clear n_
  have n_:=Am (bE HB.out)
  clear HB
  have HB:=n_
  clear n_
  refine start_ (n:=6) (S:=fun w'=>w'.cell? ⟨gv,3,none⟩ = some (.string x3)) (ds:=[]) #[O,O,O,O,O,O] (by kernel_rfl) rfl rfl z3 (fun hHeld=>?_)
  generalize w5.drew = w6 at KR KA S HB hHeld ⊢
  refine pure_ (i:=0) (N:=some 31) (v:=?_) (a':=?_) #[J,O,O,O,O,O] rfl rfl (by kernel_rfl) (fun _ _ _ h=>h) (Or.inl ⟨by rfl,?_⟩) ?_ ?_
  rotate_left
  ·intro w'
   go_simp
   with_reducible rfl
  rotate_left
  ·simp only [Act.put,sT,sZ,sS,iW,iV]
   rfl
  refine pure_ (i:=1) (N:=some 32) (v:=?_) (a':=?_) #[J,J,O,O,O,O] rfl rfl (by kernel_rfl) (fun _ _ _ h=>h) (Or.inl ⟨by rfl,?_⟩) ?_ ?_
  rotate_left
  ·intro w'
   go_simp
   with_reducible rfl
  rotate_left
  ·simp only [Act.put,sT,sZ,sS,iW,iV]
   rfl
  refine pure_ (i:=2) (N:=some 33) (v:=?_) (a':=?_) #[J,J,J,O,O,O] rfl rfl (by kernel_rfl) (fun _ _ _ h=>h) (Or.inl ⟨by rfl,?_⟩) ?_ ?_
  rotate_left
  ·intro w'
   go_simp
   with_reducible rfl
  rotate_left
  ·simp only [Act.put,sT,sZ,sS,iW,iV]
   rfl
  refine take_ (i:=3) (N:=some 34) (v:=?_) (a':=?_) #[J,J,J,J,O,O] rfl rfl (by kernel_rfl) (fun _ _ _ h=>h) (Or.inl ⟨by rfl,?_⟩) hHeld ?_ ?_
  rotate_left
  ·rintro w' s0
   go_simp
   with_reducible rfl
  rotate_left
  ·simp only [Act.put,sT,sZ,sS,iW,iV]
   rfl
  refine one_ (i:=4) (N:=some 35) #[J,J,J,J,J,O] rfl rfl (by kernel_rfl) (by decide) (fun K hK=>?_)
  refine goes_ Tryd.func25 (by kernel_rfl) rfl #[.slice (some ⟨gA,0,none⟩) 9 9,.string x3] (by rfl) rfl rfl (by (try simp only [mT,mC,mN]);first|done|rfl) ?_
  refine (IC gA _ ?c1).mono ?_
  case c1=>exact C_words KA.out
  rintro e w7 ⟨rfl,hd⟩
  refine ⟨_,rfl,?_⟩
  have hb:=hd.below
  clear hd
  have n0_:=Am (below_step (by repeat (first|(with_reducible first|exact HB.out|apply bL|apply pN|apply bE)|exact HB.out)) hb);have n_KR:=Am (blk_below (g:=gR) (o:=.cells #[.int .u32 0,.string (⟨#[]⟩ : ByteArray),.int .i64 0,.int .i64 0,.int .i64 0,.int .i64 0] 24 (0,0)) (by (with_reducible repeat (first|refine bN ?_ _|refine bD ?_|refine bA ?_ _));exact KR.out) hb);have n_KA:=Am (blk_below (g:=gA) (o:=.cells #[.string (⟨#[114,101,113,117,101,117,101,100]⟩ : ByteArray),.string (⟨#[]⟩ : ByteArray),.string (⟨#[]⟩ : ByteArray),.string (⟨#[]⟩ : ByteArray),.string (⟨#[]⟩ : ByteArray),.string (⟨#[100,111,110,101]⟩ : ByteArray),.string (⟨#[102,97,105,108,101,100]⟩ : ByteArray),.string (⟨#[99,97,110,99,101,108,108,101,100]⟩ : ByteArray),.string (⟨#[108,97,116,101]⟩ : ByteArray)] 50 (0,0)) (by (with_reducible repeat (first|refine bN ?_ _|refine bD ?_|refine bA ?_ _));exact KA.out) hb);have n_S:=Am (Kd.R_below (by (with_reducible repeat (first|apply Kd.R_drewN|apply Kd.R_drew|apply Kd.R_alloc));exact S.out) hb);clear HB;have HB:=n0_;clear n0_;clear KR;have KR:=n_KR;clear n_KR;clear KA;have KA:=n_KA;clear n_KA;clear S;have S:=n_S;clear n_S
  clear hb
  refine hK.out _ _ ((Kd.R_cell ByteArray.empty S.out 3 (by decide) (by simp)).1) (fun hHeld=>?_)
  clear hK K
  refine norm_ (a':=?_) ?_ ?_
  rotate_left
  ·show Act.put _ (some 35) _ = _
   simp only [Act.put,sT,sZ,sS,iW,iV]
   rfl
  refine pure_ (i:=5) (N:=some 9) (v:=?_) (a':=?_) #[J,J,J,J,J,J] rfl rfl (by kernel_rfl) (fun _ _ _ h=>h) (Or.inl ⟨by rfl,?_⟩) ?_ ?_
  rotate_left
  ·intro w'
   go_simp
   with_reducible rfl
  rotate_left
  ·simp only [Act.put,sT,sZ,sS,iW,iV]
   rfl
  refine done_ (by kernel_rfl) ?_
  have xr0 : w7.cell? ⟨gR,0,none⟩ = some (.int .u32 0):=(bC KR.out 0).trans rfl
  have fr0:=bF KR.out 0
  have xr1 : w7.cell? ⟨gR,1,none⟩ = some (.string (⟨#[]⟩ : ByteArray)):=(bC KR.out 1).trans rfl
  have fr1:=bF KR.out 1
  have xr2 : w7.cell? ⟨gR,2,none⟩ = some (.int .i64 0):=(bC KR.out 2).trans rfl
  have fr2:=bF KR.out 2
  have xr3 : w7.cell? ⟨gR,3,none⟩ = some (.int .i64 0):=(bC KR.out 3).trans rfl
  have fr3:=bF KR.out 3
  have xr4 : w7.cell? ⟨gR,4,none⟩ = some (.int .i64 0):=(bC KR.out 4).trans rfl
  have fr4:=bF KR.out 4
  have xr5 : w7.cell? ⟨gR,5,none⟩ = some (.int .i64 0):=(bC KR.out 5).trans rfl
  have fr5:=bF KR.out 5
  go_wp2
  try rw [Exit.noGoto_ret]
  refine bodyPost_ret (results_ct rfl _ _ gR 24 #[.int .u32 0,.string (⟨#[]⟩ : ByteArray),.int .i64 0,.int .i64 0,.int .i64 0,.int .i64 0] (0,0) _ rfl (put6 (by (with_reducible repeat (first|refine bN ?_ _|refine bD ?_|refine bA ?_ _));exact KR.out) (.int .u32 0) (.string (⟨#[]⟩ : ByteArray)) (.int .i64 0) (.int .i64 0) (.int .i64 0) (.int .i64 0)) Tryd.underlying24 rfl (by kernel_rfl)) rfl ?_
  exact ⟨rfl,below6 (by repeat (first|(with_reducible first|exact HB.out|apply bL|apply pN|apply bE)|exact HB.out)) GEgR.out (.int .u32 0) (.string (⟨#[]⟩ : ByteArray)) (.int .i64 0) (.int .i64 0) (.int .i64 0) (.int .i64 0)⟩
 | true =>
  rw [if_pos rfl] at h
  by_cases g1 : how < 0
  ·rw [if_pos g1] at h
   simp only [Option.some.injEq,Prod.mk.injEq] at h
   obtain ⟨rfl,rfl,rfl,rfl,rfl,rfl,rfl⟩:=h
   go_enter Tryd.func10,Tryd.ntmps10
   go_wp2_with (first|((with_reducible refine gD (N:=2) rfl ?_);refine box_event ?hg (N:=2) ?hd (cs:=#[.int .u32 0,.string (⟨#[]⟩ : ByteArray),.int .i64 0,.int .i64 0,.int .i64 0,.int .i64 0]) (t:=24) ?hr ?_;(case hd=>rfl);(case hg=>rfl);(case hr=>first|(go_simp;done)|(go_simp;rfl));intro gR hg w1 hbox hb;have GEgR : Aside0 (w.heap.size≤gR):=Am (by rw [hg];exact (bZ (by repeat (first|(with_reducible first|exact HB.out|apply bL|apply pN|apply bE)|exact HB.out))));have n0_:=Am (below_step (by repeat (first|(with_reducible first|exact HB.out|apply bL|apply pN|apply bE)|exact HB.out)) hb);clear HB;have HB:=n0_;clear n0_;have KR:=Am hbox;clear hb hbox hg;skip)|(go_at_call 23;(with_reducible refine (strings_Split.calls a0 (⟨#[32]⟩ : ByteArray) _ _ ?s1 A1.out).mono ?_);(case s1=>exact Glob.below HG.out (by repeat (first|(with_reducible first|exact HB.out|apply bL|apply pN|apply bE)|exact HB.out)));rintro e w2 ⟨v,rfl,q0,hb⟩;have S:=Am (Kd.R_lower q0 (bZ (by repeat (first|(with_reducible first|exact HB.out|apply bL|apply pN|apply bE)|exact HB.out))));clear q0;have n0_:=Am (below_step (by repeat (first|(with_reducible first|exact HB.out|apply bL|apply pN|apply bE)|exact HB.out)) hb);have n_KR:=Am (blk_below (g:=gR) (o:=.cells #[.int .u32 0,.string (⟨#[]⟩ : ByteArray),.int .i64 0,.int .i64 0,.int .i64 0,.int .i64 0] 24 (0,0)) (by (with_reducible repeat (first|refine bN ?_ _|refine bD ?_|refine bA ?_ _));exact KR.out) hb);clear HB;have HB:=n0_;clear n0_;clear KR;have KR:=n_KR;clear n_KR;obtain ⟨gv,cv,hv,_,_,_⟩:=Kd.R_form S.out (Nat.zero_lt_succ _);obtain rfl : v = .slice (some ⟨gv,0,none⟩) 5 cv:=hv;have z2 : w2.cell? ⟨gv,2,none⟩ = some (.string x2):=(Kd.R_cell ByteArray.empty S.out 2 (by decide) (by simp)).1;clear hb)|(go_at_call 24;(with_reducible refine (strings_Cut.calls x2 (⟨#[120]⟩ : ByteArray) wk sc _ _ ?s1 A2.out).mono ?_);(case s1=>exact Glob.below HG.out (by repeat (first|(with_reducible first|exact HB.out|apply bL|apply pN|apply bE)|exact HB.out)));rintro e w3 ⟨rfl,hb⟩;have n0_:=Am (below_step (by repeat (first|(with_reducible first|exact HB.out|apply bL|apply pN|apply bE)|exact HB.out)) hb);have n_KR:=Am (blk_below (g:=gR) (o:=.cells #[.int .u32 0,.string (⟨#[]⟩ : ByteArray),.int .i64 0,.int .i64 0,.int .i64 0,.int .i64 0] 24 (0,0)) (by (with_reducible repeat (first|refine bN ?_ _|refine bD ?_|refine bA ?_ _));exact KR.out) hb);have n_S:=Am (Kd.R_below (by (with_reducible repeat (first|apply Kd.R_drewN|apply Kd.R_drew|apply Kd.R_alloc));exact S.out) hb);clear HB;have HB:=n0_;clear n0_;clear KR;have KR:=n_KR;clear n_KR;clear S;have S:=n_S;clear n_S;clear hb)|(go_at_call 22;(with_reducible refine (book_names.calls _ _ _ _ _ _ _ _ _ _ rfl).mono ?_);rintro e w4 ⟨rfl,hb⟩;have n0_:=Am (below_step (by repeat (first|(with_reducible first|exact HB.out|apply bL|apply pN|apply bE)|exact HB.out)) hb);have n_KR:=Am (blk_below (g:=gR) (o:=.cells #[.int .u32 0,.string (⟨#[]⟩ : ByteArray),.int .i64 0,.int .i64 0,.int .i64 0,.int .i64 0] 24 (0,0)) (by (with_reducible repeat (first|refine bN ?_ _|refine bD ?_|refine bA ?_ _));exact KR.out) hb);have n_S:=Am (Kd.R_below (by (with_reducible repeat (first|apply Kd.R_drewN|apply Kd.R_drew|apply Kd.R_alloc));exact S.out) hb);clear HB;have HB:=n0_;clear n0_;clear KR;have KR:=n_KR;clear n_KR;clear S;have S:=n_S;clear n_S;clear hb))
   have w5e : ∃ w5 gA,w5 = w4.alloc (.cells #[.string (⟨#[114,101,113,117,101,117,101,100]⟩ : ByteArray),.string (⟨#[]⟩ : ByteArray),.string (⟨#[]⟩ : ByteArray),.string (⟨#[]⟩ : ByteArray),.string (⟨#[]⟩ : ByteArray),.string (⟨#[100,111,110,101]⟩ : ByteArray),.string (⟨#[102,97,105,108,101,100]⟩ : ByteArray),.string (⟨#[99,97,110,99,101,108,108,101,100]⟩ : ByteArray),.string (⟨#[108,97,116,101]⟩ : ByteArray)] 50)∧gA = w4.heap.size:=⟨_,_,rfl,rfl⟩
   obtain ⟨w5,gA,hw5,hgA⟩:=w5e
   have KA : Aside0 (w5.heap[gA]? = some (.cells #[.string (⟨#[114,101,113,117,101,117,101,100]⟩ : ByteArray),.string (⟨#[]⟩ : ByteArray),.string (⟨#[]⟩ : ByteArray),.string (⟨#[]⟩ : ByteArray),.string (⟨#[]⟩ : ByteArray),.string (⟨#[100,111,110,101]⟩ : ByteArray),.string (⟨#[102,97,105,108,101,100]⟩ : ByteArray),.string (⟨#[99,97,110,99,101,108,108,101,100]⟩ : ByteArray),.string (⟨#[108,97,116,101]⟩ : ByteArray)] 50 (0,0))):=⟨by rw [hw5,hgA];exact blk_new w4 _⟩
   have n_KR : Aside0 (w5.heap[gR]? = some (.cells #[.int .u32 0,.string (⟨#[]⟩ : ByteArray),.int .i64 0,.int .i64 0,.int .i64 0,.int .i64 0] 24 (0,0))):=⟨by rw [hw5];exact bA KR.out _⟩
   have n_S : Aside0 (Kd.R Kd.string 9 w5 _ _ _ _):=⟨by rw [hw5];exact Kd.R_alloc S.out _⟩
   have n_HB : Aside0 (Below w.heap.size w w5):=⟨by rw [hw5];exact bL HB.out _⟩
   rw [← hw5,← hgA]
   clear KR S HB hw5 hgA
   have KR:=n_KR
   have S:=n_S
   have HB:=n_HB
   clear n_KR n_S n_HB
   have z3 : w5.cell? ⟨gv,3,none⟩ = some (.string x3):=(Kd.R_cell ByteArray.empty S.out 3 (by decide) (by simp)).1
   have n_:=Am (bD KR.out)
   clear KR
   have KR:=n_
   clear n_
   have n_:=Am (bD KA.out)
   clear KA
   have KA:=n_
   clear n_
   have n_:=Am (Kd.R_drew S.out)
   clear S
   have S:=n_
   clear n_
   have n_:=Am (bE HB.out)
   clear HB
   have HB:=n_
   clear n_
   refine start_ (n:=6) (S:=fun w'=>w'.cell? ⟨gv,3,none⟩ = some (.string x3)) (ds:=[]) #[O,O,O,O,O,O] (by kernel_rfl) rfl rfl z3 (fun hHeld=>?_)
   generalize w5.drew = w6 at KR KA S HB hHeld ⊢
   refine pure_ (i:=0) (N:=some 31) (v:=?_) (a':=?_) #[J,O,O,O,O,O] rfl rfl (by kernel_rfl) (fun _ _ _ h=>h) (Or.inl ⟨by rfl,?_⟩) ?_ ?_
   rotate_left
   ·intro w'
    go_simp
    with_reducible rfl
   rotate_left
   ·simp only [Act.put,sT,sZ,sS,iW,iV]
    rfl
   refine pure_ (i:=1) (N:=some 32) (v:=?_) (a':=?_) #[J,J,O,O,O,O] rfl rfl (by kernel_rfl) (fun _ _ _ h=>h) (Or.inl ⟨by rfl,?_⟩) ?_ ?_
   rotate_left
   ·intro w'
    go_simp
    with_reducible rfl
   rotate_left
   ·simp only [Act.put,sT,sZ,sS,iW,iV]
    rfl
   refine pure_ (i:=2) (N:=some 33) (v:=?_) (a':=?_) #[J,J,J,O,O,O] rfl rfl (by kernel_rfl) (fun _ _ _ h=>h) (Or.inl ⟨by rfl,?_⟩) ?_ ?_
   rotate_left
   ·intro w'
    go_simp
    with_reducible rfl
   rotate_left
   ·simp only [Act.put,sT,sZ,sS,iW,iV]
    rfl
   refine take_ (i:=3) (N:=some 34) (v:=?_) (a':=?_) #[J,J,J,J,O,O] rfl rfl (by kernel_rfl) (fun _ _ _ h=>h) (Or.inl ⟨by rfl,?_⟩) hHeld ?_ ?_
   rotate_left
   ·rintro w' s0
    go_simp
    with_reducible rfl
   rotate_left
   ·simp only [Act.put,sT,sZ,sS,iW,iV]
    rfl
   refine one_ (i:=4) (N:=some 35) #[J,J,J,J,J,O] rfl rfl (by kernel_rfl) (by decide) (fun K hK=>?_)
   refine goes_ Tryd.func25 (by kernel_rfl) rfl #[.slice (some ⟨gA,0,none⟩) 9 9,.string x3] (by rfl) rfl rfl (by (try simp only [mT,mC,mN]);first|done|rfl) ?_
   refine (IC gA _ ?c1).mono ?_
   case c1=>exact C_words KA.out
   rintro e w7 ⟨rfl,hd⟩
   refine ⟨_,rfl,?_⟩
   have hb:=hd.below
   clear hd
   have n0_:=Am (below_step (by repeat (first|(with_reducible first|exact HB.out|apply bL|apply pN|apply bE)|exact HB.out)) hb);have n_KR:=Am (blk_below (g:=gR) (o:=.cells #[.int .u32 0,.string (⟨#[]⟩ : ByteArray),.int .i64 0,.int .i64 0,.int .i64 0,.int .i64 0] 24 (0,0)) (by (with_reducible repeat (first|refine bN ?_ _|refine bD ?_|refine bA ?_ _));exact KR.out) hb);have n_KA:=Am (blk_below (g:=gA) (o:=.cells #[.string (⟨#[114,101,113,117,101,117,101,100]⟩ : ByteArray),.string (⟨#[]⟩ : ByteArray),.string (⟨#[]⟩ : ByteArray),.string (⟨#[]⟩ : ByteArray),.string (⟨#[]⟩ : ByteArray),.string (⟨#[100,111,110,101]⟩ : ByteArray),.string (⟨#[102,97,105,108,101,100]⟩ : ByteArray),.string (⟨#[99,97,110,99,101,108,108,101,100]⟩ : ByteArray),.string (⟨#[108,97,116,101]⟩ : ByteArray)] 50 (0,0)) (by (with_reducible repeat (first|refine bN ?_ _|refine bD ?_|refine bA ?_ _));exact KA.out) hb);have n_S:=Am (Kd.R_below (by (with_reducible repeat (first|apply Kd.R_drewN|apply Kd.R_drew|apply Kd.R_alloc));exact S.out) hb);clear HB;have HB:=n0_;clear n0_;clear KR;have KR:=n_KR;clear n_KR;clear KA;have KA:=n_KA;clear n_KA;clear S;have S:=n_S;clear n_S
   clear hb
   refine hK.out _ _ ((Kd.R_cell ByteArray.empty S.out 3 (by decide) (by simp)).1) (fun hHeld=>?_)
   clear hK K
   refine norm_ (a':=?_) ?_ ?_
   rotate_left
   ·show Act.put _ (some 35) _ = _
    simp only [Act.put,sT,sZ,sS,iW,iV]
    rfl
   refine pure_ (i:=5) (N:=some 9) (v:=?_) (a':=?_) #[J,J,J,J,J,J] rfl rfl (by kernel_rfl) (fun _ _ _ h=>h) (Or.inl ⟨by rfl,?_⟩) ?_ ?_
   rotate_left
   ·intro w'
    go_simp
    with_reducible rfl
   rotate_left
   ·simp only [Act.put,sT,sZ,sS,iW,iV]
    rfl
   refine done_ (by kernel_rfl) ?_
   have xr0 : w7.cell? ⟨gR,0,none⟩ = some (.int .u32 0):=(bC KR.out 0).trans rfl
   have fr0:=bF KR.out 0
   have xr1 : w7.cell? ⟨gR,1,none⟩ = some (.string (⟨#[]⟩ : ByteArray)):=(bC KR.out 1).trans rfl
   have fr1:=bF KR.out 1
   have xr2 : w7.cell? ⟨gR,2,none⟩ = some (.int .i64 0):=(bC KR.out 2).trans rfl
   have fr2:=bF KR.out 2
   have xr3 : w7.cell? ⟨gR,3,none⟩ = some (.int .i64 0):=(bC KR.out 3).trans rfl
   have fr3:=bF KR.out 3
   have xr4 : w7.cell? ⟨gR,4,none⟩ = some (.int .i64 0):=(bC KR.out 4).trans rfl
   have fr4:=bF KR.out 4
   have xr5 : w7.cell? ⟨gR,5,none⟩ = some (.int .i64 0):=(bC KR.out 5).trans rfl
   have fr5:=bF KR.out 5
   go_wp2
   try rw [Exit.noGoto_ret]
   refine bodyPost_ret (results_ct rfl _ _ gR 24 #[.int .u32 0,.string (⟨#[]⟩ : ByteArray),.int .i64 0,.int .i64 0,.int .i64 0,.int .i64 0] (0,0) _ rfl (put6 (by (with_reducible repeat (first|refine bN ?_ _|refine bD ?_|refine bA ?_ _));exact KR.out) (.int .u32 0) (.string (⟨#[]⟩ : ByteArray)) (.int .i64 0) (.int .i64 0) (.int .i64 0) (.int .i64 0)) Tryd.underlying24 rfl (by kernel_rfl)) rfl ?_
   exact ⟨rfl,below6 (by repeat (first|(with_reducible first|exact HB.out|apply bL|apply pN|apply bE)|exact HB.out)) GEgR.out (.int .u32 0) (.string (⟨#[]⟩ : ByteArray)) (.int .i64 0) (.int .i64 0) (.int .i64 0) (.int .i64 0)⟩
  rw [if_neg g1] at h
  by_cases g2 : x3.toList = []
  ·rw [if_pos g2] at h
   have e2 : x3.toList.isEmpty = true:=by rw [g2];rfl
   clear g2
   simp only [Option.some.injEq,Prod.mk.injEq] at h
   obtain ⟨rfl,rfl,rfl,rfl,rfl,rfl,rfl⟩:=h
   go_enter Tryd.func10,Tryd.ntmps10
   go_wp2_with (first|((with_reducible refine gD (N:=2) rfl ?_);refine box_event ?hg (N:=2) ?hd (cs:=#[.int .u32 0,.string (⟨#[]⟩ : ByteArray),.int .i64 0,.int .i64 0,.int .i64 0,.int .i64 0]) (t:=24) ?hr ?_;(case hd=>rfl);(case hg=>rfl);(case hr=>first|(go_simp;done)|(go_simp;rfl));intro gR hg w1 hbox hb;have GEgR : Aside0 (w.heap.size≤gR):=Am (by rw [hg];exact (bZ (by repeat (first|(with_reducible first|exact HB.out|apply bL|apply pN|apply bE)|exact HB.out))));have n0_:=Am (below_step (by repeat (first|(with_reducible first|exact HB.out|apply bL|apply pN|apply bE)|exact HB.out)) hb);clear HB;have HB:=n0_;clear n0_;have KR:=Am hbox;clear hb hbox hg;skip)|(go_at_call 23;(with_reducible refine (strings_Split.calls a0 (⟨#[32]⟩ : ByteArray) _ _ ?s1 A1.out).mono ?_);(case s1=>exact Glob.below HG.out (by repeat (first|(with_reducible first|exact HB.out|apply bL|apply pN|apply bE)|exact HB.out)));rintro e w2 ⟨v,rfl,q0,hb⟩;have S:=Am (Kd.R_lower q0 (bZ (by repeat (first|(with_reducible first|exact HB.out|apply bL|apply pN|apply bE)|exact HB.out))));clear q0;have n0_:=Am (below_step (by repeat (first|(with_reducible first|exact HB.out|apply bL|apply pN|apply bE)|exact HB.out)) hb);have n_KR:=Am (blk_below (g:=gR) (o:=.cells #[.int .u32 0,.string (⟨#[]⟩ : ByteArray),.int .i64 0,.int .i64 0,.int .i64 0,.int .i64 0] 24 (0,0)) (by (with_reducible repeat (first|refine bN ?_ _|refine bD ?_|refine bA ?_ _));exact KR.out) hb);clear HB;have HB:=n0_;clear n0_;clear KR;have KR:=n_KR;clear n_KR;obtain ⟨gv,cv,hv,_,_,_⟩:=Kd.R_form S.out (Nat.zero_lt_succ _);obtain rfl : v = .slice (some ⟨gv,0,none⟩) 5 cv:=hv;have z2 : w2.cell? ⟨gv,2,none⟩ = some (.string x2):=(Kd.R_cell ByteArray.empty S.out 2 (by decide) (by simp)).1;clear hb)|(go_at_call 24;(with_reducible refine (strings_Cut.calls x2 (⟨#[120]⟩ : ByteArray) wk sc _ _ ?s1 A2.out).mono ?_);(case s1=>exact Glob.below HG.out (by repeat (first|(with_reducible first|exact HB.out|apply bL|apply pN|apply bE)|exact HB.out)));rintro e w3 ⟨rfl,hb⟩;have n0_:=Am (below_step (by repeat (first|(with_reducible first|exact HB.out|apply bL|apply pN|apply bE)|exact HB.out)) hb);have n_KR:=Am (blk_below (g:=gR) (o:=.cells #[.int .u32 0,.string (⟨#[]⟩ : ByteArray),.int .i64 0,.int .i64 0,.int .i64 0,.int .i64 0] 24 (0,0)) (by (with_reducible repeat (first|refine bN ?_ _|refine bD ?_|refine bA ?_ _));exact KR.out) hb);have n_S:=Am (Kd.R_below (by (with_reducible repeat (first|apply Kd.R_drewN|apply Kd.R_drew|apply Kd.R_alloc));exact S.out) hb);clear HB;have HB:=n0_;clear n0_;clear KR;have KR:=n_KR;clear n_KR;clear S;have S:=n_S;clear n_S;clear hb)|(go_at_call 22;(with_reducible refine (book_names.calls _ _ _ _ _ _ _ _ _ _ rfl).mono ?_);rintro e w4 ⟨rfl,hb⟩;have n0_:=Am (below_step (by repeat (first|(with_reducible first|exact HB.out|apply bL|apply pN|apply bE)|exact HB.out)) hb);have n_KR:=Am (blk_below (g:=gR) (o:=.cells #[.int .u32 0,.string (⟨#[]⟩ : ByteArray),.int .i64 0,.int .i64 0,.int .i64 0,.int .i64 0] 24 (0,0)) (by (with_reducible repeat (first|refine bN ?_ _|refine bD ?_|refine bA ?_ _));exact KR.out) hb);have n_S:=Am (Kd.R_below (by (with_reducible repeat (first|apply Kd.R_drewN|apply Kd.R_drew|apply Kd.R_alloc));exact S.out) hb);clear HB;have HB:=n0_;clear n0_;clear KR;have KR:=n_KR;clear n_KR;clear S;have S:=n_S;clear n_S;clear hb))
   have w5e : ∃ w5 gA,w5 = w4.alloc (.cells #[.string (⟨#[114,101,113,117,101,117,101,100]⟩ : ByteArray),.string (⟨#[]⟩ : ByteArray),.string (⟨#[]⟩ : ByteArray),.string (⟨#[]⟩ : ByteArray),.string (⟨#[]⟩ : ByteArray),.string (⟨#[100,111,110,101]⟩ : ByteArray),.string (⟨#[102,97,105,108,101,100]⟩ : ByteArray),.string (⟨#[99,97,110,99,101,108,108,101,100]⟩ : ByteArray),.string (⟨#[108,97,116,101]⟩ : ByteArray)] 50)∧gA = w4.heap.size:=⟨_,_,rfl,rfl⟩
   obtain ⟨w5,gA,hw5,hgA⟩:=w5e
   have KA : Aside0 (w5.heap[gA]? = some (.cells #[.string (⟨#[114,101,113,117,101,117,101,100]⟩ : ByteArray),.string (⟨#[]⟩ : ByteArray),.string (⟨#[]⟩ : ByteArray),.string (⟨#[]⟩ : ByteArray),.string (⟨#[]⟩ : ByteArray),.string (⟨#[100,111,110,101]⟩ : ByteArray),.string (⟨#[102,97,105,108,101,100]⟩ : ByteArray),.string (⟨#[99,97,110,99,101,108,108,101,100]⟩ : ByteArray),.string (⟨#[108,97,116,101]⟩ : ByteArray)] 50 (0,0))):=⟨by rw [hw5,hgA];exact blk_new w4 _⟩
   have n_KR : Aside0 (w5.heap[gR]? = some (.cells #[.int .u32 0,.string (⟨#[]⟩ : ByteArray),.int .i64 0,.int .i64 0,.int .i64 0,.int .i64 0] 24 (0,0))):=⟨by rw [hw5];exact bA KR.out _⟩
   have n_S : Aside0 (Kd.R Kd.string 9 w5 _ _ _ _):=⟨by rw [hw5];exact Kd.R_alloc S.out _⟩
   have n_HB : Aside0 (Below w.heap.size w w5):=⟨by rw [hw5];exact bL HB.out _⟩
   rw [← hw5,← hgA]
   clear KR S HB hw5 hgA
   have KR:=n_KR
   have S:=n_S
   have HB:=n_HB
   clear n_KR n_S n_HB
   have z3 : w5.cell? ⟨gv,3,none⟩ = some (.string x3):=(Kd.R_cell ByteArray.empty S.out 3 (by decide) (by simp)).1
   have n_:=Am (bD KR.out)
   clear KR
   have KR:=n_
   clear n_
   have n_:=Am (bD KA.out)
   clear KA
   have KA:=n_
   clear n_
   have n_:=Am (Kd.R_drew S.out)
   clear S
   have S:=n_
   clear n_
   have n_:=Am (bE HB.out)
   clear HB
   have HB:=n_
   clear n_
   refine start_ (n:=6) (S:=fun w'=>w'.cell? ⟨gv,3,none⟩ = some (.string x3)) (ds:=[]) #[O,O,O,O,O,O] (by kernel_rfl) rfl rfl z3 (fun hHeld=>?_)
   generalize w5.drew = w6 at KR KA S HB hHeld ⊢
   refine pure_ (i:=0) (N:=some 31) (v:=?_) (a':=?_) #[J,O,O,O,O,O] rfl rfl (by kernel_rfl) (fun _ _ _ h=>h) (Or.inl ⟨by rfl,?_⟩) ?_ ?_
   rotate_left
   ·intro w'
    go_simp
    with_reducible rfl
   rotate_left
   ·simp only [Act.put,sT,sZ,sS,iW,iV]
    rfl
   refine pure_ (i:=1) (N:=some 32) (v:=?_) (a':=?_) #[J,J,O,O,O,O] rfl rfl (by kernel_rfl) (fun _ _ _ h=>h) (Or.inl ⟨by rfl,?_⟩) ?_ ?_
   rotate_left
   ·intro w'
    go_simp
    with_reducible rfl
   rotate_left
   ·simp only [Act.put,sT,sZ,sS,iW,iV]
    rfl
   refine pure_ (i:=2) (N:=some 33) (v:=?_) (a':=?_) #[J,J,J,O,O,O] rfl rfl (by kernel_rfl) (fun _ _ _ h=>h) (Or.inl ⟨by rfl,?_⟩) ?_ ?_
   rotate_left
   ·intro w'
    go_simp
    with_reducible rfl
   rotate_left
   ·simp only [Act.put,sT,sZ,sS,iW,iV]
    rfl
   refine take_ (i:=3) (N:=some 34) (v:=?_) (a':=?_) #[J,J,J,J,O,O] rfl rfl (by kernel_rfl) (fun _ _ _ h=>h) (Or.inl ⟨by rfl,?_⟩) hHeld ?_ ?_
   rotate_left
   ·rintro w' s0
    go_simp
    with_reducible rfl
   rotate_left
   ·simp only [Act.put,sT,sZ,sS,iW,iV]
    rfl
   refine one_ (i:=4) (N:=some 35) #[J,J,J,J,J,O] rfl rfl (by kernel_rfl) (by decide) (fun K hK=>?_)
   refine goes_ Tryd.func25 (by kernel_rfl) rfl #[.slice (some ⟨gA,0,none⟩) 9 9,.string x3] (by rfl) rfl rfl (by (try simp only [mT,mC,mN]);first|done|rfl) ?_
   refine (IC gA _ ?c1).mono ?_
   case c1=>exact C_words KA.out
   rintro e w7 ⟨rfl,hd⟩
   refine ⟨_,rfl,?_⟩
   have hb:=hd.below
   clear hd
   have n0_:=Am (below_step (by repeat (first|(with_reducible first|exact HB.out|apply bL|apply pN|apply bE)|exact HB.out)) hb);have n_KR:=Am (blk_below (g:=gR) (o:=.cells #[.int .u32 0,.string (⟨#[]⟩ : ByteArray),.int .i64 0,.int .i64 0,.int .i64 0,.int .i64 0] 24 (0,0)) (by (with_reducible repeat (first|refine bN ?_ _|refine bD ?_|refine bA ?_ _));exact KR.out) hb);have n_KA:=Am (blk_below (g:=gA) (o:=.cells #[.string (⟨#[114,101,113,117,101,117,101,100]⟩ : ByteArray),.string (⟨#[]⟩ : ByteArray),.string (⟨#[]⟩ : ByteArray),.string (⟨#[]⟩ : ByteArray),.string (⟨#[]⟩ : ByteArray),.string (⟨#[100,111,110,101]⟩ : ByteArray),.string (⟨#[102,97,105,108,101,100]⟩ : ByteArray),.string (⟨#[99,97,110,99,101,108,108,101,100]⟩ : ByteArray),.string (⟨#[108,97,116,101]⟩ : ByteArray)] 50 (0,0)) (by (with_reducible repeat (first|refine bN ?_ _|refine bD ?_|refine bA ?_ _));exact KA.out) hb);have n_S:=Am (Kd.R_below (by (with_reducible repeat (first|apply Kd.R_drewN|apply Kd.R_drew|apply Kd.R_alloc));exact S.out) hb);clear HB;have HB:=n0_;clear n0_;clear KR;have KR:=n_KR;clear n_KR;clear KA;have KA:=n_KA;clear n_KA;clear S;have S:=n_S;clear n_S
   clear hb
   refine hK.out _ _ ((Kd.R_cell ByteArray.empty S.out 3 (by decide) (by simp)).1) (fun hHeld=>?_)
   clear hK K
   refine norm_ (a':=?_) ?_ ?_
   rotate_left
   ·show Act.put _ (some 35) _ = _
    simp only [Act.put,sT,sZ,sS,iW,iV]
    rfl
   refine pure_ (i:=5) (N:=some 9) (v:=?_) (a':=?_) #[J,J,J,J,J,J] rfl rfl (by kernel_rfl) (fun _ _ _ h=>h) (Or.inl ⟨by rfl,?_⟩) ?_ ?_
   rotate_left
   ·intro w'
    go_simp
    with_reducible rfl
   rotate_left
   ·simp only [Act.put,sT,sZ,sS,iW,iV]
    rfl
   refine done_ (by kernel_rfl) ?_
   have xr0 : w7.cell? ⟨gR,0,none⟩ = some (.int .u32 0):=(bC KR.out 0).trans rfl
   have fr0:=bF KR.out 0
   have xr1 : w7.cell? ⟨gR,1,none⟩ = some (.string (⟨#[]⟩ : ByteArray)):=(bC KR.out 1).trans rfl
   have fr1:=bF KR.out 1
   have xr2 : w7.cell? ⟨gR,2,none⟩ = some (.int .i64 0):=(bC KR.out 2).trans rfl
   have fr2:=bF KR.out 2
   have xr3 : w7.cell? ⟨gR,3,none⟩ = some (.int .i64 0):=(bC KR.out 3).trans rfl
   have fr3:=bF KR.out 3
   have xr4 : w7.cell? ⟨gR,4,none⟩ = some (.int .i64 0):=(bC KR.out 4).trans rfl
   have fr4:=bF KR.out 4
   have xr5 : w7.cell? ⟨gR,5,none⟩ = some (.int .i64 0):=(bC KR.out 5).trans rfl
   have fr5:=bF KR.out 5
   have y3 : w7.cell? ⟨gv,3,none⟩ = some (.string x3):=(Kd.R_cell ByteArray.empty S.out 3 (by decide) (by simp)).1
   go_wp2
   try rw [Exit.noGoto_ret]
   refine bodyPost_ret (results_ct rfl _ _ gR 24 #[.int .u32 0,.string (⟨#[]⟩ : ByteArray),.int .i64 0,.int .i64 0,.int .i64 0,.int .i64 0] (0,0) _ rfl (put6 (by (with_reducible repeat (first|refine bN ?_ _|refine bD ?_|refine bA ?_ _));exact KR.out) (.int .u32 0) (.string (⟨#[]⟩ : ByteArray)) (.int .i64 0) (.int .i64 0) (.int .i64 0) (.int .i64 0)) Tryd.underlying24 rfl (by kernel_rfl)) rfl ?_
   exact ⟨rfl,below6 (by repeat (first|(with_reducible first|exact HB.out|apply bL|apply pN|apply bE)|exact HB.out)) GEgR.out (.int .u32 0) (.string (⟨#[]⟩ : ByteArray)) (.int .i64 0) (.int .i64 0) (.int .i64 0) (.int .i64 0)⟩
  rw [if_neg g2] at h
  have e2 : x3.toList.isEmpty = false:=by
   cases hq : x3.toList with
   | nil=>exact absurd hq g2
   | cons _ _=>rfl
  clear g2
  replace h:=oB h
  obtain ⟨t,A4',h⟩:=h
  have A4:=Am A4'
  clear A4'
  cases t with
  | false =>
   rw [if_neg (by simp)] at h
   simp only [Option.some.injEq,Prod.mk.injEq] at h
   obtain ⟨rfl,rfl,rfl,rfl,rfl,rfl,rfl⟩:=h
   go_enter Tryd.func10,Tryd.ntmps10
   go_wp2_with (first|((with_reducible refine gD (N:=2) rfl ?_);refine box_event ?hg (N:=2) ?hd (cs:=#[.int .u32 0,.string (⟨#[]⟩ : ByteArray),.int .i64 0,.int .i64 0,.int .i64 0,.int .i64 0]) (t:=24) ?hr ?_;(case hd=>rfl);(case hg=>rfl);(case hr=>first|(go_simp;done)|(go_simp;rfl));intro gR hg w1 hbox hb;have GEgR : Aside0 (w.heap.size≤gR):=Am (by rw [hg];exact (bZ (by repeat (first|(with_reducible first|exact HB.out|apply bL|apply pN|apply bE)|exact HB.out))));have n0_:=Am (below_step (by repeat (first|(with_reducible first|exact HB.out|apply bL|apply pN|apply bE)|exact HB.out)) hb);clear HB;have HB:=n0_;clear n0_;have KR:=Am hbox;clear hb hbox hg;skip)|(go_at_call 23;(with_reducible refine (strings_Split.calls a0 (⟨#[32]⟩ : ByteArray) _ _ ?s1 A1.out).mono ?_);(case s1=>exact Glob.below HG.out (by repeat (first|(with_reducible first|exact HB.out|apply bL|apply pN|apply bE)|exact HB.out)));rintro e w2 ⟨v,rfl,q0,hb⟩;have S:=Am (Kd.R_lower q0 (bZ (by repeat (first|(with_reducible first|exact HB.out|apply bL|apply pN|apply bE)|exact HB.out))));clear q0;have n0_:=Am (below_step (by repeat (first|(with_reducible first|exact HB.out|apply bL|apply pN|apply bE)|exact HB.out)) hb);have n_KR:=Am (blk_below (g:=gR) (o:=.cells #[.int .u32 0,.string (⟨#[]⟩ : ByteArray),.int .i64 0,.int .i64 0,.int .i64 0,.int .i64 0] 24 (0,0)) (by (with_reducible repeat (first|refine bN ?_ _|refine bD ?_|refine bA ?_ _));exact KR.out) hb);clear HB;have HB:=n0_;clear n0_;clear KR;have KR:=n_KR;clear n_KR;obtain ⟨gv,cv,hv,_,_,_⟩:=Kd.R_form S.out (Nat.zero_lt_succ _);obtain rfl : v = .slice (some ⟨gv,0,none⟩) 5 cv:=hv;have z2 : w2.cell? ⟨gv,2,none⟩ = some (.string x2):=(Kd.R_cell ByteArray.empty S.out 2 (by decide) (by simp)).1;clear hb)|(go_at_call 24;(with_reducible refine (strings_Cut.calls x2 (⟨#[120]⟩ : ByteArray) wk sc _ _ ?s1 A2.out).mono ?_);(case s1=>exact Glob.below HG.out (by repeat (first|(with_reducible first|exact HB.out|apply bL|apply pN|apply bE)|exact HB.out)));rintro e w3 ⟨rfl,hb⟩;have n0_:=Am (below_step (by repeat (first|(with_reducible first|exact HB.out|apply bL|apply pN|apply bE)|exact HB.out)) hb);have n_KR:=Am (blk_below (g:=gR) (o:=.cells #[.int .u32 0,.string (⟨#[]⟩ : ByteArray),.int .i64 0,.int .i64 0,.int .i64 0,.int .i64 0] 24 (0,0)) (by (with_reducible repeat (first|refine bN ?_ _|refine bD ?_|refine bA ?_ _));exact KR.out) hb);have n_S:=Am (Kd.R_below (by (with_reducible repeat (first|apply Kd.R_drewN|apply Kd.R_drew|apply Kd.R_alloc));exact S.out) hb);clear HB;have HB:=n0_;clear n0_;clear KR;have KR:=n_KR;clear n_KR;clear S;have S:=n_S;clear n_S;clear hb)|(go_at_call 22;(with_reducible refine (book_names.calls _ _ _ _ _ _ _ _ _ _ rfl).mono ?_);rintro e w4 ⟨rfl,hb⟩;have n0_:=Am (below_step (by repeat (first|(with_reducible first|exact HB.out|apply bL|apply pN|apply bE)|exact HB.out)) hb);have n_KR:=Am (blk_below (g:=gR) (o:=.cells #[.int .u32 0,.string (⟨#[]⟩ : ByteArray),.int .i64 0,.int .i64 0,.int .i64 0,.int .i64 0] 24 (0,0)) (by (with_reducible repeat (first|refine bN ?_ _|refine bD ?_|refine bA ?_ _));exact KR.out) hb);have n_S:=Am (Kd.R_below (by (with_reducible repeat (first|apply Kd.R_drewN|apply Kd.R_drew|apply Kd.R_alloc));exact S.out) hb);clear HB;have HB:=n0_;clear n0_;clear KR;have KR:=n_KR;clear n_KR;clear S;have S:=n_S;clear n_S;clear hb))
   have w5e : ∃ w5 gA,w5 = w4.alloc (.cells #[.string (⟨#[114,101,113,117,101,117,101,100]⟩ : ByteArray),.string (⟨#[]⟩ : ByteArray),.string (⟨#[]⟩ : ByteArray),.string (⟨#[]⟩ : ByteArray),.string (⟨#[]⟩ : ByteArray),.string (⟨#[100,111,110,101]⟩ : ByteArray),.string (⟨#[102,97,105,108,101,100]⟩ : ByteArray),.string (⟨#[99,97,110,99,101,108,108,101,100]⟩ : ByteArray),.string (⟨#[108,97,116,101]⟩ : ByteArray)] 50)∧gA = w4.heap.size:=⟨_,_,rfl,rfl⟩
   obtain ⟨w5,gA,hw5,hgA⟩:=w5e
   have KA : Aside0 (w5.heap[gA]? = some (.cells #[.string (⟨#[114,101,113,117,101,117,101,100]⟩ : ByteArray),.string (⟨#[]⟩ : ByteArray),.string (⟨#[]⟩ : ByteArray),.string (⟨#[]⟩ : ByteArray),.string (⟨#[]⟩ : ByteArray),.string (⟨#[100,111,110,101]⟩ : ByteArray),.string (⟨#[102,97,105,108,101,100]⟩ : ByteArray),.string (⟨#[99,97,110,99,101,108,108,101,100]⟩ : ByteArray),.string (⟨#[108,97,116,101]⟩ : ByteArray)] 50 (0,0))):=⟨by rw [hw5,hgA];exact blk_new w4 _⟩
   have n_KR : Aside0 (w5.heap[gR]? = some (.cells #[.int .u32 0,.string (⟨#[]⟩ : ByteArray),.int .i64 0,.int .i64 0,.int .i64 0,.int .i64 0] 24 (0,0))):=⟨by rw [hw5];exact bA KR.out _⟩
   have n_S : Aside0 (Kd.R Kd.string 9 w5 _ _ _ _):=⟨by rw [hw5];exact Kd.R_alloc S.out _⟩
   have n_HB : Aside0 (Below w.heap.size w w5):=⟨by rw [hw5];exact bL HB.out _⟩
   rw [← hw5,← hgA]
   clear KR S HB hw5 hgA
   have KR:=n_KR
   have S:=n_S
   have HB:=n_HB
   clear n_KR n_S n_HB
   have z3 : w5.cell? ⟨gv,3,none⟩ = some (.string x3):=(Kd.R_cell ByteArray.empty S.out 3 (by decide) (by simp)).1
   have n_:=Am (bD KR.out)
   clear KR
   have KR:=n_
   clear n_
   have n_:=Am (bD KA.out)
   clear KA
   have KA:=n_
   clear n_
   have n_:=Am (Kd.R_drew S.out)
   clear S
   have S:=n_
   clear n_
   have n_:=Am (bE HB.out)
   clear HB
   have HB:=n_
   clear n_
   refine start_ (n:=6) (S:=fun w'=>w'.cell? ⟨gv,3,none⟩ = some (.string x3)) (ds:=[]) #[O,O,O,O,O,O] (by kernel_rfl) rfl rfl z3 (fun hHeld=>?_)
   generalize w5.drew = w6 at KR KA S HB hHeld ⊢
   refine pure_ (i:=0) (N:=some 31) (v:=?_) (a':=?_) #[J,O,O,O,O,O] rfl rfl (by kernel_rfl) (fun _ _ _ h=>h) (Or.inl ⟨by rfl,?_⟩) ?_ ?_
   rotate_left
   ·intro w'
    go_simp
    with_reducible rfl
   rotate_left
   ·simp only [Act.put,sT,sZ,sS,iW,iV]
    rfl
   refine pure_ (i:=1) (N:=some 32) (v:=?_) (a':=?_) #[J,J,O,O,O,O] rfl rfl (by kernel_rfl) (fun _ _ _ h=>h) (Or.inl ⟨by rfl,?_⟩) ?_ ?_
   rotate_left
   ·intro w'
    go_simp
    with_reducible rfl
   rotate_left
   ·simp only [Act.put,sT,sZ,sS,iW,iV]
    rfl
   refine pure_ (i:=2) (N:=some 33) (v:=?_) (a':=?_) #[J,J,J,O,O,O] rfl rfl (by kernel_rfl) (fun _ _ _ h=>h) (Or.inl ⟨by rfl,?_⟩) ?_ ?_
   rotate_left
   ·intro w'
    go_simp
    with_reducible rfl
   rotate_left
   ·simp only [Act.put,sT,sZ,sS,iW,iV]
    rfl
   refine take_ (i:=3) (N:=some 34) (v:=?_) (a':=?_) #[J,J,J,J,O,O] rfl rfl (by kernel_rfl) (fun _ _ _ h=>h) (Or.inl ⟨by rfl,?_⟩) hHeld ?_ ?_
   rotate_left
   ·rintro w' s0
    go_simp
    with_reducible rfl
   rotate_left
   ·simp only [Act.put,sT,sZ,sS,iW,iV]
    rfl
   refine one_ (i:=4) (N:=some 35) #[J,J,J,J,J,O] rfl rfl (by kernel_rfl) (by decide) (fun K hK=>?_)
   refine goes_ Tryd.func25 (by kernel_rfl) rfl #[.slice (some ⟨gA,0,none⟩) 9 9,.string x3] (by rfl) rfl rfl (by (try simp only [mT,mC,mN]);first|done|rfl) ?_
   refine (IC gA _ ?c1).mono ?_
   case c1=>exact C_words KA.out
   rintro e w7 ⟨rfl,hd⟩
   refine ⟨_,rfl,?_⟩
   have hb:=hd.below
   clear hd
   have n0_:=Am (below_step (by repeat (first|(with_reducible first|exact HB.out|apply bL|apply pN|apply bE)|exact HB.out)) hb);have n_KR:=Am (blk_below (g:=gR) (o:=.cells #[.int .u32 0,.string (⟨#[]⟩ : ByteArray),.int .i64 0,.int .i64 0,.int .i64 0,.int .i64 0] 24 (0,0)) (by (with_reducible repeat (first|refine bN ?_ _|refine bD ?_|refine bA ?_ _));exact KR.out) hb);have n_KA:=Am (blk_below (g:=gA) (o:=.cells #[.string (⟨#[114,101,113,117,101,117,101,100]⟩ : ByteArray),.string (⟨#[]⟩ : ByteArray),.string (⟨#[]⟩ : ByteArray),.string (⟨#[]⟩ : ByteArray),.string (⟨#[]⟩ : ByteArray),.string (⟨#[100,111,110,101]⟩ : ByteArray),.string (⟨#[102,97,105,108,101,100]⟩ : ByteArray),.string (⟨#[99,97,110,99,101,108,108,101,100]⟩ : ByteArray),.string (⟨#[108,97,116,101]⟩ : ByteArray)] 50 (0,0)) (by (with_reducible repeat (first|refine bN ?_ _|refine bD ?_|refine bA ?_ _));exact KA.out) hb);have n_S:=Am (Kd.R_below (by (with_reducible repeat (first|apply Kd.R_drewN|apply Kd.R_drew|apply Kd.R_alloc));exact S.out) hb);clear HB;have HB:=n0_;clear n0_;clear KR;have KR:=n_KR;clear n_KR;clear KA;have KA:=n_KA;clear n_KA;clear S;have S:=n_S;clear n_S
   clear hb
   refine hK.out _ _ ((Kd.R_cell ByteArray.empty S.out 3 (by decide) (by simp)).1) (fun hHeld=>?_)
   clear hK K
   refine norm_ (a':=?_) ?_ ?_
   rotate_left
   ·show Act.put _ (some 35) _ = _
    simp only [Act.put,sT,sZ,sS,iW,iV]
    rfl
   refine pure_ (i:=5) (N:=some 9) (v:=?_) (a':=?_) #[J,J,J,J,J,J] rfl rfl (by kernel_rfl) (fun _ _ _ h=>h) (Or.inl ⟨by rfl,?_⟩) ?_ ?_
   rotate_left
   ·intro w'
    go_simp
    with_reducible rfl
   rotate_left
   ·simp only [Act.put,sT,sZ,sS,iW,iV]
    rfl
   refine done_ (by kernel_rfl) ?_
   have y3 : w7.cell? ⟨gv,3,none⟩ = some (.string x3):=(Kd.R_cell ByteArray.empty S.out 3 (by decide) (by simp)).1
   have y1 : w7.cell? ⟨gv,1,none⟩ = some (.string x1):=(Kd.R_cell ByteArray.empty S.out 1 (by decide) (by simp)).1
   go_wp2_with (first|(go_at_call 26;(with_reducible refine (script_Name.calls x1 _ _ ?s1 A4.out).mono ?_);(case s1=>exact Glob.below HG.out (by repeat (first|(with_reducible first|exact HB.out|apply bL|apply pN|apply bE)|exact HB.out)));rintro e w8 ⟨rfl,hb⟩;have n0_:=Am (below_step (by repeat (first|(with_reducible first|exact HB.out|apply bL|apply pN|apply bE)|exact HB.out)) hb);have n_KR:=Am (blk_below (g:=gR) (o:=.cells #[.int .u32 0,.string (⟨#[]⟩ : ByteArray),.int .i64 0,.int .i64 0,.int .i64 0,.int .i64 0] 24 (0,0)) (by (with_reducible repeat (first|refine bN ?_ _|refine bD ?_|refine bA ?_ _));exact KR.out) hb);have n_S:=Am (Kd.R_below (by (with_reducible repeat (first|apply Kd.R_drewN|apply Kd.R_drew|apply Kd.R_alloc));exact S.out) hb);clear HB;have HB:=n0_;clear n0_;clear KR;have KR:=n_KR;clear n_KR;clear S;have S:=n_S;clear n_S;have xr0 : w8.cell? ⟨gR,0,none⟩ = some (.int .u32 0):=(bC KR.out 0).trans rfl;have fr0:=bF KR.out 0;have xr1 : w8.cell? ⟨gR,1,none⟩ = some (.string (⟨#[]⟩ : ByteArray)):=(bC KR.out 1).trans rfl;have fr1:=bF KR.out 1;have xr2 : w8.cell? ⟨gR,2,none⟩ = some (.int .i64 0):=(bC KR.out 2).trans rfl;have fr2:=bF KR.out 2;have xr3 : w8.cell? ⟨gR,3,none⟩ = some (.int .i64 0):=(bC KR.out 3).trans rfl;have fr3:=bF KR.out 3;have xr4 : w8.cell? ⟨gR,4,none⟩ = some (.int .i64 0):=(bC KR.out 4).trans rfl;have fr4:=bF KR.out 4;have xr5 : w8.cell? ⟨gR,5,none⟩ = some (.int .i64 0):=(bC KR.out 5).trans rfl;have fr5:=bF KR.out 5;clear hb))
   try rw [Exit.noGoto_ret]
   refine bodyPost_ret (results_ct rfl _ _ gR 24 #[.int .u32 0,.string (⟨#[]⟩ : ByteArray),.int .i64 0,.int .i64 0,.int .i64 0,.int .i64 0] (0,0) _ rfl (put6 (by (with_reducible repeat (first|refine bN ?_ _|refine bD ?_|refine bA ?_ _));exact KR.out) (.int .u32 0) (.string (⟨#[]⟩ : ByteArray)) (.int .i64 0) (.int .i64 0) (.int .i64 0) (.int .i64 0)) Tryd.underlying24 rfl (by kernel_rfl)) rfl ?_
   exact ⟨rfl,below6 (by repeat (first|(with_reducible first|exact HB.out|apply bL|apply pN|apply bE)|exact HB.out)) GEgR.out (.int .u32 0) (.string (⟨#[]⟩ : ByteArray)) (.int .i64 0) (.int .i64 0) (.int .i64 0) (.int .i64 0)⟩
  | true =>
   rw [if_pos rfl] at h
   replace h:=oB h
   obtain ⟨nn,A5',h⟩:=h
   have A5:=Am A5'
   clear A5'
   have HH:=Am h
   clear h
   go_enter Tryd.func10,Tryd.ntmps10
   go_wp2_with (first|((with_reducible refine gD (N:=2) rfl ?_);refine box_event ?hg (N:=2) ?hd (cs:=#[.int .u32 0,.string (⟨#[]⟩ : ByteArray),.int .i64 0,.int .i64 0,.int .i64 0,.int .i64 0]) (t:=24) ?hr ?_;(case hd=>rfl);(case hg=>rfl);(case hr=>first|(go_simp;done)|(go_simp;rfl));intro gR hg w1 hbox hb;have GEgR : Aside0 (w.heap.size≤gR):=Am (by rw [hg];exact (bZ (by repeat (first|(with_reducible first|exact HB.out|apply bL|apply pN|apply bE)|exact HB.out))));have n0_:=Am (below_step (by repeat (first|(with_reducible first|exact HB.out|apply bL|apply pN|apply bE)|exact HB.out)) hb);clear HB;have HB:=n0_;clear n0_;have KR:=Am hbox;clear hb hbox hg;skip)|(go_at_call 23;(with_reducible refine (strings_Split.calls a0 (⟨#[32]⟩ : ByteArray) _ _ ?s1 A1.out).mono ?_);(case s1=>exact Glob.below HG.out (by repeat (first|(with_reducible first|exact HB.out|apply bL|apply pN|apply bE)|exact HB.out)));rintro e w2 ⟨v,rfl,q0,hb⟩;have S:=Am (Kd.R_lower q0 (bZ (by repeat (first|(with_reducible first|exact HB.out|apply bL|apply pN|apply bE)|exact HB.out))));clear q0;have n0_:=Am (below_step (by repeat (first|(with_reducible first|exact HB.out|apply bL|apply pN|apply bE)|exact HB.out)) hb);have n_KR:=Am (blk_below (g:=gR) (o:=.cells #[.int .u32 0,.string (⟨#[]⟩ : ByteArray),.int .i64 0,.int .i64 0,.int .i64 0,.int .i64 0] 24 (0,0)) (by (with_reducible repeat (first|refine bN ?_ _|refine bD ?_|refine bA ?_ _));exact KR.out) hb);clear HB;have HB:=n0_;clear n0_;clear KR;have KR:=n_KR;clear n_KR;obtain ⟨gv,cv,hv,_,_,_⟩:=Kd.R_form S.out (Nat.zero_lt_succ _);obtain rfl : v = .slice (some ⟨gv,0,none⟩) 5 cv:=hv;have z2 : w2.cell? ⟨gv,2,none⟩ = some (.string x2):=(Kd.R_cell ByteArray.empty S.out 2 (by decide) (by simp)).1;clear hb)|(go_at_call 24;(with_reducible refine (strings_Cut.calls x2 (⟨#[120]⟩ : ByteArray) wk sc _ _ ?s1 A2.out).mono ?_);(case s1=>exact Glob.below HG.out (by repeat (first|(with_reducible first|exact HB.out|apply bL|apply pN|apply bE)|exact HB.out)));rintro e w3 ⟨rfl,hb⟩;have n0_:=Am (below_step (by repeat (first|(with_reducible first|exact HB.out|apply bL|apply pN|apply bE)|exact HB.out)) hb);have n_KR:=Am (blk_below (g:=gR) (o:=.cells #[.int .u32 0,.string (⟨#[]⟩ : ByteArray),.int .i64 0,.int .i64 0,.int .i64 0,.int .i64 0] 24 (0,0)) (by (with_reducible repeat (first|refine bN ?_ _|refine bD ?_|refine bA ?_ _));exact KR.out) hb);have n_S:=Am (Kd.R_below (by (with_reducible repeat (first|apply Kd.R_drewN|apply Kd.R_drew|apply Kd.R_alloc));exact S.out) hb);clear HB;have HB:=n0_;clear n0_;clear KR;have KR:=n_KR;clear n_KR;clear S;have S:=n_S;clear n_S;clear hb)|(go_at_call 22;(with_reducible refine (book_names.calls _ _ _ _ _ _ _ _ _ _ rfl).mono ?_);rintro e w4 ⟨rfl,hb⟩;have n0_:=Am (below_step (by repeat (first|(with_reducible first|exact HB.out|apply bL|apply pN|apply bE)|exact HB.out)) hb);have n_KR:=Am (blk_below (g:=gR) (o:=.cells #[.int .u32 0,.string (⟨#[]⟩ : ByteArray),.int .i64 0,.int .i64 0,.int .i64 0,.int .i64 0] 24 (0,0)) (by (with_reducible repeat (first|refine bN ?_ _|refine bD ?_|refine bA ?_ _));exact KR.out) hb);have n_S:=Am (Kd.R_below (by (with_reducible repeat (first|apply Kd.R_drewN|apply Kd.R_drew|apply Kd.R_alloc));exact S.out) hb);clear HB;have HB:=n0_;clear n0_;clear KR;have KR:=n_KR;clear n_KR;clear S;have S:=n_S;clear n_S;clear hb))
   have w5e : ∃ w5 gA,w5 = w4.alloc (.cells #[.string (⟨#[114,101,113,117,101,117,101,100]⟩ : ByteArray),.string (⟨#[]⟩ : ByteArray),.string (⟨#[]⟩ : ByteArray),.string (⟨#[]⟩ : ByteArray),.string (⟨#[]⟩ : ByteArray),.string (⟨#[100,111,110,101]⟩ : ByteArray),.string (⟨#[102,97,105,108,101,100]⟩ : ByteArray),.string (⟨#[99,97,110,99,101,108,108,101,100]⟩ : ByteArray),.string (⟨#[108,97,116,101]⟩ : ByteArray)] 50)∧gA = w4.heap.size:=⟨_,_,rfl,rfl⟩
   obtain ⟨w5,gA,hw5,hgA⟩:=w5e
   have KA : Aside0 (w5.heap[gA]? = some (.cells #[.string (⟨#[114,101,113,117,101,117,101,100]⟩ : ByteArray),.string (⟨#[]⟩ : ByteArray),.string (⟨#[]⟩ : ByteArray),.string (⟨#[]⟩ : ByteArray),.string (⟨#[]⟩ : ByteArray),.string (⟨#[100,111,110,101]⟩ : ByteArray),.string (⟨#[102,97,105,108,101,100]⟩ : ByteArray),.string (⟨#[99,97,110,99,101,108,108,101,100]⟩ : ByteArray),.string (⟨#[108,97,116,101]⟩ : ByteArray)] 50 (0,0))):=⟨by rw [hw5,hgA];exact blk_new w4 _⟩
   have n_KR : Aside0 (w5.heap[gR]? = some (.cells #[.int .u32 0,.string (⟨#[]⟩ : ByteArray),.int .i64 0,.int .i64 0,.int .i64 0,.int .i64 0] 24 (0,0))):=⟨by rw [hw5];exact bA KR.out _⟩
   have n_S : Aside0 (Kd.R Kd.string 9 w5 _ _ _ _):=⟨by rw [hw5];exact Kd.R_alloc S.out _⟩
   have n_HB : Aside0 (Below w.heap.size w w5):=⟨by rw [hw5];exact bL HB.out _⟩
   rw [← hw5,← hgA]
   clear KR S HB hw5 hgA
   have KR:=n_KR
   have S:=n_S
   have HB:=n_HB
   clear n_KR n_S n_HB
   have z3 : w5.cell? ⟨gv,3,none⟩ = some (.string x3):=(Kd.R_cell ByteArray.empty S.out 3 (by decide) (by simp)).1
   have n_:=Am (bD KR.out)
   clear KR
   have KR:=n_
   clear n_
   have n_:=Am (bD KA.out)
   clear KA
   have KA:=n_
   clear n_
   have n_:=Am (Kd.R_drew S.out)
   clear S
   have S:=n_
   clear n_
   have n_:=Am (bE HB.out)
   clear HB
   have HB:=n_
   clear n_
   refine start_ (n:=6) (S:=fun w'=>w'.cell? ⟨gv,3,none⟩ = some (.string x3)) (ds:=[]) #[O,O,O,O,O,O] (by kernel_rfl) rfl rfl z3 (fun hHeld=>?_)
   generalize w5.drew = w6 at KR KA S HB hHeld ⊢
   refine pure_ (i:=0) (N:=some 31) (v:=?_) (a':=?_) #[J,O,O,O,O,O] rfl rfl (by kernel_rfl) (fun _ _ _ h=>h) (Or.inl ⟨by rfl,?_⟩) ?_ ?_
   rotate_left
   ·intro w'
    go_simp
    with_reducible rfl
   rotate_left
   ·simp only [Act.put,sT,sZ,sS,iW,iV]
    rfl
   refine pure_ (i:=1) (N:=some 32) (v:=?_) (a':=?_) #[J,J,O,O,O,O] rfl rfl (by kernel_rfl) (fun _ _ _ h=>h) (Or.inl ⟨by rfl,?_⟩) ?_ ?_
   rotate_left
   ·intro w'
    go_simp
    with_reducible rfl
   rotate_left
   ·simp only [Act.put,sT,sZ,sS,iW,iV]
    rfl
   refine pure_ (i:=2) (N:=some 33) (v:=?_) (a':=?_) #[J,J,J,O,O,O] rfl rfl (by kernel_rfl) (fun _ _ _ h=>h) (Or.inl ⟨by rfl,?_⟩) ?_ ?_
   rotate_left
   ·intro w'
    go_simp
    with_reducible rfl
   rotate_left
   ·simp only [Act.put,sT,sZ,sS,iW,iV]
    rfl
   refine take_ (i:=3) (N:=some 34) (v:=?_) (a':=?_) #[J,J,J,J,O,O] rfl rfl (by kernel_rfl) (fun _ _ _ h=>h) (Or.inl ⟨by rfl,?_⟩) hHeld ?_ ?_
   rotate_left
   ·rintro w' s0
    go_simp
    with_reducible rfl
   rotate_left
   ·simp only [Act.put,sT,sZ,sS,iW,iV]
    rfl
   refine one_ (i:=4) (N:=some 35) #[J,J,J,J,J,O] rfl rfl (by kernel_rfl) (by decide) (fun K hK=>?_)
   refine goes_ Tryd.func25 (by kernel_rfl) rfl #[.slice (some ⟨gA,0,none⟩) 9 9,.string x3] (by rfl) rfl rfl (by (try simp only [mT,mC,mN]);first|done|rfl) ?_
   refine (IC gA _ ?c1).mono ?_
   case c1=>exact C_words KA.out
   rintro e w7 ⟨rfl,hd⟩
   refine ⟨_,rfl,?_⟩
   have hb:=hd.below
   clear hd
   have n0_:=Am (below_step (by repeat (first|(with_reducible first|exact HB.out|apply bL|apply pN|apply bE)|exact HB.out)) hb);have n_KR:=Am (blk_below (g:=gR) (o:=.cells #[.int .u32 0,.string (⟨#[]⟩ : ByteArray),.int .i64 0,.int .i64 0,.int .i64 0,.int .i64 0] 24 (0,0)) (by (with_reducible repeat (first|refine bN ?_ _|refine bD ?_|refine bA ?_ _));exact KR.out) hb);have n_KA:=Am (blk_below (g:=gA) (o:=.cells #[.string (⟨#[114,101,113,117,101,117,101,100]⟩ : ByteArray),.string (⟨#[]⟩ : ByteArray),.string (⟨#[]⟩ : ByteArray),.string (⟨#[]⟩ : ByteArray),.string (⟨#[]⟩ : ByteArray),.string (⟨#[100,111,110,101]⟩ : ByteArray),.string (⟨#[102,97,105,108,101,100]⟩ : ByteArray),.string (⟨#[99,97,110,99,101,108,108,101,100]⟩ : ByteArray),.string (⟨#[108,97,116,101]⟩ : ByteArray)] 50 (0,0)) (by (with_reducible repeat (first|refine bN ?_ _|refine bD ?_|refine bA ?_ _));exact KA.out) hb);have n_S:=Am (Kd.R_below (by (with_reducible repeat (first|apply Kd.R_drewN|apply Kd.R_drew|apply Kd.R_alloc));exact S.out) hb);clear HB;have HB:=n0_;clear n0_;clear KR;have KR:=n_KR;clear n_KR;clear KA;have KA:=n_KA;clear n_KA;clear S;have S:=n_S;clear n_S
   clear hb
   refine hK.out _ _ ((Kd.R_cell ByteArray.empty S.out 3 (by decide) (by simp)).1) (fun hHeld=>?_)
   clear hK K
   refine norm_ (a':=?_) ?_ ?_
   rotate_left
   ·show Act.put _ (some 35) _ = _
    simp only [Act.put,sT,sZ,sS,iW,iV]
    rfl
   refine pure_ (i:=5) (N:=some 9) (v:=?_) (a':=?_) #[J,J,J,J,J,J] rfl rfl (by kernel_rfl) (fun _ _ _ h=>h) (Or.inl ⟨by rfl,?_⟩) ?_ ?_
   rotate_left
   ·intro w'
    go_simp
    with_reducible rfl
   rotate_left
   ·simp only [Act.put,sT,sZ,sS,iW,iV]
    rfl
   refine done_ (by kernel_rfl) ?_
   have y3 : w7.cell? ⟨gv,3,none⟩ = some (.string x3):=(Kd.R_cell ByteArray.empty S.out 3 (by decide) (by simp)).1
   have y1 : w7.cell? ⟨gv,1,none⟩ = some (.string x1):=(Kd.R_cell ByteArray.empty S.out 1 (by decide) (by simp)).1
   go_wp2_with (first|(go_at_call 26;(with_reducible refine (script_Name.calls x1 _ _ ?s1 A4.out).mono ?_);(case s1=>exact Glob.below HG.out (by repeat (first|(with_reducible first|exact HB.out|apply bL|apply pN|apply bE)|exact HB.out)));rintro e w8 ⟨rfl,hb⟩;have n0_:=Am (below_step (by repeat (first|(with_reducible first|exact HB.out|apply bL|apply pN|apply bE)|exact HB.out)) hb);have n_KR:=Am (blk_below (g:=gR) (o:=.cells #[.int .u32 0,.string (⟨#[]⟩ : ByteArray),.int .i64 0,.int .i64 0,.int .i64 0,.int .i64 0] 24 (0,0)) (by (with_reducible repeat (first|refine bN ?_ _|refine bD ?_|refine bA ?_ _));exact KR.out) hb);have n_S:=Am (Kd.R_below (by (with_reducible repeat (first|apply Kd.R_drewN|apply Kd.R_drew|apply Kd.R_alloc));exact S.out) hb);clear HB;have HB:=n0_;clear n0_;clear KR;have KR:=n_KR;clear n_KR;clear S;have S:=n_S;clear n_S;have y0 : w8.cell? ⟨gv,0,none⟩ = some (.string x0):=(Kd.R_cell ByteArray.empty S.out 0 (by decide) (by simp)).1;have y4 : w8.cell? ⟨gv,4,none⟩ = some (.string x4):=(Kd.R_cell ByteArray.empty S.out 4 (by decide) (by simp)).1;clear hb))
   have w9e : ∃ w9 gN,w9 = w8.alloc (.cells #[.int .i64 0,.int .i64 0,.int .i64 0,.int .i64 0] 58)∧gN = w8.heap.size:=⟨_,_,rfl,rfl⟩
   obtain ⟨w9,gN,hw9,hgN⟩:=w9e
   have KN : Aside0 (w9.heap[gN]? = some (.cells #[.int .i64 0,.int .i64 0,.int .i64 0,.int .i64 0] 58 (0,0))):=⟨by rw [hw9,hgN];exact blk_new w8 _⟩
   have NE : gR ≠ gN:=by rw [hgN];exact Nat.ne_of_lt (blk_lt KR.out)
   have GEgN : Aside0 (w.heap.size≤gN):=⟨by rw [hgN];exact bZ HB.out⟩
   have n_KR : Aside0 (w9.heap[gR]? = some (.cells #[.int .u32 0,.string (⟨#[]⟩ : ByteArray),.int .i64 0,.int .i64 0,.int .i64 0,.int .i64 0] 24 (0,0))):=⟨by rw [hw9];exact bA KR.out _⟩
   have n_S : Aside0 (Kd.R Kd.string 9 w9 _ _ _ _):=⟨by rw [hw9];exact Kd.R_alloc S.out _⟩
   have n_HB : Aside0 (Below w.heap.size w w9):=⟨by rw [hw9];exact bL HB.out _⟩
   rw [← hw9,← hgN]
   clear KR S HB hw9 hgN
   have KR:=n_KR
   have S:=n_S
   have HB:=n_HB
   clear n_KR n_S n_HB
   have y0 : w9.cell? ⟨gv,0,none⟩ = some (.string x0):=(Kd.R_cell ByteArray.empty S.out 0 (by decide) (by simp)).1
   have y4 : w9.cell? ⟨gv,4,none⟩ = some (.string x4):=(Kd.R_cell ByteArray.empty S.out 4 (by decide) (by simp)).1
   have n_:=Am (bD KR.out)
   clear KR
   have KR:=n_
   clear n_
   have n_:=Am (bD KN.out)
   clear KN
   have KN:=n_
   clear n_
   have n_:=Am (Kd.R_drew S.out)
   clear S
   have S:=n_
   clear n_
   have n_:=Am (bE HB.out)
   clear HB
   have HB:=n_
   clear n_
   refine start_ (n:=10) (S:=fun w'=>w'.cell? ⟨gv,0,none⟩ = some (.string x0)∧w'.cell? ⟨gv,4,none⟩ = some (.string x4)) (ds:=[]) #[O,O,O,O,O,O,O,O,O,O] (by kernel_rfl) rfl rfl ⟨y0,y4⟩ (fun hHeld=>?_)
   generalize w9.drew = w10 at KR KN S HB hHeld ⊢
   refine pure_ (i:=0) (N:=some 56) (v:=?_) (a':=?_) #[J,O,O,O,O,O,O,O,O,O] rfl rfl (by kernel_rfl) (fun _ _ _ h=>h) (Or.inl ⟨by rfl,?_⟩) ?_ ?_
   rotate_left
   ·intro w'
    go_simp
    with_reducible rfl
   rotate_left
   ·simp only [Act.put,sT,sZ,sS,iW,iV]
    rfl
   refine pure_ (i:=3) (N:=some 59) (v:=?_) (a':=?_) #[J,O,O,J,O,O,O,O,O,O] rfl rfl (by kernel_rfl) (fun _ _ _ h=>h) (Or.inl ⟨by rfl,?_⟩) ?_ ?_
   rotate_left
   ·intro w'
    go_simp
    with_reducible rfl
   rotate_left
   ·simp only [Act.put,sT,sZ,sS,iW,iV]
    rfl
   refine pure_ (i:=4) (N:=some 60) (v:=?_) (a':=?_) #[J,O,O,J,J,O,O,O,O,O] rfl rfl (by kernel_rfl) (fun _ _ _ h=>h) (Or.inl ⟨by rfl,?_⟩) ?_ ?_
   rotate_left
   ·intro w'
    go_simp
    with_reducible rfl
   rotate_left
   ·simp only [Act.put,sT,sZ,sS,iW,iV]
    rfl
   refine pure_ (i:=5) (N:=some 61) (v:=?_) (a':=?_) #[J,O,O,J,J,J,O,O,O,O] rfl rfl (by kernel_rfl) (fun _ _ _ h=>h) (Or.inl ⟨by rfl,?_⟩) ?_ ?_
   rotate_left
   ·intro w'
    go_simp
    with_reducible rfl
   rotate_left
   ·simp only [Act.put,sT,sZ,sS,iW,iV]
    rfl
   refine pure_ (i:=9) (N:=some 65) (v:=?_) (a':=?_) #[J,O,O,J,J,J,O,O,O,J] rfl rfl (by kernel_rfl) (fun _ _ _ h=>h) (Or.inl ⟨by rfl,?_⟩) ?_ ?_
   rotate_left
   ·intro w'
    go_simp
    with_reducible rfl
   rotate_left
   ·simp only [Act.put,sT,sZ,sS,iW,iV]
    rfl
   refine pure_ (i:=1) (N:=some 57) (v:=?_) (a':=?_) #[J,J,O,J,J,J,O,O,O,J] rfl rfl (by kernel_rfl) (fun _ _ _ h=>h) (Or.inl ⟨by rfl,?_⟩) ?_ ?_
   rotate_left
   ·intro w'
    go_simp
    with_reducible rfl
   rotate_left
   ·simp only [Act.put,sT,sZ,sS,iW,iV]
    rfl
   refine pure_ (i:=6) (N:=some 62) (v:=?_) (a':=?_) #[J,J,O,J,J,J,J,O,O,J] rfl rfl (by kernel_rfl) (fun _ _ _ h=>h) (Or.inl ⟨by rfl,?_⟩) ?_ ?_
   rotate_left
   ·intro w'
    go_simp
    with_reducible rfl
   rotate_left
   ·simp only [Act.put,sT,sZ,sS,iW,iV]
    rfl
   refine take_ (i:=2) (N:=some 58) (v:=?_) (a':=?_) #[J,J,J,J,J,J,J,O,O,J] rfl rfl (by kernel_rfl) (fun _ _ _ h=>h) (Or.inl ⟨by rfl,?_⟩) hHeld ?_ ?_
   rotate_left
   ·rintro w' ⟨s0,s1⟩
    go_simp
    with_reducible rfl
   rotate_left
   ·simp only [Act.put,sT,sZ,sS,iW,iV]
    rfl
   refine take_ (i:=7) (N:=some 63) (v:=?_) (a':=?_) #[J,J,J,J,J,J,J,J,O,J] rfl rfl (by kernel_rfl) (fun _ _ _ h=>h) (Or.inl ⟨by rfl,?_⟩) hHeld ?_ ?_
   rotate_left
   ·rintro w' ⟨s0,s1⟩
    go_simp
    with_reducible rfl
   rotate_left
   ·simp only [Act.put,sT,sZ,sS,iW,iV]
    rfl
   refine pure_ (i:=8) (N:=some 64) (v:=?_) (a':=?_) #[J,J,J,J,J,J,J,J,J,J] rfl rfl (by kernel_rfl) (fun _ _ _ h=>h) (Or.inl ⟨by rfl,?_⟩) ?_ ?_
   rotate_left
   ·intro w'
    go_simp
    with_reducible rfl
   rotate_left
   ·simp only [Act.put,sT,sZ,sS,iW,iV]
    rfl
   refine done_ (by kernel_rfl) ?_
   go_wp2
   have at0 : ∀ (g : Nat) (w' : World),(Instr.indexAt 58 (.pointer (some ⟨g,0,none⟩)) (.int .i64 0)).run Tryd.prog w' = .ok (.pointer (some ⟨g,0,none⟩)) w':=fun g w'=>run_at58 g 0 (by decide) w'
   have at1 : ∀ (g : Nat) (w' : World),(Instr.indexAt 58 (.pointer (some ⟨g,0,none⟩)) (.int .i64 1)).run Tryd.prog w' = .ok (.pointer (some ⟨g,1,none⟩)) w':=fun g w'=>run_at58 g 1 (by decide) w'
   have at2 : ∀ (g : Nat) (w' : World),(Instr.indexAt 58 (.pointer (some ⟨g,0,none⟩)) (.int .i64 2)).run Tryd.prog w' = .ok (.pointer (some ⟨g,2,none⟩)) w':=fun g w'=>run_at58 g 2 (by decide) w'
   have at3 : ∀ (g : Nat) (w' : World),(Instr.indexAt 58 (.pointer (some ⟨g,0,none⟩)) (.int .i64 3)).run Tryd.prog w' = .ok (.pointer (some ⟨g,3,none⟩)) w':=fun g w'=>run_at58 g 3 (by decide) w'
   have ix0 : ∀ (w' : World),(Instr.index 59 (.agg #[.string x0,.string wk,.string sc,.string x4]) (.int .i64 0)).run Tryd.prog w' = .ok (.string x0) w':=fun w'=>run_ix59 x0 wk sc x4 0 x0 rfl w'
   have ix1 : ∀ (w' : World),(Instr.index 59 (.agg #[.string x0,.string wk,.string sc,.string x4]) (.int .i64 1)).run Tryd.prog w' = .ok (.string wk) w':=fun w'=>run_ix59 x0 wk sc x4 1 wk rfl w'
   have ix2 : ∀ (w' : World),(Instr.index 59 (.agg #[.string x0,.string wk,.string sc,.string x4]) (.int .i64 2)).run Tryd.prog w' = .ok (.string sc) w':=fun w'=>run_ix59 x0 wk sc x4 2 sc rfl w'
   have ix3 : ∀ (w' : World),(Instr.index 59 (.agg #[.string x0,.string wk,.string sc,.string x4]) (.int .i64 3)).run Tryd.prog w' = .ok (.string x4) w':=fun w'=>run_ix59 x0 wk sc x4 3 x4 rfl w'
   go_loopg [65] 7777 (fun gk s65 wr=>∃ (i : Nat) (z n0 n1 n2 n3 : Int),s65 = .int .i64 z∧z = (i : Int)∧i≤4∧7777 = i + gk∧Aside0 (numsF (([x0,wk,sc,x4] : List ByteArray).drop i) i [n0,n1,n2,n3] = some nn)∧Aside0 (wr.heap[gR]? = some (.cells #[.int .u32 0,.string (⟨#[]⟩ : ByteArray),.int .i64 0,.int .i64 0,.int .i64 0,.int .i64 0] 24 (0,0)))∧Aside0 (wr.heap[gN]? = some (.cells #[.int .i64 n0,.int .i64 n1,.int .i64 n2,.int .i64 n3] 58 (0,0)))∧Aside0 (Kd.R Kd.string 9 wr w.heap.size (fun _=>True) (.slice (some ⟨gv,0,none⟩) 5 cv) [x0,x1,x2,x3,x4])∧Aside0 (Below w.heap.size w wr))
   case atStart=>exact ⟨0,0,0,0,0,0,rfl,rfl,by omega,by omega,A5,KR,KN,S,HB⟩
   case round =>
    clear KR KN S HB A5 KA
    obtain ⟨i,z,n0,n1,n2,n3,rfl,hz,hi,hk,HD,KR,KN,S,HB⟩:=hrel
    cases gk with
    | zero=>omega
    | succ gk =>
    rcases (by omega : i = 0 ∨ i = 1 ∨ i = 2 ∨ i = 3 ∨ i = 4) with rfl|rfl|rfl|rfl|rfl
    ·obtain rfl : z = 0:=by omega
     clear hz
     have hd : numsF (x0 :: [wk,sc,x4]) 0 [n0,n1,n2,n3] = some nn:=HD.out
     rw [numsF] at hd
     replace hd:=oB hd
     obtain ⟨⟨x,ok⟩,A6',hd⟩:=hd
     have A6:=Am A6'
     clear A6' HD
     dsimp only at hd
     cases ok with
     | false =>
      rw [if_neg (by simp)] at hd
      have h:=HH.out
      obtain rfl:=Option.some.inj hd
      dsimp only at h
      simp only [Option.some.injEq,Prod.mk.injEq] at h
      obtain ⟨rfl,rfl,rfl,rfl,rfl,rfl,rfl⟩:=h
      clear HH
      go_wp2_with (first|(go_at_call 27;(with_reducible refine (book_number.calls _ _ _ _ ?s1 A6.out).mono ?_);(case s1=>exact Glob.below HG.out (by repeat (first|(with_reducible first|exact HB.out|apply bL|apply pN|apply bE)|exact HB.out)));rintro e w11 ⟨rfl,hb⟩;have n0_:=Am (below_step (by repeat (first|(with_reducible first|exact HB.out|apply bL|apply pN|apply bE)|exact HB.out)) hb);have n_KR:=Am (blk_below (g:=gR) (o:=.cells #[.int .u32 0,.string (⟨#[]⟩ : ByteArray),.int .i64 0,.int .i64 0,.int .i64 0,.int .i64 0] 24 (0,0)) (by (with_reducible repeat (first|refine bN ?_ _|refine bD ?_|refine bA ?_ _));exact KR.out) hb);have n_KN:=Am (blk_below (g:=gN) (o:=.cells #[.int .i64 n0,.int .i64 n1,.int .i64 n2,.int .i64 n3] 58 (0,0)) (by (with_reducible repeat (first|refine bN ?_ _|refine bD ?_|refine bA ?_ _));exact KN.out) hb);have n_S:=Am (Kd.R_below (by (with_reducible repeat (first|apply Kd.R_drewN|apply Kd.R_drew|apply Kd.R_alloc));exact S.out) hb);clear HB;have HB:=n0_;clear n0_;clear KR;have KR:=n_KR;clear n_KR;clear KN;have KN:=n_KN;clear n_KN;clear S;have S:=n_S;clear n_S;have xr0 : w11.cell? ⟨gR,0,none⟩ = some (.int .u32 0):=(bC KR.out 0).trans rfl;have fr0:=bF KR.out 0;have xr1 : w11.cell? ⟨gR,1,none⟩ = some (.string (⟨#[]⟩ : ByteArray)):=(bC KR.out 1).trans rfl;have fr1:=bF KR.out 1;have xr2 : w11.cell? ⟨gR,2,none⟩ = some (.int .i64 0):=(bC KR.out 2).trans rfl;have fr2:=bF KR.out 2;have xr3 : w11.cell? ⟨gR,3,none⟩ = some (.int .i64 0):=(bC KR.out 3).trans rfl;have fr3:=bF KR.out 3;have xr4 : w11.cell? ⟨gR,4,none⟩ = some (.int .i64 0):=(bC KR.out 4).trans rfl;have fr4:=bF KR.out 4;have xr5 : w11.cell? ⟨gR,5,none⟩ = some (.int .i64 0):=(bC KR.out 5).trans rfl;have fr5:=bF KR.out 5;clear hb))
      try rw [Exit.noGoto_ret]
      refine bodyPost_ret (results_ct rfl _ _ gR 24 #[.int .u32 0,.string (⟨#[]⟩ : ByteArray),.int .i64 0,.int .i64 0,.int .i64 0,.int .i64 0] (0,0) _ rfl (put6 (by (with_reducible repeat (first|refine bN ?_ _|refine bD ?_|refine bA ?_ _));exact KR.out) (.int .u32 0) (.string (⟨#[]⟩ : ByteArray)) (.int .i64 0) (.int .i64 0) (.int .i64 0) (.int .i64 0)) Tryd.underlying24 rfl (by kernel_rfl)) rfl ?_
      exact ⟨rfl,below6 (by repeat (first|(with_reducible first|exact HB.out|apply bL|apply pN|apply bE)|exact HB.out)) GEgR.out (.int .u32 0) (.string (⟨#[]⟩ : ByteArray)) (.int .i64 0) (.int .i64 0) (.int .i64 0) (.int .i64 0)⟩
     | true =>
      rw [if_pos rfl] at hd
      by_cases hx : 4294967296≤x
      rotate_left
      ·rw [if_neg (fun z=>hx z.2)] at hd
       have HD2 : Aside0 (numsF (([x0,wk,sc,x4] : List ByteArray).drop 1) 1 [x,n1,n2,n3] = some nn):=⟨hd⟩
       clear hd
       go_wp2_with (first|(go_at_call 27;(with_reducible refine (book_number.calls _ _ _ _ ?s1 A6.out).mono ?_);(case s1=>exact Glob.below HG.out (by repeat (first|(with_reducible first|exact HB.out|apply bL|apply pN|apply bE)|exact HB.out)));rintro e w11 ⟨rfl,hb⟩;have n0_:=Am (below_step (by repeat (first|(with_reducible first|exact HB.out|apply bL|apply pN|apply bE)|exact HB.out)) hb);have n_KR:=Am (blk_below (g:=gR) (o:=.cells #[.int .u32 0,.string (⟨#[]⟩ : ByteArray),.int .i64 0,.int .i64 0,.int .i64 0,.int .i64 0] 24 (0,0)) (by (with_reducible repeat (first|refine bN ?_ _|refine bD ?_|refine bA ?_ _));exact KR.out) hb);have n_KN:=Am (blk_below (g:=gN) (o:=.cells #[.int .i64 n0,.int .i64 n1,.int .i64 n2,.int .i64 n3] 58 (0,0)) (by (with_reducible repeat (first|refine bN ?_ _|refine bD ?_|refine bA ?_ _));exact KN.out) hb);have n_S:=Am (Kd.R_below (by (with_reducible repeat (first|apply Kd.R_drewN|apply Kd.R_drew|apply Kd.R_alloc));exact S.out) hb);clear HB;have HB:=n0_;clear n0_;clear KR;have KR:=n_KR;clear n_KR;clear KN;have KN:=n_KN;clear n_KN;clear S;have S:=n_S;clear n_S;have yn : w11.cell? ⟨gN,0,none⟩ = some (.int .i64 n0):=(bC KN.out 0).trans rfl;have fn:=bF KN.out 0;clear hb))
       go_roundg gk
       case measure=>omega
       case rel=>exact ⟨1,_,x,n1,n2,n3,rfl,by omega,by omega,by omega,HD2,⟨blk_far KR.out NE _⟩,⟨blk_put KN.out 0 _ rfl⟩,⟨Kd.R_set S.out KN.out (by decide) 0 _⟩,⟨bS HB.out GEgN.out⟩⟩
      rw [if_pos ⟨rfl,hx⟩] at hd
      have h:=HH.out
      obtain rfl:=Option.some.inj hd
      dsimp only at h
      simp only [Option.some.injEq,Prod.mk.injEq] at h
      obtain ⟨rfl,rfl,rfl,rfl,rfl,rfl,rfl⟩:=h
      clear HH
      go_wp2_with (first|(go_at_call 27;(with_reducible refine (book_number.calls _ _ _ _ ?s1 A6.out).mono ?_);(case s1=>exact Glob.below HG.out (by repeat (first|(with_reducible first|exact HB.out|apply bL|apply pN|apply bE)|exact HB.out)));rintro e w11 ⟨rfl,hb⟩;have n0_:=Am (below_step (by repeat (first|(with_reducible first|exact HB.out|apply bL|apply pN|apply bE)|exact HB.out)) hb);have n_KR:=Am (blk_below (g:=gR) (o:=.cells #[.int .u32 0,.string (⟨#[]⟩ : ByteArray),.int .i64 0,.int .i64 0,.int .i64 0,.int .i64 0] 24 (0,0)) (by (with_reducible repeat (first|refine bN ?_ _|refine bD ?_|refine bA ?_ _));exact KR.out) hb);have n_KN:=Am (blk_below (g:=gN) (o:=.cells #[.int .i64 n0,.int .i64 n1,.int .i64 n2,.int .i64 n3] 58 (0,0)) (by (with_reducible repeat (first|refine bN ?_ _|refine bD ?_|refine bA ?_ _));exact KN.out) hb);have n_S:=Am (Kd.R_below (by (with_reducible repeat (first|apply Kd.R_drewN|apply Kd.R_drew|apply Kd.R_alloc));exact S.out) hb);clear HB;have HB:=n0_;clear n0_;clear KR;have KR:=n_KR;clear n_KR;clear KN;have KN:=n_KN;clear n_KN;clear S;have S:=n_S;clear n_S;have xr0 : w11.cell? ⟨gR,0,none⟩ = some (.int .u32 0):=(bC KR.out 0).trans rfl;have fr0:=bF KR.out 0;have xr1 : w11.cell? ⟨gR,1,none⟩ = some (.string (⟨#[]⟩ : ByteArray)):=(bC KR.out 1).trans rfl;have fr1:=bF KR.out 1;have xr2 : w11.cell? ⟨gR,2,none⟩ = some (.int .i64 0):=(bC KR.out 2).trans rfl;have fr2:=bF KR.out 2;have xr3 : w11.cell? ⟨gR,3,none⟩ = some (.int .i64 0):=(bC KR.out 3).trans rfl;have fr3:=bF KR.out 3;have xr4 : w11.cell? ⟨gR,4,none⟩ = some (.int .i64 0):=(bC KR.out 4).trans rfl;have fr4:=bF KR.out 4;have xr5 : w11.cell? ⟨gR,5,none⟩ = some (.int .i64 0):=(bC KR.out 5).trans rfl;have fr5:=bF KR.out 5;clear hb))
      try rw [Exit.noGoto_ret]
      refine bodyPost_ret (results_ct rfl _ _ gR 24 #[.int .u32 0,.string (⟨#[]⟩ : ByteArray),.int .i64 0,.int .i64 0,.int .i64 0,.int .i64 0] (0,0) _ rfl (put6 (by (with_reducible repeat (first|refine bN ?_ _|refine bD ?_|refine bA ?_ _));exact KR.out) (.int .u32 0) (.string (⟨#[]⟩ : ByteArray)) (.int .i64 0) (.int .i64 0) (.int .i64 0) (.int .i64 0)) Tryd.underlying24 rfl (by kernel_rfl)) rfl ?_
      exact ⟨rfl,below6 (by repeat (first|(with_reducible first|exact HB.out|apply bL|apply pN|apply bE)|exact HB.out)) GEgR.out (.int .u32 0) (.string (⟨#[]⟩ : ByteArray)) (.int .i64 0) (.int .i64 0) (.int .i64 0) (.int .i64 0)⟩
    ·obtain rfl : z = 1:=by omega
     clear hz
     have hd : numsF (wk :: [sc,x4]) 1 [n0,n1,n2,n3] = some nn:=HD.out
     rw [numsF] at hd
     replace hd:=oB hd
     obtain ⟨⟨x,ok⟩,A6',hd⟩:=hd
     have A6:=Am A6'
     clear A6' HD
     dsimp only at hd
     cases ok with
     | false =>
      rw [if_neg (by simp)] at hd
      have h:=HH.out
      obtain rfl:=Option.some.inj hd
      dsimp only at h
      simp only [Option.some.injEq,Prod.mk.injEq] at h
      obtain ⟨rfl,rfl,rfl,rfl,rfl,rfl,rfl⟩:=h
      clear HH
      go_wp2_with (first|(go_at_call 27;(with_reducible refine (book_number.calls _ _ _ _ ?s1 A6.out).mono ?_);(case s1=>exact Glob.below HG.out (by repeat (first|(with_reducible first|exact HB.out|apply bL|apply pN|apply bE)|exact HB.out)));rintro e w11 ⟨rfl,hb⟩;have n0_:=Am (below_step (by repeat (first|(with_reducible first|exact HB.out|apply bL|apply pN|apply bE)|exact HB.out)) hb);have n_KR:=Am (blk_below (g:=gR) (o:=.cells #[.int .u32 0,.string (⟨#[]⟩ : ByteArray),.int .i64 0,.int .i64 0,.int .i64 0,.int .i64 0] 24 (0,0)) (by (with_reducible repeat (first|refine bN ?_ _|refine bD ?_|refine bA ?_ _));exact KR.out) hb);have n_KN:=Am (blk_below (g:=gN) (o:=.cells #[.int .i64 n0,.int .i64 n1,.int .i64 n2,.int .i64 n3] 58 (0,0)) (by (with_reducible repeat (first|refine bN ?_ _|refine bD ?_|refine bA ?_ _));exact KN.out) hb);have n_S:=Am (Kd.R_below (by (with_reducible repeat (first|apply Kd.R_drewN|apply Kd.R_drew|apply Kd.R_alloc));exact S.out) hb);clear HB;have HB:=n0_;clear n0_;clear KR;have KR:=n_KR;clear n_KR;clear KN;have KN:=n_KN;clear n_KN;clear S;have S:=n_S;clear n_S;have xr0 : w11.cell? ⟨gR,0,none⟩ = some (.int .u32 0):=(bC KR.out 0).trans rfl;have fr0:=bF KR.out 0;have xr1 : w11.cell? ⟨gR,1,none⟩ = some (.string (⟨#[]⟩ : ByteArray)):=(bC KR.out 1).trans rfl;have fr1:=bF KR.out 1;have xr2 : w11.cell? ⟨gR,2,none⟩ = some (.int .i64 0):=(bC KR.out 2).trans rfl;have fr2:=bF KR.out 2;have xr3 : w11.cell? ⟨gR,3,none⟩ = some (.int .i64 0):=(bC KR.out 3).trans rfl;have fr3:=bF KR.out 3;have xr4 : w11.cell? ⟨gR,4,none⟩ = some (.int .i64 0):=(bC KR.out 4).trans rfl;have fr4:=bF KR.out 4;have xr5 : w11.cell? ⟨gR,5,none⟩ = some (.int .i64 0):=(bC KR.out 5).trans rfl;have fr5:=bF KR.out 5;clear hb))
      try rw [Exit.noGoto_ret]
      refine bodyPost_ret (results_ct rfl _ _ gR 24 #[.int .u32 0,.string (⟨#[]⟩ : ByteArray),.int .i64 0,.int .i64 0,.int .i64 0,.int .i64 0] (0,0) _ rfl (put6 (by (with_reducible repeat (first|refine bN ?_ _|refine bD ?_|refine bA ?_ _));exact KR.out) (.int .u32 0) (.string (⟨#[]⟩ : ByteArray)) (.int .i64 0) (.int .i64 0) (.int .i64 0) (.int .i64 0)) Tryd.underlying24 rfl (by kernel_rfl)) rfl ?_
      exact ⟨rfl,below6 (by repeat (first|(with_reducible first|exact HB.out|apply bL|apply pN|apply bE)|exact HB.out)) GEgR.out (.int .u32 0) (.string (⟨#[]⟩ : ByteArray)) (.int .i64 0) (.int .i64 0) (.int .i64 0) (.int .i64 0)⟩
     | true =>
      rw [if_pos rfl] at hd
      rw [if_neg (fun z=>by cases z.1)] at hd
      have HD2 : Aside0 (numsF (([x0,wk,sc,x4] : List ByteArray).drop 2) 2 [n0,x,n2,n3] = some nn):=⟨hd⟩
      clear hd
      go_wp2_with (first|(go_at_call 27;(with_reducible refine (book_number.calls _ _ _ _ ?s1 A6.out).mono ?_);(case s1=>exact Glob.below HG.out (by repeat (first|(with_reducible first|exact HB.out|apply bL|apply pN|apply bE)|exact HB.out)));rintro e w11 ⟨rfl,hb⟩;have n0_:=Am (below_step (by repeat (first|(with_reducible first|exact HB.out|apply bL|apply pN|apply bE)|exact HB.out)) hb);have n_KR:=Am (blk_below (g:=gR) (o:=.cells #[.int .u32 0,.string (⟨#[]⟩ : ByteArray),.int .i64 0,.int .i64 0,.int .i64 0,.int .i64 0] 24 (0,0)) (by (with_reducible repeat (first|refine bN ?_ _|refine bD ?_|refine bA ?_ _));exact KR.out) hb);have n_KN:=Am (blk_below (g:=gN) (o:=.cells #[.int .i64 n0,.int .i64 n1,.int .i64 n2,.int .i64 n3] 58 (0,0)) (by (with_reducible repeat (first|refine bN ?_ _|refine bD ?_|refine bA ?_ _));exact KN.out) hb);have n_S:=Am (Kd.R_below (by (with_reducible repeat (first|apply Kd.R_drewN|apply Kd.R_drew|apply Kd.R_alloc));exact S.out) hb);clear HB;have HB:=n0_;clear n0_;clear KR;have KR:=n_KR;clear n_KR;clear KN;have KN:=n_KN;clear n_KN;clear S;have S:=n_S;clear n_S;have yn : w11.cell? ⟨gN,1,none⟩ = some (.int .i64 n1):=(bC KN.out 1).trans rfl;have fn:=bF KN.out 1;clear hb))
      go_roundg gk
      case measure=>omega
      case rel=>exact ⟨2,_,n0,x,n2,n3,rfl,by omega,by omega,by omega,HD2,⟨blk_far KR.out NE _⟩,⟨blk_put KN.out 1 _ rfl⟩,⟨Kd.R_set S.out KN.out (by decide) 1 _⟩,⟨bS HB.out GEgN.out⟩⟩
    ·obtain rfl : z = 2:=by omega
     clear hz
     have hd : numsF (sc :: [x4]) 2 [n0,n1,n2,n3] = some nn:=HD.out
     rw [numsF] at hd
     replace hd:=oB hd
     obtain ⟨⟨x,ok⟩,A6',hd⟩:=hd
     have A6:=Am A6'
     clear A6' HD
     dsimp only at hd
     cases ok with
     | false =>
      rw [if_neg (by simp)] at hd
      have h:=HH.out
      obtain rfl:=Option.some.inj hd
      dsimp only at h
      simp only [Option.some.injEq,Prod.mk.injEq] at h
      obtain ⟨rfl,rfl,rfl,rfl,rfl,rfl,rfl⟩:=h
      clear HH
      go_wp2_with (first|(go_at_call 27;(with_reducible refine (book_number.calls _ _ _ _ ?s1 A6.out).mono ?_);(case s1=>exact Glob.below HG.out (by repeat (first|(with_reducible first|exact HB.out|apply bL|apply pN|apply bE)|exact HB.out)));rintro e w11 ⟨rfl,hb⟩;have n0_:=Am (below_step (by repeat (first|(with_reducible first|exact HB.out|apply bL|apply pN|apply bE)|exact HB.out)) hb);have n_KR:=Am (blk_below (g:=gR) (o:=.cells #[.int .u32 0,.string (⟨#[]⟩ : ByteArray),.int .i64 0,.int .i64 0,.int .i64 0,.int .i64 0] 24 (0,0)) (by (with_reducible repeat (first|refine bN ?_ _|refine bD ?_|refine bA ?_ _));exact KR.out) hb);have n_KN:=Am (blk_below (g:=gN) (o:=.cells #[.int .i64 n0,.int .i64 n1,.int .i64 n2,.int .i64 n3] 58 (0,0)) (by (with_reducible repeat (first|refine bN ?_ _|refine bD ?_|refine bA ?_ _));exact KN.out) hb);have n_S:=Am (Kd.R_below (by (with_reducible repeat (first|apply Kd.R_drewN|apply Kd.R_drew|apply Kd.R_alloc));exact S.out) hb);clear HB;have HB:=n0_;clear n0_;clear KR;have KR:=n_KR;clear n_KR;clear KN;have KN:=n_KN;clear n_KN;clear S;have S:=n_S;clear n_S;have xr0 : w11.cell? ⟨gR,0,none⟩ = some (.int .u32 0):=(bC KR.out 0).trans rfl;have fr0:=bF KR.out 0;have xr1 : w11.cell? ⟨gR,1,none⟩ = some (.string (⟨#[]⟩ : ByteArray)):=(bC KR.out 1).trans rfl;have fr1:=bF KR.out 1;have xr2 : w11.cell? ⟨gR,2,none⟩ = some (.int .i64 0):=(bC KR.out 2).trans rfl;have fr2:=bF KR.out 2;have xr3 : w11.cell? ⟨gR,3,none⟩ = some (.int .i64 0):=(bC KR.out 3).trans rfl;have fr3:=bF KR.out 3;have xr4 : w11.cell? ⟨gR,4,none⟩ = some (.int .i64 0):=(bC KR.out 4).trans rfl;have fr4:=bF KR.out 4;have xr5 : w11.cell? ⟨gR,5,none⟩ = some (.int .i64 0):=(bC KR.out 5).trans rfl;have fr5:=bF KR.out 5;clear hb))
      try rw [Exit.noGoto_ret]
      refine bodyPost_ret (results_ct rfl _ _ gR 24 #[.int .u32 0,.string (⟨#[]⟩ : ByteArray),.int .i64 0,.int .i64 0,.int .i64 0,.int .i64 0] (0,0) _ rfl (put6 (by (with_reducible repeat (first|refine bN ?_ _|refine bD ?_|refine bA ?_ _));exact KR.out) (.int .u32 0) (.string (⟨#[]⟩ : ByteArray)) (.int .i64 0) (.int .i64 0) (.int .i64 0) (.int .i64 0)) Tryd.underlying24 rfl (by kernel_rfl)) rfl ?_
      exact ⟨rfl,below6 (by repeat (first|(with_reducible first|exact HB.out|apply bL|apply pN|apply bE)|exact HB.out)) GEgR.out (.int .u32 0) (.string (⟨#[]⟩ : ByteArray)) (.int .i64 0) (.int .i64 0) (.int .i64 0) (.int .i64 0)⟩
     | true =>
      rw [if_pos rfl] at hd
      rw [if_neg (fun z=>by cases z.1)] at hd
      have HD2 : Aside0 (numsF (([x0,wk,sc,x4] : List ByteArray).drop 3) 3 [n0,n1,x,n3] = some nn):=⟨hd⟩
      clear hd
      go_wp2_with (first|(go_at_call 27;(with_reducible refine (book_number.calls _ _ _ _ ?s1 A6.out).mono ?_);(case s1=>exact Glob.below HG.out (by repeat (first|(with_reducible first|exact HB.out|apply bL|apply pN|apply bE)|exact HB.out)));rintro e w11 ⟨rfl,hb⟩;have n0_:=Am (below_step (by repeat (first|(with_reducible first|exact HB.out|apply bL|apply pN|apply bE)|exact HB.out)) hb);have n_KR:=Am (blk_below (g:=gR) (o:=.cells #[.int .u32 0,.string (⟨#[]⟩ : ByteArray),.int .i64 0,.int .i64 0,.int .i64 0,.int .i64 0] 24 (0,0)) (by (with_reducible repeat (first|refine bN ?_ _|refine bD ?_|refine bA ?_ _));exact KR.out) hb);have n_KN:=Am (blk_below (g:=gN) (o:=.cells #[.int .i64 n0,.int .i64 n1,.int .i64 n2,.int .i64 n3] 58 (0,0)) (by (with_reducible repeat (first|refine bN ?_ _|refine bD ?_|refine bA ?_ _));exact KN.out) hb);have n_S:=Am (Kd.R_below (by (with_reducible repeat (first|apply Kd.R_drewN|apply Kd.R_drew|apply Kd.R_alloc));exact S.out) hb);clear HB;have HB:=n0_;clear n0_;clear KR;have KR:=n_KR;clear n_KR;clear KN;have KN:=n_KN;clear n_KN;clear S;have S:=n_S;clear n_S;have yn : w11.cell? ⟨gN,2,none⟩ = some (.int .i64 n2):=(bC KN.out 2).trans rfl;have fn:=bF KN.out 2;clear hb))
      go_roundg gk
      case measure=>omega
      case rel=>exact ⟨3,_,n0,n1,x,n3,rfl,by omega,by omega,by omega,HD2,⟨blk_far KR.out NE _⟩,⟨blk_put KN.out 2 _ rfl⟩,⟨Kd.R_set S.out KN.out (by decide) 2 _⟩,⟨bS HB.out GEgN.out⟩⟩
    ·obtain rfl : z = 3:=by omega
     clear hz
     have hd : numsF (x4 :: []) 3 [n0,n1,n2,n3] = some nn:=HD.out
     rw [numsF] at hd
     replace hd:=oB hd
     obtain ⟨⟨x,ok⟩,A6',hd⟩:=hd
     have A6:=Am A6'
     clear A6' HD
     dsimp only at hd
     cases ok with
     | false =>
      rw [if_neg (by simp)] at hd
      have h:=HH.out
      obtain rfl:=Option.some.inj hd
      dsimp only at h
      simp only [Option.some.injEq,Prod.mk.injEq] at h
      obtain ⟨rfl,rfl,rfl,rfl,rfl,rfl,rfl⟩:=h
      clear HH
      go_wp2_with (first|(go_at_call 27;(with_reducible refine (book_number.calls _ _ _ _ ?s1 A6.out).mono ?_);(case s1=>exact Glob.below HG.out (by repeat (first|(with_reducible first|exact HB.out|apply bL|apply pN|apply bE)|exact HB.out)));rintro e w11 ⟨rfl,hb⟩;have n0_:=Am (below_step (by repeat (first|(with_reducible first|exact HB.out|apply bL|apply pN|apply bE)|exact HB.out)) hb);have n_KR:=Am (blk_below (g:=gR) (o:=.cells #[.int .u32 0,.string (⟨#[]⟩ : ByteArray),.int .i64 0,.int .i64 0,.int .i64 0,.int .i64 0] 24 (0,0)) (by (with_reducible repeat (first|refine bN ?_ _|refine bD ?_|refine bA ?_ _));exact KR.out) hb);have n_KN:=Am (blk_below (g:=gN) (o:=.cells #[.int .i64 n0,.int .i64 n1,.int .i64 n2,.int .i64 n3] 58 (0,0)) (by (with_reducible repeat (first|refine bN ?_ _|refine bD ?_|refine bA ?_ _));exact KN.out) hb);have n_S:=Am (Kd.R_below (by (with_reducible repeat (first|apply Kd.R_drewN|apply Kd.R_drew|apply Kd.R_alloc));exact S.out) hb);clear HB;have HB:=n0_;clear n0_;clear KR;have KR:=n_KR;clear n_KR;clear KN;have KN:=n_KN;clear n_KN;clear S;have S:=n_S;clear n_S;have xr0 : w11.cell? ⟨gR,0,none⟩ = some (.int .u32 0):=(bC KR.out 0).trans rfl;have fr0:=bF KR.out 0;have xr1 : w11.cell? ⟨gR,1,none⟩ = some (.string (⟨#[]⟩ : ByteArray)):=(bC KR.out 1).trans rfl;have fr1:=bF KR.out 1;have xr2 : w11.cell? ⟨gR,2,none⟩ = some (.int .i64 0):=(bC KR.out 2).trans rfl;have fr2:=bF KR.out 2;have xr3 : w11.cell? ⟨gR,3,none⟩ = some (.int .i64 0):=(bC KR.out 3).trans rfl;have fr3:=bF KR.out 3;have xr4 : w11.cell? ⟨gR,4,none⟩ = some (.int .i64 0):=(bC KR.out 4).trans rfl;have fr4:=bF KR.out 4;have xr5 : w11.cell? ⟨gR,5,none⟩ = some (.int .i64 0):=(bC KR.out 5).trans rfl;have fr5:=bF KR.out 5;clear hb))
      try rw [Exit.noGoto_ret]
      refine bodyPost_ret (results_ct rfl _ _ gR 24 #[.int .u32 0,.string (⟨#[]⟩ : ByteArray),.int .i64 0,.int .i64 0,.int .i64 0,.int .i64 0] (0,0) _ rfl (put6 (by (with_reducible repeat (first|refine bN ?_ _|refine bD ?_|refine bA ?_ _));exact KR.out) (.int .u32 0) (.string (⟨#[]⟩ : ByteArray)) (.int .i64 0) (.int .i64 0) (.int .i64 0) (.int .i64 0)) Tryd.underlying24 rfl (by kernel_rfl)) rfl ?_
      exact ⟨rfl,below6 (by repeat (first|(with_reducible first|exact HB.out|apply bL|apply pN|apply bE)|exact HB.out)) GEgR.out (.int .u32 0) (.string (⟨#[]⟩ : ByteArray)) (.int .i64 0) (.int .i64 0) (.int .i64 0) (.int .i64 0)⟩
     | true =>
      rw [if_pos rfl] at hd
      rw [if_neg (fun z=>by cases z.1)] at hd
      have HD2 : Aside0 (numsF (([x0,wk,sc,x4] : List ByteArray).drop 4) 4 [n0,n1,n2,x] = some nn):=⟨hd⟩
      clear hd
      go_wp2_with (first|(go_at_call 27;(with_reducible refine (book_number.calls _ _ _ _ ?s1 A6.out).mono ?_);(case s1=>exact Glob.below HG.out (by repeat (first|(with_reducible first|exact HB.out|apply bL|apply pN|apply bE)|exact HB.out)));rintro e w11 ⟨rfl,hb⟩;have n0_:=Am (below_step (by repeat (first|(with_reducible first|exact HB.out|apply bL|apply pN|apply bE)|exact HB.out)) hb);have n_KR:=Am (blk_below (g:=gR) (o:=.cells #[.int .u32 0,.string (⟨#[]⟩ : ByteArray),.int .i64 0,.int .i64 0,.int .i64 0,.int .i64 0] 24 (0,0)) (by (with_reducible repeat (first|refine bN ?_ _|refine bD ?_|refine bA ?_ _));exact KR.out) hb);have n_KN:=Am (blk_below (g:=gN) (o:=.cells #[.int .i64 n0,.int .i64 n1,.int .i64 n2,.int .i64 n3] 58 (0,0)) (by (with_reducible repeat (first|refine bN ?_ _|refine bD ?_|refine bA ?_ _));exact KN.out) hb);have n_S:=Am (Kd.R_below (by (with_reducible repeat (first|apply Kd.R_drewN|apply Kd.R_drew|apply Kd.R_alloc));exact S.out) hb);clear HB;have HB:=n0_;clear n0_;clear KR;have KR:=n_KR;clear n_KR;clear KN;have KN:=n_KN;clear n_KN;clear S;have S:=n_S;clear n_S;have yn : w11.cell? ⟨gN,3,none⟩ = some (.int .i64 n3):=(bC KN.out 3).trans rfl;have fn:=bF KN.out 3;clear hb))
      go_roundg gk
      case measure=>omega
      case rel=>exact ⟨4,_,n0,n1,n2,x,rfl,by omega,by omega,by omega,HD2,⟨blk_far KR.out NE _⟩,⟨blk_put KN.out 3 _ rfl⟩,⟨Kd.R_set S.out KN.out (by decide) 3 _⟩,⟨bS HB.out GEgN.out⟩⟩
    ·obtain rfl : z = 4:=by omega
     clear hz
     have hd : some (some [n0,n1,n2,n3]) = some nn:=HD.out
     obtain rfl:=Option.some.inj hd
     have h:=HH.out
     dsimp only at h
     replace h:=oB h
     obtain ⟨q,A7',h⟩:=h
     have A7:=Am A7'
     clear A7' HD hd HH
     have y1 : wr.cell? ⟨gv,1,none⟩ = some (.string x1):=(Kd.R_cell ByteArray.empty S.out 1 (by decide) (by simp)).1
     have yn0 : wr.cell? ⟨gN,0,none⟩ = some (.int .i64 n0):=(bC KN.out 0).trans rfl
     have yn1 : wr.cell? ⟨gN,1,none⟩ = some (.int .i64 n1):=(bC KN.out 1).trans rfl
     have yn2 : wr.cell? ⟨gN,2,none⟩ = some (.int .i64 n2):=(bC KN.out 2).trans rfl
     have yn3 : wr.cell? ⟨gN,3,none⟩ = some (.int .i64 n3):=(bC KN.out 3).trans rfl
     go_wp2
     have n_:=Am (bD KR.out)
     clear KR
     have KR:=n_
     clear n_
     have n_:=Am (bD KN.out)
     clear KN
     have KN:=n_
     clear n_
     have n_:=Am (Kd.R_drew S.out)
     clear S
     have S:=n_
     clear n_
     have n_:=Am (bE HB.out)
     clear HB
     have HB:=n_
     clear n_
     refine start_ (n:=16) (S:=fun w'=>w'.cell? ⟨gv,1,none⟩ = some (.string x1)∧w'.cell? ⟨gN,0,none⟩ = some (.int .i64 n0)∧w'.cell? ⟨gN,1,none⟩ = some (.int .i64 n1)∧w'.cell? ⟨gN,2,none⟩ = some (.int .i64 n2)∧w'.cell? ⟨gN,3,none⟩ = some (.int .i64 n3)) (ds:=[15]) #[O,O,O,O,O,O,O,O,O,O,O,O,O,O,O,O] (by kernel_rfl) rfl rfl ⟨y1,yn0,yn1,yn2,yn3⟩ (fun hHeld=>?_)
     generalize wr.drew = w12 at KR KN S HB hHeld ⊢
     refine pure_ (i:=0) (N:=some 89) (v:=?_) (a':=?_) #[J,O,O,O,O,O,O,O,O,O,O,O,O,O,O,O] rfl rfl (by kernel_rfl) (fun _ _ _ h=>h) (Or.inl ⟨by rfl,?_⟩) ?_ ?_
     rotate_left
     ·intro w'
      go_simp
      with_reducible rfl
     rotate_left
     ·simp only [Act.put,sT,sZ,sS,iW,iV]
      rfl
     refine pure_ (i:=3) (N:=some 92) (v:=?_) (a':=?_) #[J,O,O,J,O,O,O,O,O,O,O,O,O,O,O,O] rfl rfl (by kernel_rfl) (fun _ _ _ h=>h) (Or.inl ⟨by rfl,?_⟩) ?_ ?_
     rotate_left
     ·intro w'
      go_simp
      with_reducible rfl
     rotate_left
     ·simp only [Act.put,sT,sZ,sS,iW,iV]
      rfl
     refine pure_ (i:=6) (N:=some 95) (v:=?_) (a':=?_) #[J,O,O,J,O,O,J,O,O,O,O,O,O,O,O,O] rfl rfl (by kernel_rfl) (fun _ _ _ h=>h) (Or.inl ⟨by rfl,?_⟩) ?_ ?_
     rotate_left
     ·intro w'
      go_simp
      with_reducible rfl
     rotate_left
     ·simp only [Act.put,sT,sZ,sS,iW,iV]
      rfl
     refine pure_ (i:=8) (N:=some 97) (v:=?_) (a':=?_) #[J,O,O,J,O,O,J,O,J,O,O,O,O,O,O,O] rfl rfl (by kernel_rfl) (fun _ _ _ h=>h) (Or.inl ⟨by rfl,?_⟩) ?_ ?_
     rotate_left
     ·intro w'
      go_simp
      with_reducible rfl
     rotate_left
     ·simp only [Act.put,sT,sZ,sS,iW,iV]
      rfl
     refine pure_ (i:=10) (N:=some 99) (v:=?_) (a':=?_) #[J,O,O,J,O,O,J,O,J,O,J,O,O,O,O,O] rfl rfl (by kernel_rfl) (fun _ _ _ h=>h) (Or.inl ⟨by rfl,?_⟩) ?_ ?_
     rotate_left
     ·intro w'
      go_simp
      with_reducible rfl
     rotate_left
     ·simp only [Act.put,sT,sZ,sS,iW,iV]
      rfl
     refine pure_ (i:=11) (N:=some 100) (v:=?_) (a':=?_) #[J,O,O,J,O,O,J,O,J,O,J,J,O,O,O,O] rfl rfl (by kernel_rfl) (fun _ _ _ h=>h) (Or.inl ⟨by rfl,?_⟩) ?_ ?_
     rotate_left
     ·intro w'
      go_simp
      with_reducible rfl
     rotate_left
     ·simp only [Act.put,sT,sZ,sS,iW,iV]
      rfl
     refine take_ (i:=1) (N:=some 90) (v:=?_) (a':=?_) #[J,J,O,J,O,O,J,O,J,O,J,J,O,O,O,O] rfl rfl (by kernel_rfl) (fun _ _ _ h=>h) (Or.inl ⟨by rfl,?_⟩) hHeld ?_ ?_
     rotate_left
     ·rintro w' ⟨s0,s1,s2,s3,s4⟩
      go_simp
      with_reducible rfl
     rotate_left
     ·simp only [Act.put,sT,sZ,sS,iW,iV]
      rfl
     refine pure_ (i:=2) (N:=some 91) (v:=?_) (a':=?_) #[J,J,J,J,O,O,J,O,J,O,J,J,O,O,O,O] rfl rfl (by kernel_rfl) (fun _ _ _ h=>h) (Or.inl ⟨by rfl,?_⟩) ?_ ?_
     rotate_left
     ·intro w'
      go_simp
      with_reducible rfl
     rotate_left
     ·simp only [Act.put,sT,sZ,sS,iW,iV]
      rfl
     refine pure_ (i:=4) (N:=some 93) (v:=?_) (a':=?_) #[J,J,J,J,J,O,J,O,J,O,J,J,O,O,O,O] rfl rfl (by kernel_rfl) (fun _ _ _ h=>h) (Or.inl ⟨by rfl,?_⟩) ?_ ?_
     rotate_left
     ·intro w'
      go_simp
      with_reducible rfl
     rotate_left
     ·simp only [Act.put,sT,sZ,sS,iW,iV]
      rfl
     refine take_ (i:=5) (N:=some 94) (v:=?_) (a':=?_) #[J,J,J,J,J,J,J,O,J,O,J,J,O,O,O,O] rfl rfl (by kernel_rfl) (fun _ _ _ h=>h) (Or.inl ⟨by rfl,?_⟩) hHeld ?_ ?_
     rotate_left
     ·rintro w' ⟨s0,s1,s2,s3,s4⟩
      go_simp
      with_reducible rfl
     rotate_left
     ·simp only [Act.put,sT,sZ,sS,iW,iV]
      rfl
     refine take_ (i:=7) (N:=some 96) (v:=?_) (a':=?_) #[J,J,J,J,J,J,J,J,J,O,J,J,O,O,O,O] rfl rfl (by kernel_rfl) (fun _ _ _ h=>h) (Or.inl ⟨by rfl,?_⟩) hHeld ?_ ?_
     rotate_left
     ·rintro w' ⟨s0,s1,s2,s3,s4⟩
      go_simp
      with_reducible rfl
     rotate_left
     ·simp only [Act.put,sT,sZ,sS,iW,iV]
      rfl
     refine take_ (i:=9) (N:=some 98) (v:=?_) (a':=?_) #[J,J,J,J,J,J,J,J,J,J,J,J,O,O,O,O] rfl rfl (by kernel_rfl) (fun _ _ _ h=>h) (Or.inl ⟨by rfl,?_⟩) hHeld ?_ ?_
     rotate_left
     ·rintro w' ⟨s0,s1,s2,s3,s4⟩
      go_simp
      with_reducible rfl
     rotate_left
     ·simp only [Act.put,sT,sZ,sS,iW,iV]
      rfl
     refine take_ (i:=12) (N:=some 101) (v:=?_) (a':=?_) #[J,J,J,J,J,J,J,J,J,J,J,J,J,O,O,O] rfl rfl (by kernel_rfl) (fun _ _ _ h=>h) (Or.inl ⟨by rfl,?_⟩) hHeld ?_ ?_
     rotate_left
     ·rintro w' ⟨s0,s1,s2,s3,s4⟩
      go_simp
      with_reducible rfl
     rotate_left
     ·simp only [Act.put,sT,sZ,sS,iW,iV]
      rfl
     refine pure_ (i:=13) (N:=some 102) (v:=?_) (a':=?_) #[J,J,J,J,J,J,J,J,J,J,J,J,J,J,O,O] rfl rfl (by kernel_rfl) (fun _ _ _ h=>h) (Or.inl ⟨by rfl,?_⟩) ?_ ?_
     rotate_left
     ·intro w'
      go_simp
      with_reducible rfl
     rotate_left
     ·simp only [Act.put,sT,sZ,sS,iW,iV]
      rfl
     refine one_ (i:=14) (N:=some 15) #[J,J,J,J,J,J,J,J,J,J,J,J,J,J,J,O] rfl rfl (by kernel_rfl) (by decide) (fun K hK=>?_)
     refine value_ (w1:=?_) (v:=?_) (by rfl) rfl ?_ ?_
     rotate_left 2
     ·go_simp
      constructor
      ·rfl
      ·rfl
     refine hK.out _ _ ⟨(World.cell?_alloc_lt _ _ _ (wB _ _ (hHeld.1))).trans (hHeld.1),(World.cell?_alloc_lt _ _ _ (wB _ _ (hHeld.2.1))).trans (hHeld.2.1),(World.cell?_alloc_lt _ _ _ (wB _ _ (hHeld.2.2.1))).trans (hHeld.2.2.1),(World.cell?_alloc_lt _ _ _ (wB _ _ (hHeld.2.2.2.1))).trans (hHeld.2.2.2.1),(World.cell?_alloc_lt _ _ _ (wB _ _ (hHeld.2.2.2.2))).trans (hHeld.2.2.2.2)⟩ (fun hHeld=>?_)
     clear hK K
     refine norm_ (a':=?_) ?_ ?_
     rotate_left
     ·show Act.put _ (some 15) _ = _
      simp only [Act.put,sT,sZ,sS,iW,iV]
      rfl
     refine last_ (i:=15) (N:=none) #[J,J,J,J,J,J,J,J,J,J,J,J,J,J,J,J] rfl rfl (by kernel_rfl) (by decide) (fun K hK=>?_)
     refine skip_ (w1:=?_) (by rfl) rfl ?_ ?_
     rotate_left
     ·go_simp
      rfl
     refine hK.out _ _ ?_
     clear hK K
     refine done_ (by kernel_rfl) ?_
     have w13e : ∃ w13 gCh,w13 = w12.alloc (.cells #[.int .u32 (IntKind.u32.wrap n0),.string x1,.int .i64 n1,.int .i64 n2,.int .i64 how,.int .i64 n3] 24)∧gCh = w12.heap.size:=⟨_,_,rfl,rfl⟩
     obtain ⟨w13,gCh,hw13,hgC⟩:=w13e
     have KC : Aside0 (w13.heap[gCh]? = some (.cells #[.int .u32 (IntKind.u32.wrap n0),.string x1,.int .i64 n1,.int .i64 n2,.int .i64 how,.int .i64 n3] 24 (0,0))):=⟨by rw [hw13,hgC];exact blk_new w12 _⟩
     have n_KR : Aside0 (w13.heap[gR]? = some (.cells #[.int .u32 0,.string (⟨#[]⟩ : ByteArray),.int .i64 0,.int .i64 0,.int .i64 0,.int .i64 0] 24 (0,0))):=⟨by rw [hw13];exact bA KR.out _⟩
     have n_HB : Aside0 (Below w.heap.size w w13):=⟨by rw [hw13];exact bL HB.out _⟩
     rw [← hw13,← hgC]
     clear KR S KN HB hw13 hgC hHeld y1 yn0 yn1 yn2 yn3
     have KR:=n_KR
     have HB:=n_HB
     clear n_KR n_HB
     generalize IntKind.u32.wrap n0 = u0 at KC h A7 ⊢
     have c0 : w13.cell? ⟨gCh,0,none⟩ = some (.int .u32 u0):=(bC KC.out 0).trans rfl
     have c1 : w13.cell? ⟨gCh,1,none⟩ = some (.string x1):=(bC KC.out 1).trans rfl
     have c2 : w13.cell? ⟨gCh,2,none⟩ = some (.int .i64 n1):=(bC KC.out 2).trans rfl
     have c3 : w13.cell? ⟨gCh,3,none⟩ = some (.int .i64 n2):=(bC KC.out 3).trans rfl
     have c4 : w13.cell? ⟨gCh,4,none⟩ = some (.int .i64 how):=(bC KC.out 4).trans rfl
     have c5 : w13.cell? ⟨gCh,5,none⟩ = some (.int .i64 n3):=(bC KC.out 5).trans rfl
     cases q with
     | false =>
      rw [if_neg (by simp)] at h
      simp only [Option.some.injEq,Prod.mk.injEq] at h
      obtain ⟨rfl,rfl,rfl,rfl,rfl,rfl,rfl⟩:=h
      go_wp2_with (first|(go_at_call 19;(with_reducible refine (book_right.calls _ _ _ _ _ _ _ _ ?s1 A7.out).mono ?_);(case s1=>exact Glob.below HG.out (by repeat (first|(with_reducible first|exact HB.out|apply bL|apply pN|apply bE)|exact HB.out)));rintro e w14 ⟨rfl,hb⟩;have n0_:=Am (below_step (by repeat (first|(with_reducible first|exact HB.out|apply bL|apply pN|apply bE)|exact HB.out)) hb);have n_KR:=Am (blk_below (g:=gR) (o:=.cells #[.int .u32 0,.string (⟨#[]⟩ : ByteArray),.int .i64 0,.int .i64 0,.int .i64 0,.int .i64 0] 24 (0,0)) (by (with_reducible repeat (first|refine bN ?_ _|refine bD ?_|refine bA ?_ _));exact KR.out) hb);have n_KC:=Am (blk_below (g:=gCh) (o:=.cells #[.int .u32 u0,.string x1,.int .i64 n1,.int .i64 n2,.int .i64 how,.int .i64 n3] 24 (0,0)) (by (with_reducible repeat (first|refine bN ?_ _|refine bD ?_|refine bA ?_ _));exact KC.out) hb);clear HB;have HB:=n0_;clear n0_;clear KR;have KR:=n_KR;clear n_KR;clear KC;have KC:=n_KC;clear n_KC;have xr0 : w14.cell? ⟨gR,0,none⟩ = some (.int .u32 0):=(bC KR.out 0).trans rfl;have fr0:=bF KR.out 0;have xr1 : w14.cell? ⟨gR,1,none⟩ = some (.string (⟨#[]⟩ : ByteArray)):=(bC KR.out 1).trans rfl;have fr1:=bF KR.out 1;have xr2 : w14.cell? ⟨gR,2,none⟩ = some (.int .i64 0):=(bC KR.out 2).trans rfl;have fr2:=bF KR.out 2;have xr3 : w14.cell? ⟨gR,3,none⟩ = some (.int .i64 0):=(bC KR.out 3).trans rfl;have fr3:=bF KR.out 3;have xr4 : w14.cell? ⟨gR,4,none⟩ = some (.int .i64 0):=(bC KR.out 4).trans rfl;have fr4:=bF KR.out 4;have xr5 : w14.cell? ⟨gR,5,none⟩ = some (.int .i64 0):=(bC KR.out 5).trans rfl;have fr5:=bF KR.out 5;clear hb))
      try rw [Exit.noGoto_ret]
      refine bodyPost_ret (results_ct rfl _ _ gR 24 #[.int .u32 0,.string (⟨#[]⟩ : ByteArray),.int .i64 0,.int .i64 0,.int .i64 0,.int .i64 0] (0,0) _ rfl (put6 (by (with_reducible repeat (first|refine bN ?_ _|refine bD ?_|refine bA ?_ _));exact KR.out) (.int .u32 0) (.string (⟨#[]⟩ : ByteArray)) (.int .i64 0) (.int .i64 0) (.int .i64 0) (.int .i64 0)) Tryd.underlying24 rfl (by kernel_rfl)) rfl ?_
      exact ⟨rfl,below6 (by repeat (first|(with_reducible first|exact HB.out|apply bL|apply pN|apply bE)|exact HB.out)) GEgR.out (.int .u32 0) (.string (⟨#[]⟩ : ByteArray)) (.int .i64 0) (.int .i64 0) (.int .i64 0) (.int .i64 0)⟩
     | true =>
      rw [if_pos rfl] at h
      simp only [Option.some.injEq,Prod.mk.injEq] at h
      obtain ⟨rfl,rfl,rfl,rfl,rfl,rfl,rfl⟩:=h
      go_wp2_with (first|(go_at_call 19;(with_reducible refine (book_right.calls _ _ _ _ _ _ _ _ ?s1 A7.out).mono ?_);(case s1=>exact Glob.below HG.out (by repeat (first|(with_reducible first|exact HB.out|apply bL|apply pN|apply bE)|exact HB.out)));rintro e w14 ⟨rfl,hb⟩;have n0_:=Am (below_step (by repeat (first|(with_reducible first|exact HB.out|apply bL|apply pN|apply bE)|exact HB.out)) hb);have n_KR:=Am (blk_below (g:=gR) (o:=.cells #[.int .u32 0,.string (⟨#[]⟩ : ByteArray),.int .i64 0,.int .i64 0,.int .i64 0,.int .i64 0] 24 (0,0)) (by (with_reducible repeat (first|refine bN ?_ _|refine bD ?_|refine bA ?_ _));exact KR.out) hb);have n_KC:=Am (blk_below (g:=gCh) (o:=.cells #[.int .u32 u0,.string x1,.int .i64 n1,.int .i64 n2,.int .i64 how,.int .i64 n3] 24 (0,0)) (by (with_reducible repeat (first|refine bN ?_ _|refine bD ?_|refine bA ?_ _));exact KC.out) hb);clear HB;have HB:=n0_;clear n0_;clear KR;have KR:=n_KR;clear n_KR;clear KC;have KC:=n_KC;clear n_KC;have xr0 : w14.cell? ⟨gR,0,none⟩ = some (.int .u32 0):=(bC KR.out 0).trans rfl;have fr0:=bF KR.out 0;have xr1 : w14.cell? ⟨gR,1,none⟩ = some (.string (⟨#[]⟩ : ByteArray)):=(bC KR.out 1).trans rfl;have fr1:=bF KR.out 1;have xr2 : w14.cell? ⟨gR,2,none⟩ = some (.int .i64 0):=(bC KR.out 2).trans rfl;have fr2:=bF KR.out 2;have xr3 : w14.cell? ⟨gR,3,none⟩ = some (.int .i64 0):=(bC KR.out 3).trans rfl;have fr3:=bF KR.out 3;have xr4 : w14.cell? ⟨gR,4,none⟩ = some (.int .i64 0):=(bC KR.out 4).trans rfl;have fr4:=bF KR.out 4;have xr5 : w14.cell? ⟨gR,5,none⟩ = some (.int .i64 0):=(bC KR.out 5).trans rfl;have fr5:=bF KR.out 5;have c0 : w14.cell? ⟨gCh,0,none⟩ = some (.int .u32 u0):=(bC KC.out 0).trans rfl;have c1 : w14.cell? ⟨gCh,1,none⟩ = some (.string x1):=(bC KC.out 1).trans rfl;have c2 : w14.cell? ⟨gCh,2,none⟩ = some (.int .i64 n1):=(bC KC.out 2).trans rfl;have c3 : w14.cell? ⟨gCh,3,none⟩ = some (.int .i64 n2):=(bC KC.out 3).trans rfl;have c4 : w14.cell? ⟨gCh,4,none⟩ = some (.int .i64 how):=(bC KC.out 4).trans rfl;have c5 : w14.cell? ⟨gCh,5,none⟩ = some (.int .i64 n3):=(bC KC.out 5).trans rfl;clear hb))
      try rw [Exit.noGoto_ret]
      refine bodyPost_ret (results_ct rfl _ _ gR 24 #[.int .u32 u0,.string x1,.int .i64 n1,.int .i64 n2,.int .i64 how,.int .i64 n3] (0,0) _ rfl (put6 (by (with_reducible repeat (first|refine bN ?_ _|refine bD ?_|refine bA ?_ _));exact KR.out) (.int .u32 u0) (.string x1) (.int .i64 n1) (.int .i64 n2) (.int .i64 how) (.int .i64 n3)) Tryd.underlying24 rfl (by kernel_rfl)) rfl ?_
      exact ⟨rfl,below6 (by repeat (first|(with_reducible first|exact HB.out|apply bL|apply pN|apply bE)|exact HB.out)) GEgR.out (.int .u32 u0) (.string x1) (.int .i64 n1) (.int .i64 n2) (.int .i64 how) (.int .i64 n3)⟩
end Go.Proofs.YtakdneopmojjdaaDoor.P
