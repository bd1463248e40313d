/- cut to what one law reaches -/
import Derived.Test.YtgidipomfbikiaaDoorQfCnfDig
import Derived.Test.YtgidipomfbikiaaDoorQfCnfRef
import Derived.Test.YtgidipomfbikiaaDoorQfP0
import Derived.Test.YtgidipomfbikiaaDoorQfP7
import Derived.Test.YtgidipomfbikiaaDoorQfP10
import Derived.Test.YtgidipomfbikiaaDoorQfP17
namespace Go.Proofs.YtgidipomfbikiaaDoor.Cnf
open Go.RowKit Go.Proofs.YtgidipomfbikiaaDoorW.PrintWords Go.Proofs.YtgidipomfbikiaaDoorW.PrintLast Go.Proofs.YtgidipomfbikiaaDoorW.PrintMore Go.Proofs.YtgidipomfbikiaaDoor.P Go.Proofs.YtgidipomfbikiaaDoor.NumM
set_option linter.unusedVariables false
set_option linter.unusedSimpArgs false
theorem joinTail_len (B : Nat) : ∀ (l : List (List UInt8)),(∀ x ∈ l,x.length≤B)→(Lib.joinTail [32] l).length≤(B + 1) * l.length
  | [],h=>by simp [Lib.joinTail]
  | a :: l,h=>by
    have ih:=joinTail_len B l (fun x hx=>h x (List.mem_cons_of_mem _ hx))
    have ha:=h a (List.mem_cons_self ..)
    rw [List.length_cons,Nat.mul_add]
    simp [Lib.joinTail] at ih ⊢;omega
theorem join_len (B : Nat) (l : List (List UInt8)) (h : ∀ x ∈ l,x.length≤B) : (Lib.join l [32]).length≤(B + 1) * l.length:=by
  cases l with
  | nil=>simp [Lib.join_nil]
  | cons a l =>
    rw [Lib.join_cons]
    have ih:=joinTail_len B l (fun x hx=>h x (List.mem_cons_of_mem _ hx))
    have ha:=h a (List.mem_cons_self ..)
    rw [List.length_cons,Nat.mul_add]
    simp;omega
/-- words, as a line -/
def line (ws : List (List UInt8)) : List UInt8:=Lib.join ws [32] ++ [10]
theorem row_f (ws : List ByteArray) (h1 : ws.length≤20) (h2 : ∀ x ∈ ws,x.size≤1000) : conf_row.f ws = some (mk (line (ws.map (·.data.toList))))∧(line (ws.map (·.data.toList))).length≤20021:=by
  have hl:=join_len 1000 (ws.map (·.data.toList)) (by
    intro x hx
    obtain ⟨y,hy,rfl⟩:=List.mem_map.1 hx
    exact h2 y hy)
  rw [List.length_map] at hl
  have hl2 : (1000 + 1) * ws.length≤20020:=by omega
  have e : (⟨#[32]⟩ : ByteArray).data.toList = [32]:=rfl
  refine ⟨?_,by unfold line;rw [List.length_append,List.length_singleton];omega⟩
  unfold conf_row.f strings_Join.f
  rw [if_pos (by omega),e,if_pos (by omega)]
  simp only [Option.bind_some]
  rw [if_pos (by show (Lib.join (ws.map (·.data.toList)) [32]).length + 1≤_;omega)]
  exact congrArg some (mk_append _ [10])
def wPolicy : List UInt8:=[112,111,108,105,99,121]
def wHalf : List UInt8:=[104,97,108,102]
def wQuantum : List UInt8:=[113,117,97,110,116,117,109]
def wRequeues : List UInt8:=[114,101,113,117,101,117,101,115]
def wWeights : List UInt8:=[119,101,105,103,104,116,115]
def wPartition : List UInt8:=[112,97,114,116,105,116,105,111,110]
def wOrder : List UInt8:=[111,114,100,101,114]
def wPriority : List UInt8:=[112,114,105,111,114,105,116,121]
def wLimit : List UInt8:=[108,105,109,105,116]
def wQos : List UInt8:=[113,111,115]
def wMost : List UInt8:=[109,111,115,116]
def wAccount : List UInt8:=[97,99,99,111,117,110,116]
def wParent : List UInt8:=[112,97,114,101,110,116]
def wShares : List UInt8:=[115,104,97,114,101,115]
/-- a policy's word -/
def polT (i : Int) : List UInt8:=(rdOf ByteArray.empty polW i).data.toList
def d_ (n : Int) : List UInt8:=dec n.toNat
def headT (h : Hd) : List UInt8:=line [wPolicy,polT h.f0] ++ line [wHalf,d_ h.f1] ++ line [wQuantum,d_ h.f2] ++ line [wRequeues,d_ h.f3] ++ line [wWeights,d_ h.f4,d_ h.f5,d_ h.f6,d_ h.f7,d_ h.f8]
def partT (p : S50) : List UInt8:=line [wPartition,p.f0.data.toList,wOrder,d_ p.f1,wPriority,d_ p.f2,wLimit,d_ p.f3]
def classT (q : S52) : List UInt8:=line [wQos,q.f0.data.toList,wPriority,d_ q.f1,wMost,d_ q.f2]
def accT (a : S48) : List UInt8:=if a.f1.toList = [] then line [wAccount,a.f0.data.toList,wShares,d_ a.f2] else line [wAccount,a.f0.data.toList,wParent,a.f1.data.toList,wShares,d_ a.f2]
/-- a configuration's text -/
def textT (h : Hd) (P : List S50) (Q : List S52) (A : List S48) : List UInt8:=headT h ++ P.flatMap partT ++ Q.flatMap classT ++ A.flatMap accT
theorem itoa_n {x : Int} (h0 : 0≤x) (h1 : x≤4294967296) : strconv_Itoa_30.f x = some (mk (d_ x)):=by
  have:=itoa_nat x.toNat (by omega)
  rwa [Int.toNat_of_nonneg h0] at this
theorem digits_n {x : Int} (h0 : 0≤x) (h1 : x≤4294967296) : Ev (fun k=>gangerref06_Digits.f k x) (mk (d_ x)):=by
  have:=digits_eq x.toNat (by omega)
  rwa [Int.toNat_of_nonneg h0] at this
theorem d_len {x : Int} (h1 : x≤4294967296) : (d_ x).length≤10:=dec_len 10 x.toNat (by omega) (by omega)
theorem inB_iff (n lo hi : Int) : inB n lo hi = true ↔ lo≤n∧n≤hi:=by unfold inB;simp
structure HB (h : Hd) : Prop where
  b0 : 1≤h.f0∧h.f0≤4
  b1 : 1≤h.f1∧h.f1≤4294967296
  b2 : 1≤h.f2∧h.f2≤1073741824
  b3 : 0≤h.f3∧h.f3≤100
  b4 : 0≤h.f4∧h.f4≤1048576
  b5 : 0≤h.f5∧h.f5≤1048576
  b6 : 0≤h.f6∧h.f6≤1048576
  b7 : 0≤h.f7∧h.f7≤1048576
  b8 : 0≤h.f8∧h.f8≤1048576
theorem hok_b {h : Hd} (e : HOK h = true) : HB h:=by
  unfold HOK at e
  simp only [Bool.and_eq_true,inB_iff] at e
  obtain ⟨⟨⟨⟨⟨⟨⟨⟨e4,e5⟩,e6⟩,e7⟩,e8⟩,e0⟩,e1⟩,e2⟩,e3⟩:=e
  exact ⟨e0,e1,e2,e3,e4,e5,e6,e7,e8⟩
structure CB (h : Hd) (P : List S50) (Q : List S52) (A : List S48) : Prop where
  hb : HB h
  lp : 1≤P.length∧P.length≤8
  lq : 1≤Q.length∧Q.length≤8
  la : 1≤A.length∧A.length≤50
  p : ∀ x ∈ P,(0≤x.f1∧x.f1≤10)∧(0≤x.f2∧x.f2≤1048576)∧(1≤x.f3∧x.f3≤1073741824)
  q : ∀ x ∈ Q,(0≤x.f1∧x.f1≤1048576)∧(1≤x.f2∧x.f2≤1048576)
  np : namesOk [] (P.map (·.f0)) = true
  nq : namesOk [] (Q.map (·.f0)) = true
  na : namesOk [] (A.map (·.f0)) = true
  acc : accOk [] A = true
theorem cok_b {h : Hd} {P : List S50} {Q : List S52} {A : List S48} (e : COK h P Q A = true) : CB h P Q A:=by
  unfold COK POK QOK TOK at e
  simp only [Bool.and_eq_true,inB_iff] at e
  obtain ⟨⟨⟨e1,⟨e2,e3⟩,e4⟩,⟨e5,e6⟩,e7⟩,⟨e8,e9⟩,e10⟩:=e
  refine ⟨hok_b e1,by omega,by omega,by omega,fun x hx=>?_,fun x hx=>?_,e4,e7,e10,e8⟩
  · have:=List.all_eq_true.1 e2 x hx
    unfold partOk at this
    simp only [Bool.and_eq_true,inB_iff] at this
    omega
  · have:=List.all_eq_true.1 e5 x hx
    unfold classOk at this
    simp only [Bool.and_eq_true,inB_iff] at this
    omega
theorem accOk_b : ∀ (s p : List S48),accOk p s = true→∀ x ∈ s,1≤x.f2∧x.f2≤1048576
  | [],p,_,x,hx=>by cases hx
  | a :: s,p,h,x,hx=>by
    rw [accOk] at h
    simp only [Bool.and_eq_true,inB_iff] at h
    rcases List.mem_cons.1 hx with q|q
    · subst q;exact h.1.1.1
    · exact accOk_b s _ h.2 x q
end Go.Proofs.YtgidipomfbikiaaDoor.Cnf
