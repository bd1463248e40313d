/- cut to what one law reaches -/
import Derived.Test.YtakdneopmojjdaaDoorBkBookSplit
import Derived.Test.YtakdneopmojjdaaDoorBkBookName
import Derived.Test.YtakdneopmojjdaaDoorBkP0
import Derived.Test.YtakdneopmojjdaaDoorBkP2
import Derived.Test.YtakdneopmojjdaaDoorBkP4
import Derived.Test.YtakdneopmojjdaaDoorBkP5
namespace Go.Proofs.YtakdneopmojjdaaDoor.Bk
open Go.RowKit Go.Proofs.YtakdneopmojjdaaDoorW.PrintWords Go.Proofs.YtakdneopmojjdaaDoorW.PrintLast Go.Proofs.YtakdneopmojjdaaDoorW.PrintMore Go.Proofs.YtakdneopmojjdaaDoor.P Go.Proofs.YtakdneopmojjdaaDoor.NumM
set_option linter.unusedVariables false
set_option linter.unusedSimpArgs false
theorem digsT_at (w : List UInt8) (hw : w.length≤13) : ∀ (r p : List UInt8),w = p ++ r→∀ k n : Nat,r.length < k→n < 10 ^ p.length→digsT k (mk w) p.length (n : Int) = if r.all isD = true then some ((val r n : Nat) : Int) else none
  | [],p,e,k,n,hk,hn=>by
    obtain ⟨k,rfl⟩ : ∃ j,k = j + 1:=⟨k - 1,by simp at hk;omega⟩
    rw [digsT,dif_neg (by rw [mk_size,e];simp)]
    simp [val]
  | c :: r,p,e,k,n,hk,hn=>by
    obtain ⟨k,rfl⟩ : ∃ j,k = j + 1:=⟨k - 1,by simp at hk;omega⟩
    have hlt : p.length < (mk w).size:=by rw [mk_size,e];simp
    have hc : (mk w)[p.length]'hlt = c:=by
      show w.toArray[p.length]'_ = c
      simp [e]
    have hpl : p.length≤12:=by rw [e] at hw;simp at hw;omega
    have h12 : 10 ^ p.length≤10 ^ 12:=Nat.pow_le_pow_right (by omega) hpl
    rw [digsT,dif_pos hlt,hc,List.all_cons]
    cases hd : isD c with
    | false =>
      rw [if_pos (by unfold isD at hd;simp at hd;omega)]
      rfl
    | true =>
      have hd2:=hd
      unfold isD at hd2
      simp at hd2
      rw [if_neg (by rw [mk_size];omega)]
      have e1 : wrap64 (wrap64 (10 * (n : Int)) + ((c.toNat : Int) - 48)) = ((10 * n + (c.toNat - 48) : Nat) : Int):=by
        rw [w64 (by rw [w64 (by omega)];omega),w64 (by omega)];omega
      rw [e1,show p.length + 1 = (p ++ [c]).length by simp,digsT_at w hw r (p ++ [c]) (by simpa using e) k _ (by simp at hk;omega) (by simp [Nat.pow_succ];omega)]
      simp [val]
theorem number_f (w : List UInt8) : ∃ v b,book_number.f (mk w) = some (v,b)∧((b = true∧numP w = some v) ∨ (b = false∧numP w = none)):=by
  unfold book_number.f
  rw [mk_size]
  by_cases h13 : 13 < w.length
  · have e : digsT (w.length + 1) (mk w) 0 0 = none:=by
      rw [digsT,dif_pos (by rw [mk_size];omega),if_pos (Or.inr (Or.inr (by rw [mk_size];omega)))]
    rw [e]
    refine ⟨0,false,rfl,Or.inr ⟨rfl,?_⟩⟩
    unfold numP;rw [if_neg (fun q=>by omega)]
  · have e:=digsT_at w (by omega) w [] rfl (w.length + 1) 0 (by omega) (by simp)
    have e : digsT (w.length + 1) (mk w) 0 0 = if w.all isD = true then some ((val w 0 : Nat) : Int) else none:=e
    rw [e]
    by_cases hd : w.all isD = true
    · rw [if_pos hd]
      have hv:=val_lt w 0 1 hd (by omega)
      have hp : 10 ^ w.length≤10 ^ 13:=Nat.pow_le_pow_right (by omega) (by omega)
      have hit:=itoa_nat (val w 0) (by omega)
      dsimp only
      rw [hit]
      refine ⟨(val w 0 : Nat),(mk w).toList == (mk (dec (val w 0))).toList,rfl,?_⟩
      rw [mk_toList,mk_toList]
      have hn:=numP_dec (n:=val w 0) (by omega)
      by_cases hq : w = dec (val w 0)
      · left
        rw [← hq] at hn
        exact ⟨by rw [← hq];simp,hn⟩
      · right
        refine ⟨by simpa using hq,?_⟩
        cases hx : numP w with
        | none=>rfl
        | some x =>
          exfalso
          obtain ⟨q1,q2,q3⟩:=numP_canon hx
          apply hq
          unfold numP at hx
          split at hx
          · have:=Option.some.inj hx
            rw [q1]
            unfold d_
            rw [dec_val]
          · cases hx
    · rw [if_neg hd]
      refine ⟨0,false,rfl,Or.inr ⟨rfl,?_⟩⟩
      unfold numP;rw [if_neg (fun q=>hd q.2.2.1)]
/-- a charge's line -/
def lineL (c : S24) : List UInt8:=Lib.join [d_ c.f0,c.f1.data.toList,d_ c.f2 ++ 120 :: d_ c.f3,(wordT c.f4).data.toList,d_ c.f5] [32]
theorem five {h : Int} (e : wordOk h = true) : h = 0 ∨ h = 5 ∨ h = 6 ∨ h = 7 ∨ h = 8:=by
  unfold wordOk inB at e;simp at e;omega
theorem word_size {h : Int} (e : wordOk h = true) : (wordT h).size≤9∧(wordT h).toList ≠ []∧(32 : UInt8) ∉ (wordT h).data.toList:=by
  rcases five e with rfl|rfl|rfl|rfl|rfl <;> exact ⟨by decide +kernel,by decide +kernel,by decide +kernel⟩
theorem right_parts {c : S24} (h : rightB c = true) : NameOk c.f1 = true∧wordOk c.f4 = true:=by
  unfold rightB at h
  simp only [Bool.and_eq_true] at h
  exact ⟨h.1.1.1.1.2,h.1.2⟩
theorem line_f (c : S24) (h32 : c.f0≤4294967295) (hs : c.f1.size≤1000000) : book_Line.f c.f0 c.f1 c.f2 c.f3 c.f4 c.f5 = if rightB c = true then some (mk (lineL c),0) else some ((⟨#[]⟩ : ByteArray),200):=by
  unfold book_Line.f
  rw [right_f hs]
  show (if rightB c = true then _ else _) = _
  by_cases hr : rightB c = true
  · rw [if_pos hr,if_pos hr]
    have q:=right_num hr
    obtain ⟨hn,hw⟩:=right_parts hr
    have hz:=name_size hn
    have l0:=d_len (x:=c.f0) (by omega)
    have l2:=d_len (x:=c.f2) (by omega)
    have l3:=d_len (x:=c.f3) (by omega)
    have l5:=d_len (x:=c.f5) (by omega)
    have lw:=word_size hw
    have h5:=five hw
    rw [itoa_n (x:=c.f2) (by omega) (by omega),itoa_n (x:=c.f3) (by omega) (by omega),w64 (by omega),itoa_n (x:=c.f0) (by omega) (by omega),itoa_n (x:=c.f5) (by omega) (by omega)]
    have e1 : (mk (d_ c.f2)).size + 1≤9223372036854775807:=by rw [mk_size];omega
    have e2 : (mk (d_ c.f2) ++ (⟨#[120]⟩ : ByteArray)) = mk (d_ c.f2 ++ [120]):=mk_append (d_ c.f2) [120]
    have e3 : (mk (d_ c.f2 ++ [120])).size + (mk (d_ c.f3)).size≤9223372036854775807:=by rw [mk_size,mk_size];simp;omega
    unfold book_names.f
    simp only [Option.bind_some]
    rw [if_pos e1,e2,if_pos e3,if_pos (by omega),if_pos (by omega),mk_append]
    show (strings_Join.f [mk (d_ c.f0),c.f1,mk (d_ c.f2 ++ [120] ++ d_ c.f3),wordT c.f4,mk (d_ c.f5)] (⟨#[32]⟩ : ByteArray)).bind (fun t133=>some (t133,(0 : Int))) = _
    have em : ([mk (d_ c.f0),c.f1,mk (d_ c.f2 ++ [120] ++ d_ c.f3),wordT c.f4,mk (d_ c.f5)].map (·.data.toList)) = [d_ c.f0,c.f1.data.toList,d_ c.f2 ++ 120 :: d_ c.f3,(wordT c.f4).data.toList,d_ c.f5]:=by
      simp [mk_data]
    have hl : (Lib.join [d_ c.f0,c.f1.data.toList,d_ c.f2 ++ 120 :: d_ c.f3,(wordT c.f4).data.toList,d_ c.f5] [32]).length≤140737488355328:=by
      have z1 : c.f1.data.toList.length = c.f1.size:=by simp
      have z2 : (wordT c.f4).data.toList.length = (wordT c.f4).size:=by simp
      simp [Lib.join,Lib.joinTail]
      omega
    unfold strings_Join.f
    rw [em,if_pos (by simp),if_pos (by exact hl)]
    rfl
  · rw [if_neg hr,if_neg hr]
theorem spl_le (c : UInt8) : ∀ (l w : List UInt8),w ∈ spl c l→w.length≤l.length:=by
  intro l
  induction h : l.length using Nat.strongRecOn generalizing l with
  | ind n ih =>
    intro w hw
    rcases cut_at c l with hm|⟨a,b,rfl,hm⟩
    · rw [spl_miss c l hm] at hw
      rw [List.mem_singleton.1 hw];omega
    · rw [spl_hit c b a hm] at hw
      rw [List.length_append,List.length_cons] at h
      rcases List.mem_cons.1 hw with e|e
      · rw [e];omega
      · have:=ih b.length (by omega) b rfl w e
        omega
theorem index_words (x : ByteArray) : ∃ r,Ev (fun k=>slices_Index_string_string.f k wordsL x) r∧(r < 0 ∨ (0≤r∧r < 9∧x.toList = (wordT r).toList)):=by
  have G : ∀ (n : Nat) (i : Int),n≤9→i = 9 - (n : Int)→∃ r,Ev (fun k=>slices_Index_string_string.l0 k wordsL x 9 i) r∧(r < 0 ∨ (0≤r∧r < 9∧x.toList = (wordT r).toList)):=by
    intro n
    induction n with
    | zero =>
      intro i _ hi
      refine ⟨-1,?_,Or.inl (by omega)⟩
      refine Ev.step (fun k=>by rw [slices_Index_string_string.l0]) ?_
      exact ev_neg (by omega) (Ev.now _)
    | succ n ihn =>
      intro i hn hi
      have hl : (wordsL.length : Int) = 9:=rfl
      by_cases e : x.toList = (rdOf ByteArray.empty wordsL i).toList
      · refine ⟨i,?_,Or.inr ⟨by omega,by omega,e⟩⟩
        refine Ev.step (fun k=>by rw [slices_Index_string_string.l0]) ?_
        exact ev_pos (by omega) (ev_pos (by omega) (ev_pos (by omega) (ev_pos e (Ev.now _))))
      · obtain ⟨r,h1,h2⟩:=ihn (i + 1) (by omega) (by omega)
        refine ⟨r,?_,h2⟩
        refine Ev.step (fun k=>by rw [slices_Index_string_string.l0]) ?_
        refine ev_pos (by omega) (ev_pos (by omega) (ev_pos (by omega) (ev_neg e ?_)))
        rw [w64 (by omega)]
        exact h1
  exact G 9 0 (by omega) (by omega)
theorem index_word {h : Int} (e : wordOk h = true) : Ev (fun k=>slices_Index_string_string.f k wordsL (wordT h)) h:=by
  rcases five e with rfl|rfl|rfl|rfl|rfl <;> exact Ev.of (fun k=>slices_Index_string_string.mono _ _ k) (k:=20) (by decide +kernel)
theorem nums_f (w0 w1 w2 w3 : List UInt8) : ∃ r,numsF [mk w0,mk w1,mk w2,mk w3] 0 [0,0,0,0] = some r ∧
    ((∃ n0 n1 n2 n3,r = some [n0,n1,n2,n3]∧numP w0 = some n0∧numP w1 = some n1∧numP w2 = some n2∧numP w3 = some n3∧n0 < 4294967296) ∨
     (r = none∧¬ (∃ n0 n1 n2 n3,numP w0 = some n0∧numP w1 = some n1∧numP w2 = some n2∧numP w3 = some n3∧n0 < 4294967296))):=by
  obtain ⟨v0,b0,e0,k0⟩:=number_f w0
  obtain ⟨v1,b1,e1,k1⟩:=number_f w1
  obtain ⟨v2,b2,e2,k2⟩:=number_f w2
  obtain ⟨v3,b3,e3,k3⟩:=number_f w3
  rw [numsF,e0,Option.bind_some]
  dsimp only
  rcases k0 with ⟨rfl,k0⟩|⟨rfl,k0⟩
  case inr=>exact ⟨none,by rw [if_neg (by simp)],Or.inr ⟨rfl,fun ⟨n0,n1,n2,n3,q,_⟩=>by rw [k0] at q;cases q⟩⟩
  rw [if_pos rfl]
  by_cases g : 4294967296≤v0
  · exact ⟨none,by rw [if_pos ⟨rfl,g⟩],Or.inr ⟨rfl,fun ⟨n0,n1,n2,n3,q,_,_,_,q5⟩=>by rw [k0] at q;have:=Option.some.inj q;omega⟩⟩
  rw [if_neg (fun q=>g q.2),numsF,e1,Option.bind_some]
  dsimp only
  rcases k1 with ⟨rfl,k1⟩|⟨rfl,k1⟩
  case inr=>exact ⟨none,by rw [if_neg (by simp)],Or.inr ⟨rfl,fun ⟨n0,n1,n2,n3,_,q,_⟩=>by rw [k1] at q;cases q⟩⟩
  rw [if_pos rfl,if_neg (fun q=>by cases q.1),numsF,e2,Option.bind_some]
  dsimp only
  rcases k2 with ⟨rfl,k2⟩|⟨rfl,k2⟩
  case inr=>exact ⟨none,by rw [if_neg (by simp)],Or.inr ⟨rfl,fun ⟨n0,n1,n2,n3,_,_,q,_⟩=>by rw [k2] at q;cases q⟩⟩
  rw [if_pos rfl,if_neg (fun q=>by cases q.1),numsF,e3,Option.bind_some]
  dsimp only
  rcases k3 with ⟨rfl,k3⟩|⟨rfl,k3⟩
  case inr=>exact ⟨none,by rw [if_neg (by simp)],Or.inr ⟨rfl,fun ⟨n0,n1,n2,n3,_,_,_,q,_⟩=>by rw [k3] at q;cases q⟩⟩
  rw [if_pos rfl,if_neg (fun q=>by cases q.1),numsF]
  exact ⟨some [v0,v1,v2,v3],rfl,Or.inl ⟨v0,v1,v2,v3,rfl,k0,k1,k2,k3,by omega⟩⟩
theorem u32w {x : Int} (h : 0≤x∧x < 4294967296) : IntKind.u32.wrap x = x:=by rw [IntKind.wrap_u32];omega
theorem toList_data (a : ByteArray) : a.toList = a.data.toList:=by rw [mk_self a,mk_toList];rfl
/-- what is written is read -/
theorem parse_line (c : S24) (hr : rightB c = true) (h32 : c.f0≤4294967295) : Ev (fun k=>book_Parse.f k (mk (lineL c))) (c.f0,c.f1,c.f2,c.f3,c.f4,c.f5,0):=by
  have q:=right_num hr
  obtain ⟨hn,hw⟩:=right_parts hr
  have hz:=name_size hn
  have lw:=word_size hw
  have l0:=d_len (x:=c.f0) (by omega)
  have l2:=d_len (x:=c.f2) (by omega)
  have l3:=d_len (x:=c.f3) (by omega)
  have l5:=d_len (x:=c.f5) (by omega)
  have z1 : c.f1.data.toList.length = c.f1.size:=by simp
  have z2 : (wordT c.f4).data.toList.length = (wordT c.f4).size:=by simp
  have hl : (mk (lineL c)).size≤1000000:=by
    rw [mk_size];unfold lineL;simp [Lib.join,Lib.joinTail];omega
  obtain ⟨l,hs,hm⟩:=split_f (mk (lineL c)) hl
  rw [mk_data] at hm
  have n32 : isD 32 = false:=by decide
  have n120 : isD 120 = false:=by decide
  unfold lineL at hm
  rw [join_spl _ (by simp) (by
    intro w hw'
    simp only [List.mem_cons,List.not_mem_nil,or_false] at hw'
    rcases hw' with rfl|rfl|rfl|rfl|rfl
    · exact d_no n32
    · exact name_no hn (Or.inl rfl)
    · intro z
      rcases List.mem_append.1 z with z|z
      · exact d_no n32 z
      · rcases List.mem_cons.1 z with z|z
        · revert z;decide
        · exact d_no n32 z
    · exact lw.2.2
    · exact d_no n32)] at hm
  have hl5 : l = [mk (d_ c.f0),c.f1,mk (d_ c.f2 ++ 120 :: d_ c.f3),wordT c.f4,mk (d_ c.f5)]:=by
    match l,hm with
    | [a,b,d,e,f],hm =>
      simp only [List.map_cons,List.map_nil,List.cons.injEq,and_true] at hm
      obtain ⟨h1,h2,h3,h4,h5⟩:=hm
      rw [mk_self a,mk_self b,mk_self d,mk_self e,mk_self f,h1,h2,h3,h4,h5,← mk_self,← mk_self]
    | [],hm=>simp at hm
    | [_],hm=>simp at hm
    | [_,_],hm=>simp at hm
    | [_,_,_],hm=>simp at hm
    | [_,_,_,_],hm=>simp at hm
    | _ :: _ :: _ :: _ :: _ :: _ :: _,hm=>simp at hm
  subst hl5
  unfold book_Parse.f
  rw [hs]
  refine Ev.bind (Ev.now _) ?_
  dsimp only
  have hc : strings_Cut.f (mk (d_ c.f2 ++ 120 :: d_ c.f3)) (⟨#[120]⟩ : ByteArray) = some (mk (d_ c.f2),mk (d_ c.f3),true):=by
    unfold strings_Cut.f
    rw [if_pos (by rw [mk_size];simp;omega),mk_data]
    show some (mk (Lib.cut (d_ c.f2 ++ 120 :: d_ c.f3) [120]).1,mk (Lib.cut (d_ c.f2 ++ 120 :: d_ c.f3) [120]).2.1,(Lib.cut (d_ c.f2 ++ 120 :: d_ c.f3) [120]).2.2) = _
    rw [cut_hit 120 _ _ (d_no n120)]
  rw [hc]
  refine Ev.bind (Ev.now _) (Ev.bind (index_word hw) ?_)
  dsimp only
  rw [name_f (by omega),hn]
  obtain ⟨r,hf,hr2⟩:=nums_f (d_ c.f0) (d_ c.f2) (d_ c.f3) (d_ c.f5)
  have p0:=numP_d (x:=c.f0) (by omega) (by omega)
  have p2:=numP_d (x:=c.f2) (by omega) (by omega)
  have p3:=numP_d (x:=c.f3) (by omega) (by omega)
  have p5:=numP_d (x:=c.f5) (by omega) (by omega)
  rw [hf]
  rcases hr2 with ⟨n0,n1,n2,n3,rfl,k0,k1,k2,k3,k4⟩|⟨_,hno⟩
  case inr=>exact absurd ⟨_,_,_,_,p0,p2,p3,p5,by omega⟩ hno
  rw [p0] at k0;rw [p2] at k1;rw [p3] at k2;rw [p5] at k3
  obtain rfl:=Option.some.inj k0
  obtain rfl:=Option.some.inj k1
  obtain rfl:=Option.some.inj k2
  obtain rfl:=Option.some.inj k3
  have h5:=five hw
  refine ev_pos rfl (ev_neg (by omega) (ev_neg lw.2.1 (Ev.bind (Ev.now _) (ev_pos rfl (Ev.bind (Ev.now _) ?_)))))
  dsimp only
  rw [u32w (by omega),right_f (by omega)]
  refine Ev.bind (Ev.now _) ?_
  exact ev_pos hr (Ev.now _)
/-- what is read is a line, or told as none -/
theorem parse_any (line : ByteArray) (hl : line.size≤600) : ∃ c e,Ev (fun k=>book_Parse.f k line) (c.f0,c.f1,c.f2,c.f3,c.f4,c.f5,e) ∧
    ((e = 0∧rightB c = true∧c.f0≤4294967295∧c.f1.size≤600∧line.data.toList = lineL c) ∨ (c = ⟨0,(⟨#[]⟩ : ByteArray),0,0,0,0⟩∧(e = 60 ∨ e = 200))):=by
  obtain ⟨l,hs,hm⟩:=split_f line (by omega)
  unfold book_Parse.f
  rw [hs]
  by_cases h5 : l.length = 5
  case neg =>
    refine ⟨⟨0,(⟨#[]⟩ : ByteArray),0,0,0,0⟩,60,Ev.bind (Ev.now _) ?_,Or.inr ⟨rfl,Or.inl rfl⟩⟩
    split
    · simp at h5
    · exact Ev.now _
  obtain ⟨x0,x1,x2,x3,x4,rfl⟩ : ∃ x0 x1 x2 x3 x4,l = [x0,x1,x2,x3,x4]:=by
    match l,h5 with
    | [x0,x1,x2,x3,x4],_=>exact ⟨_,_,_,_,_,rfl⟩
  have hz : ∀ w ∈ ([x0,x1,x2,x3,x4] : List ByteArray),w.size≤600:=by
    intro w hw
    have h1 : w.data.toList ∈ spl 32 line.data.toList:=by rw [← hm];exact List.mem_map_of_mem hw
    have h2:=spl_le 32 _ _ h1
    have h3 : w.data.toList.length = w.size:=by simp
    have h4 : line.data.toList.length = line.size:=by simp
    omega
  have s1:=hz x1 (by simp)
  have s2:=hz x2 (by simp)
  have hj:=spl_join line.data.toList
  rw [← hm] at hj
  simp only [List.map_cons,List.map_nil] at hj
  have bad : ∀ (v : Int),(v = 60 ∨ v = 200)→∀ F : Nat→Option (Int × ByteArray × Int × Int × Int × Int × Int),Ev F (0,(⟨#[]⟩ : ByteArray),0,0,0,0,v)→∃ c e,Ev F (c.f0,c.f1,c.f2,c.f3,c.f4,c.f5,e) ∧
    ((e = 0∧rightB c = true∧c.f0≤4294967295∧c.f1.size≤600∧line.data.toList = lineL c) ∨ (c = ⟨0,(⟨#[]⟩ : ByteArray),0,0,0,0⟩∧(e = 60 ∨ e = 200))) :=
    fun v hv F hF=>⟨⟨0,(⟨#[]⟩ : ByteArray),0,0,0,0⟩,v,hF,Or.inr ⟨rfl,hv⟩⟩
  obtain ⟨how,hI,hH⟩:=index_words x3
  have cutf : strings_Cut.f x2 (⟨#[120]⟩ : ByteArray) = some (mk (Lib.cut x2.data.toList [120]).1,mk (Lib.cut x2.data.toList [120]).2.1,(Lib.cut x2.data.toList [120]).2.2):=by
    unfold strings_Cut.f
    rw [if_pos (by omega)]
    rfl
  rcases cut_at 120 x2.data.toList with hmiss|⟨a,b,hab,hmiss⟩
  · rw [cut_miss 120 _ hmiss] at cutf
    refine bad 60 (Or.inl rfl) _ (Ev.bind (Ev.now _) ?_)
    dsimp only
    rw [cutf]
    refine Ev.bind (Ev.now _) (Ev.bind hI ?_)
    exact ev_neg (by simp) (Ev.now _)
  rw [hab,cut_hit 120 a b hmiss] at cutf
  rcases hH with hneg|⟨g0,g9,gx⟩
  · refine bad 60 (Or.inl rfl) _ (Ev.bind (Ev.now _) ?_)
    dsimp only
    rw [cutf]
    refine Ev.bind (Ev.now _) (Ev.bind hI ?_)
    exact ev_pos rfl (ev_pos hneg (Ev.now _))
  by_cases hx3 : x3.toList = []
  · refine bad 60 (Or.inl rfl) _ (Ev.bind (Ev.now _) ?_)
    dsimp only
    rw [cutf]
    refine Ev.bind (Ev.now _) (Ev.bind hI ?_)
    exact ev_pos rfl (ev_neg (by omega) (ev_pos hx3 (Ev.now _)))
  cases hn : NameOk x1 with
  | false =>
    refine bad 60 (Or.inl rfl) _ (Ev.bind (Ev.now _) ?_)
    dsimp only
    rw [cutf]
    refine Ev.bind (Ev.now _) (Ev.bind hI ?_)
    rw [name_f (by omega),hn]
    exact ev_pos rfl (ev_neg (by omega) (ev_neg hx3 (Ev.bind (Ev.now _) (ev_neg (by simp) (Ev.now _)))))
  | true =>
    obtain ⟨r,hf,hr⟩:=nums_f x0.data.toList a b x4.data.toList
    rw [← mk_self x0,← mk_self x4] at hf
    rcases hr with ⟨n0,n1,n2,n3,rfl,k0,k1,k2,k3,k4⟩|⟨rfl,_⟩
    case inr =>
      refine bad 60 (Or.inl rfl) _ (Ev.bind (Ev.now _) ?_)
      dsimp only
      rw [cutf]
      refine Ev.bind (Ev.now _) (Ev.bind hI ?_)
      rw [name_f (by omega),hn]
      refine ev_pos rfl (ev_neg (by omega) (ev_neg hx3 (Ev.bind (Ev.now _) (ev_pos rfl ?_))))
      dsimp only
      rw [hf]
      exact Ev.bind (Ev.now _) (Ev.now _)
    obtain ⟨c0,c1,_⟩:=numP_canon k0
    obtain ⟨c2,_,_⟩:=numP_canon k1
    obtain ⟨c3,_,_⟩:=numP_canon k2
    obtain ⟨c4,_,_⟩:=numP_canon k3
    by_cases hR : rightB ⟨n0,x1,n1,n2,how,n3⟩ = true
    · refine ⟨⟨n0,x1,n1,n2,how,n3⟩,0,Ev.bind (Ev.now _) ?_,Or.inl ⟨rfl,hR,by show n0≤_;omega,s1,?_⟩⟩
      · dsimp only
        rw [cutf]
        refine Ev.bind (Ev.now _) (Ev.bind hI ?_)
        rw [name_f (by omega),hn]
        refine ev_pos rfl (ev_neg (by omega) (ev_neg hx3 (Ev.bind (Ev.now _) (ev_pos rfl ?_))))
        dsimp only
        rw [hf]
        refine Ev.bind (Ev.now _) ?_
        dsimp only
        rw [u32w (by omega),right_f (by omega)]
        exact Ev.bind (Ev.now _) (ev_pos hR (Ev.now _))
      · unfold lineL
        dsimp only
        rw [toList_data,toList_data] at gx
        rw [← c0,← c2,← c3,← c4,← gx,← hab]
        exact hj.symm
    · refine bad 200 (Or.inr rfl) _ (Ev.bind (Ev.now _) ?_)
      dsimp only
      rw [cutf]
      refine Ev.bind (Ev.now _) (Ev.bind hI ?_)
      rw [name_f (by omega),hn]
      refine ev_pos rfl (ev_neg (by omega) (ev_neg hx3 (Ev.bind (Ev.now _) (ev_pos rfl ?_))))
      dsimp only
      rw [hf]
      refine Ev.bind (Ev.now _) ?_
      dsimp only
      rw [u32w (by omega),right_f (by omega)]
      exact Ev.bind (Ev.now _) (ev_neg hR (Ev.now _))
end Go.Proofs.YtakdneopmojjdaaDoor.Bk
