import Derived.Test.YtpkococfmohmiaaDoorIdxFacts
import Derived.Test.YtpkococfmohmiaaDoorP0
import Derived.Test.YtpkococfmohmiaaDoorP15
namespace Go.Proofs.YtpkococfmohmiaaDoor.Pure
open Go.RowKit Go.Proofs.YtpkococfmohmiaaDoorW.PrintWords Go.Proofs.YtpkococfmohmiaaDoorW.PrintLast Go.Proofs.YtpkococfmohmiaaDoorW.PrintMore Go.Proofs.YtpkococfmohmiaaDoor.P Go.Proofs.YtpkococfmohmiaaDoor.Idx
set_option linter.unusedVariables false
set_option linter.unusedSimpArgs false
def it3 (a b s : Nat) : S53 := ⟨0, a, b, s, false⟩
/-- the numbers, by their steps -/
def prog (a s i n : Nat) : List Int := (List.range' i n).map fun k : Nat => ((a + s * k : Nat) : Int)
theorem prog_good (a s : Nat) (hs : 0 < s) : ∀ (n i : Nat) (p : Int), p < ((a + s * i : Nat) : Int) → a + s * (i + n) ≤ 1000 + s → good p (prog a s i n) = true
  | 0, i, p, hp, h => by simp [prog, good]
  | n + 1, i, p, hp, h => by
    have e : s * (i + 1) = s * i + s := Nat.mul_succ s i
    have e2 : s * (i + (n + 1)) = s * (i + 1 + n) := by rw [Nat.add_assoc, Nat.add_comm 1 n]
    have h1 : s * (i + 1) ≤ s * (i + 1 + n) := Nat.mul_le_mul_left s (by omega)
    have ih := prog_good a s hs n (i + 1) ((a + s * i : Nat) : Int) (by rw [e]; omega) (by omega)
    unfold prog at ih ⊢
    rw [List.range'_succ, List.map_cons, good, ih, decide_eq_true hp, decide_eq_true (by omega)]; rfl
theorem mem_prog (a s n : Nat) (x : Int) : x ∈ prog a s 0 n ↔ ∃ k, k < n ∧ x = ((a + s * k : Nat) : Int) := by
  unfold prog
  rw [List.mem_map]
  constructor
  · rintro ⟨k, hk, rfl⟩
    rw [List.mem_range'_1] at hk
    exact ⟨k, by omega, rfl⟩
  · rintro ⟨k, hk, rfl⟩
    exact ⟨k, by rw [List.mem_range'_1]; omega, rfl⟩
theorem inI_prog (a len s j : Nat) (hs : 0 < s) : inI (it3 a (a + len) s) j = true ↔ ∃ k, k < len / s + 1 ∧ (j : Int) = ((a + s * k : Nat) : Int) := by
  unfold inI it3
  simp only [Bool.and_eq_true, decide_eq_true_eq]
  constructor
  · rintro ⟨⟨h1, h2⟩, h3⟩
    have h4 : (j - a) % s = 0 := by
      have : ((j : Int) - (a : Int)) = ((j - a : Nat) : Int) := by omega
      rw [this] at h3
      exact_mod_cast h3
    have h5 : s * ((j - a) / s) = j - a := by have := Nat.div_add_mod (j - a) s; omega
    have h6 : (j - a) / s ≤ len / s := Nat.div_le_div_right (by omega)
    exact ⟨(j - a) / s, by omega, by rw [h5]; omega⟩
  · rintro ⟨k, hk, e⟩
    have h1 : s * k ≤ s * (len / s) := Nat.mul_le_mul_left s (by omega)
    have h2 : s * (len / s) ≤ len := Nat.mul_div_le len s
    refine ⟨⟨by omega, by omega⟩, ?_⟩
    rw [e]
    have : ((a + s * k : Nat) : Int) - (a : Int) = (s : Int) * (k : Int) := by push_cast; omega
    rw [this, Int.mul_emod_right]
theorem list_eq (a len s : Nat) (hs : 0 < s) (h : a + len ≤ 1000) : listOf (inI (it3 a (a + len) s)) = prog a s 0 (len / s + 1) := by
  have h2 : s * (len / s) ≤ len := Nat.mul_div_le len s
  have e : s * (len / s + 1) = s * (len / s) + s := Nat.mul_succ s _
  refine listOf_eq (prog_good a s hs _ 0 (-1) (by omega) (by rw [Nat.zero_add, e]; omega)) fun j hj => ?_
  rw [inI_prog a len s j hs, mem_prog]
theorem PR_one (a len s : Nat) (hs : 0 < s) (hs2 : s ≤ 9) (h : a + len ≤ 1000) : PR (dec a ++ 45 :: (dec (a + len) ++ 58 :: dec s)) = (prog a s 0 (len / s + 1), 0, 0, 0) := by
  obtain ⟨e, he⟩ := scan_tx3 a (a + len) s (by omega) (by omega) (by omega) (r := []) (Or.inl rfl) 0 (x := x0) rfl
  rw [List.append_nil] at he
  have hb : bad (it3 a (a + len) s) = false := by
    have e4 : ¬ (it3 a (a + len) s).f4 = true := by simp [it3]
    rw [bad, if_neg e4]
    have f1 : (it3 a (a + len) s).f1 = (a : Int) := rfl
    have f2 : (it3 a (a + len) s).f2 = ((a + len : Nat) : Int) := rfl
    have f3 : (it3 a (a + len) s).f3 = (s : Int) := rfl
    rw [f1, f2, f3, decide_eq_false (by omega), decide_eq_false (by omega), decide_eq_false (by omega), decide_eq_false (by omega), decide_eq_false (by omega)]; rfl
  have hf : [it3 a (a + len) s].find? bad = none := by rw [List.find?_cons_of_neg (by rw [hb]; simp)]; rfl
  have hh : hit [it3 a (a + len) s] = inI (it3 a (a + len) s) := by
    funext j
    have e4 : (it3 a (a + len) s).f4 = false := rfl
    simp only [hit, List.any_cons, List.any_nil, e4, Bool.not_false, Bool.true_and, Bool.or_false]
  have hfin : final [it3 a (a + len) s] = (prog a s 0 (len / s + 1), 0, 0, 0) := by
    rw [final, hf, hh]
    dsimp only
    rw [list_eq a len s hs h]; rfl
  unfold PR
  rw [he]
  exact hfin
theorem prog_len (a s i n : Nat) : (prog a s i n).length = n := by simp [prog]
/-- the same ones, one by one, turned -/
def turned (a s n kk i : Nat) : List (Int × Int) := (List.range i).map fun k : Nat => (((a + s * ((k + kk) % n) : Nat) : Int), ((a + s * ((k + kk) % n) : Nat) : Int))
theorem turned_succ (a s n kk i : Nat) : turned a s n kk (i + 1) = turned a s n kk i ++ [(((a + s * ((i + kk) % n) : Nat) : Int), ((a + s * ((i + kk) % n) : Nat) : Int))] := by
  simp [turned, List.range_succ]
theorem turned_len (a s n kk i : Nat) : (turned a s n kk i).length = i := by simp [turned]
theorem body_snoc (q : List (Int × Int)) (x : Int × Int) (h : q ≠ []) : body (q ++ [x]) = body q ++ 44 :: tx x := by
  cases q with
  | nil => exact absurd rfl h
  | cons a q =>
    rw [List.cons_append, body_cons, body_cons]
    simp [tailT]
theorem body_one (x : Int × Int) : body [x] = tx x := by rw [body_cons]; simp [tailT]
theorem turned_any (a s n kk : Nat) (hk : kk < n) (j : Nat) : (turned a s n kk n).any (inRun j) = true ↔ (j : Int) ∈ prog a s 0 n := by
  rw [mem_prog, List.any_eq_true]
  constructor
  · rintro ⟨p, hp, h⟩
    obtain ⟨k, hk2, rfl⟩ := List.mem_map.1 hp
    simp only [inRun, Bool.and_eq_true, decide_eq_true_eq] at h
    exact ⟨(k + kk) % n, Nat.mod_lt _ (by omega), by omega⟩
  · rintro ⟨k, hk2, e⟩
    refine ⟨_, List.mem_map.2 ⟨(k + (n - kk)) % n, List.mem_range.2 (Nat.mod_lt _ (by omega)), rfl⟩, ?_⟩
    have : ((k + (n - kk)) % n + kk) % n = k := by
      rw [Nat.mod_add_mod, show k + (n - kk) + kk = k + n by omega, Nat.add_mod_right, Nat.mod_eq_of_lt hk2]
    simp only [this, inRun, Bool.and_eq_true, decide_eq_true_eq]
    omega
theorem turned_ok (a s n kk i : Nat) (hn : 0 < n) (h : a + s * (n - 1) ≤ 1000) : RunOk (turned a s n kk i) := by
  intro p hp
  obtain ⟨k, hk2, rfl⟩ := List.mem_map.1 hp
  have h1 : s * ((k + kk) % n) ≤ s * (n - 1) := Nat.mul_le_mul_left s (by have := Nat.mod_lt (k + kk) hn; omega)
  refine ⟨by simp only []; omega, by simp, ?_⟩
  simp only []
  omega
theorem body_len (q : List (Int × Int)) (h : RunOk q) : (body q).length ≤ 10 * q.length := by
  cases q with
  | nil => simp [body, Lib.join_nil]
  | cons a q =>
    have := tailT_len (a :: q) h
    rw [body_cons]
    simp [tailT] at this ⊢; omega
theorem counts_l0 (a s n kk : Nat) (hn : 0 < n) (hn2 : n ≤ 256) (hs : 0 < s) (hs2 : s ≤ 9) (hk2 : kk < n) (h : a + s * (n - 1) ≤ 1000) (m : Int) (hm : m = 0) : ∀ (i c : Nat), c + i = n → Ev (fun k => gangerlaw06_IndexesCounts.l0 k (a : Int) (s : Int) (n : Int) (mk (body (turned a s n kk c))) (kk : Int) (c : Int) (prog a s 0 n) m) true
  | 0, c, hc => by
    obtain rfl : c = n := by omega
    have hb := body_len _ (turned_ok a s c kk c hn h)
    rw [turned_len] at hb
    have hP := PR_body (turned a s c kk c) (by intro q; have := turned_len a s c kk c; rw [q] at this; simp at this; omega) (turned_ok a s c kk c hn h) 0 (by omega) (by omega)
    rw [limT, if_neg (by omega), List.append_nil] at hP
    have hg : good (-1) (prog a s 0 c) = true := prog_good a s hs _ 0 (-1) (by omega) (by
      have e : s * (0 + c) = s * (c - 1) + s := by rw [Nat.zero_add, show c = (c - 1) + 1 by omega, Nat.mul_succ]; simp
      omega)
    have hl : listOf (fun j : Nat => (turned a s c kk c).any (inRun j)) = prog a s 0 c := listOf_eq hg fun j _ => turned_any a s c kk hk2 j
    rw [hl] at hP
    refine Ev.step (fun k => by rw [gangerlaw06_IndexesCounts.l0]) ?_
    refine ev_neg (by omega) ?_
    rw [parse_PR _ (by omega), hP, hm]
    refine Ev.bind (Ev.now _) (ev_pos rfl (Ev.bind (same_refl _ _ (by rw [prog_len]; omega)) (ev_pos rfl ?_)))
    exact hk
  | i + 1, c, hc => by
    have ih := counts_l0 a s n kk hn hn2 hs hs2 hk2 h m hm i (c + 1) (by omega)
    have hb := body_len _ (turned_ok a s n kk c hn h)
    rw [turned_len] at hb
    have hw : wrap64 ((c : Int) + 1) = ((c + 1 : Nat) : Int) := by rw [w64 (by omega)]; omega
    obtain ⟨v, hv⟩ : ∃ v, v = a + s * ((c + kk) % n) := ⟨_, rfl⟩
    have h1 : s * ((c + kk) % n) ≤ s * (n - 1) := Nat.mul_le_mul_left s (by have := Nat.mod_lt (c + kk) hn; omega)
    have ev : ∀ _ : Unit, wrap64 ((a : Int) + wrap64 ((s : Int) * Int.tmod (wrap64 ((c : Int) + (kk : Int))) (n : Int))) = (v : Int) := fun _ => by
      rw [w64 (x := (c : Int) + kk) (by omega), Int.tmod_eq_emod_of_nonneg (by omega)]
      have e1 : ((c : Int) + kk) % n = (((c + kk) % n : Nat) : Int) := by push_cast; rfl
      have e2 : (s : Int) * (((c + kk) % n : Nat) : Int) = ((s * ((c + kk) % n) : Nat) : Int) := by push_cast; rfl
      rw [e1, e2, w64 (x := ((s * ((c + kk) % n) : Nat) : Int)) (by omega), w64 (by omega)]
      omega
    have hd : (dec v).length ≤ 4 := dec_len 4 v (by omega) (by omega)
    have htx : tx ((v : Int), (v : Int)) = dec v := by simp [tx]
    rw [turned_succ, ← hv] at ih
    refine Ev.step (fun k => by rw [gangerlaw06_IndexesCounts.l0]) ?_
    refine ev_pos (by omega) ?_
    rw [ev (), hw]
    by_cases hc0 : (c : Int) > 0
    · refine ev_pos hc0 (ev_pos (by rw [mk_size]; omega) (ev_neg (by omega) (Ev.bind (digits_eq v (by omega)) ?_)))
      have e : mk (body (turned a s n kk c)) ++ (⟨#[44]⟩ : ByteArray) = mk (body (turned a s n kk c) ++ [44]) := mk_append _ [44]
      rw [e, mk_append]
      refine ev_pos (by simp only [mk_size, List.length_append, List.length_cons, List.length_nil]; omega) ?_
      rw [body_snoc _ _ (by intro q; have := turned_len a s n kk c; rw [q] at this; simp at this; omega), htx] at ih
      simpa using ih
    · refine ev_neg hc0 (ev_neg (by omega) (Ev.bind (digits_eq v (by omega)) ?_))
      obtain rfl : c = 0 := by omega
      rw [mk_append]
      refine ev_pos (by simp only [mk_size]; omega) ?_
      have e0 : turned a s n kk 0 = [] := rfl
      rw [e0, List.nil_append, body_one, htx] at ih
      have e1 : body (turned a s n kk 0) = [] := rfl
      rw [e1, List.nil_append]
      exact ih
theorem num_s (st s : Nat) (h : st ≤ 255) (hs : s = 1 + st % 9) : wrap64 (1 + wrap64 (Int.tmod (st : Int) 9)) = (s : Int) := by
  rw [Int.tmod_eq_emod_of_nonneg (by omega), w64 (x := (st : Int) % 9) (by omega), w64 (by omega)]; omega
theorem num_b (a len : Nat) (h : a + len ≤ 1000) : wrap64 ((a : Int) + (len : Int)) = ((a + len : Nat) : Int) := by rw [w64 (by omega)]; omega
theorem num_n (len s : Nat) (h : len ≤ 255) : wrap64 (wrap64 (Int.tdiv (len : Int) (s : Int)) + 1) = ((len / s + 1 : Nat) : Int) := by
  have hdl : len / s ≤ len := Nat.div_le_self len s
  rw [Int.tdiv_eq_ediv_of_nonneg (by omega)]
  have : (len : Int) / (s : Int) = ((len / s : Nat) : Int) := by push_cast; rfl
  rw [this]
  clear this
  generalize len / s = q at hdl ⊢
  rw [w64 (x := (q : Int)) (by omega), w64 (by omega)]; omega
theorem num_k (z : Int) (n : Nat) (h : 0 < n) (h2 : n ≤ 256) : ∃ kk : Nat, kk < n ∧ wrap64 (Int.tmod (IntKind.u64.wrap z) (IntKind.u64.wrap (n : Int))) = (kk : Int) ∧ IntKind.u64.wrap (n : Int) = (n : Int) := by
  have en2 : IntKind.u64.wrap (n : Int) = (n : Int) := by rw [IntKind.wrap_u64]; omega
  have hu : 0 ≤ IntKind.u64.wrap z := by rw [IntKind.wrap_u64]; omega
  rw [en2, Int.tmod_eq_emod_of_nonneg hu]
  have q1 : 0 ≤ IntKind.u64.wrap z % (n : Int) := Int.emod_nonneg _ (by omega)
  have q2 : IntKind.u64.wrap z % (n : Int) < (n : Int) := Int.emod_lt_of_pos _ (by omega)
  generalize IntKind.u64.wrap z % (n : Int) = y at q1 q2
  exact ⟨y.toNat, by omega, by rw [w64 (by omega)]; omega, rfl⟩
theorem IndexesCounts : gangerlaw06_IndexesCounts.Pure := by
  intro a0 a1 a2 a3 h0 h1 h2 h3
  refine Ev.rounds ?_
  have u8 : ∀ z : Int, (Lit.int .u8 z).wf = true → 0 ≤ z ∧ z ≤ 255 := by
    intro z hz
    simp [Lit.wf, IntKind.min, IntKind.max, IntKind.signed, IntKind.bits] at hz; omega
  have b0 := u8 a0 h0
  have b1 := u8 a1 h1
  have b2 := u8 a2 h2
  obtain ⟨a, rfl⟩ : ∃ a : Nat, a0 = a := ⟨a0.toNat, by omega⟩
  obtain ⟨len, rfl⟩ : ∃ a : Nat, a1 = a := ⟨a1.toNat, by omega⟩
  obtain ⟨st, rfl⟩ : ∃ a : Nat, a2 = a := ⟨a2.toNat, by omega⟩
  clear u8 h0 h1 h2
  obtain ⟨s, hs⟩ : ∃ s, s = 1 + st % 9 := ⟨_, rfl⟩
  have hs2 : 0 < s ∧ s ≤ 9 := by omega
  have es := num_s st s (by omega) hs
  have ea : wrap64 (a : Int) = (a : Int) := w64 (by omega)
  have el : wrap64 (len : Int) = (len : Int) := w64 (by omega)
  have eb := num_b a len (by omega)
  have en := num_n len s (by omega)
  have hdl : len / s ≤ len := Nat.div_le_self len s
  clear hs
  unfold gangerlaw06_IndexesCounts.f
  rw [es, ea, el, en, eb]
  clear es ea el en eb
  have d1 := dec_len 4 a (by omega) (by omega)
  have d2 := dec_len 4 (a + len) (by omega) (by omega)
  have d3 := dec_len 4 s (by omega) (by omega)
  have lit45 : ∀ t, mk t ++ (⟨#[45]⟩ : ByteArray) = mk (t ++ [45]) := fun t => mk_append t [45]
  have lit58 : ∀ t, mk t ++ (⟨#[58]⟩ : ByteArray) = mk (t ++ [58]) := fun t => mk_append t [58]
  refine Ev.bind (digits_eq a (by omega)) (ev_pos (by rw [mk_size]; omega) ?_)
  rw [lit45]
  refine Ev.bind (digits_eq (a + len) (by omega)) ?_
  rw [mk_append, lit58]
  refine ev_pos (by simp only [mk_size, List.length_append, List.length_cons, List.length_nil]; omega) (ev_pos (by simp only [mk_size, List.length_append, List.length_cons, List.length_nil]; omega) ?_)
  refine Ev.bind (digits_eq s (by omega)) ?_
  rw [mk_append]
  refine ev_pos (by simp only [mk_size, List.length_append, List.length_cons, List.length_nil]; omega) ?_
  have et : ((dec a ++ [45] ++ dec (a + len)) ++ [58]) ++ dec s = dec a ++ 45 :: (dec (a + len) ++ 58 :: dec s) := by simp
  rw [et, parse_PR _ (by simp; omega), PR_one a len s (by omega) (by omega) (by omega)]
  obtain ⟨n, hn⟩ : ∃ n, n = len / s + 1 := ⟨_, rfl⟩
  rw [← hn]
  refine Ev.bind (Ev.now _) (ev_neg (by omega) (ev_pos rfl ?_))
  dsimp only
  have ex : ((((prog a s 0 n).length : Nat) : Int) != ((n : Nat) : Int)) = false := by rw [prog_len]; simp
  rw [ex]
  have hn2 : 0 < n ∧ n ≤ 256 := by
    rw [hn]
    exact ⟨Nat.succ_pos _, Nat.succ_le_succ (Nat.le_trans hdl (by omega))⟩
  obtain ⟨kk, hk2, ek, en2⟩ := num_k a3 n hn2.1 hn2.2
  refine Ev.step (fun k => by rw [gangerlaw06_IndexesCounts.j0]) ?_
  rw [ek, en2]
  refine ev_neg (by simp) (ev_neg (by omega) ?_)
  have hsl : s * (n - 1) ≤ len := by rw [hn, Nat.add_sub_cancel]; exact Nat.mul_div_le len s
  exact counts_l0 a s n kk hn2.1 hn2.2 hs2.1 hs2.2 hk2 (by omega) 0 rfl n 0 (Nat.zero_add n)
end Go.Proofs.YtpkococfmohmiaaDoor.Pure
