/- cut to what one law reaches -/
import Derived.Test.YtakdneopmojjdaaDoorBkBookBase
import Derived.Test.YtakdneopmojjdaaDoorBkRefName
import Derived.Test.YtakdneopmojjdaaDoorBkP0
import Derived.Test.YtakdneopmojjdaaDoorBkP2
namespace Go.Proofs.YtakdneopmojjdaaDoor.Bk
open Go.RowKit Go.Proofs.YtakdneopmojjdaaDoorW.PrintWords Go.Proofs.YtakdneopmojjdaaDoorW.PrintLast Go.Proofs.YtakdneopmojjdaaDoorW.PrintMore Go.Proofs.YtakdneopmojjdaaDoor.P Go.Proofs.YtakdneopmojjdaaDoor.NumM Go.Lib Go.Proofs.YtakdneopmojjdaaDoor.RefName
set_option linter.unusedVariables false
set_option linter.unusedSimpArgs false
theorem dec_bytes (n b0 b1 b2 b3 : Nat) (h : ¬ ((decodeN n b0 b1 b2 b3).1 = 65533∧(decodeN n b0 b1 b2 b3).2 = 1)) :
    (b0 < 128→decodeN n b0 b1 b2 b3 = (b0,1))∧(1 < (decodeN n b0 b1 b2 b3).2→128≤b1)∧(2 < (decodeN n b0 b1 b2 b3).2→128≤b2)∧(3 < (decodeN n b0 b1 b2 b3).2→128≤b3):=by
  by_cases g1 : b0 < 128
  · have e : decodeN n b0 b1 b2 b3 = (b0,1):=by unfold decodeN;rw [if_pos g1]
    rw [e]
    exact ⟨fun _=>rfl,fun q=>absurd q (by simp),fun q=>absurd q (by simp),fun q=>absurd q (by simp)⟩
  · refine ⟨fun q=>absurd q g1,?_⟩
    revert h
    unfold decodeN
    simp only [if_neg g1]
    repeat' split
    all_goals intro h
    all_goals first
      | exact absurd ⟨rfl,rfl⟩ h
      | (clear h;refine ⟨fun q=>?_,fun q=>?_,fun q=>?_⟩ <;> dsimp only at q <;> omega)
theorem dec_width (n b0 b1 b2 b3 : Nat) : (decodeN n b0 b1 b2 b3).2≤4:=by
  unfold decodeN
  repeat' split
  all_goals simp only []
  all_goals omega
theorem name_bytes (s : ByteArray) : ∀ (m pos : Nat),nameAt m s pos = true→(∀ i,pos≤i→i < s.size→(s.get! i).toNat ≠ 32∧(s.get! i).toNat ≠ 10)∧runeCount s≤32
  | 0,pos,h=>by rw [nameAt] at h;cases h
  | m + 1,pos,h=>by
    rw [nameAt] at h
    by_cases hlt : pos < s.size
    · rw [if_pos hlt] at h
      have hrest : (decodeGo (s.extract pos s.size)).2 = (Utf8.decode s pos).2:=by
        unfold decodeGo
        rw [if_neg (by rw [ByteArray.size_extract];omega),tail_decode,Nat.add_zero]
      rw [hrest] at h
      have hw1:=decode_width_pos s pos hlt
      have hd:=decode_at s pos
      have hB:=dec_bytes (s.size - pos) (s.get! pos).toNat (s.get! (pos + 1)).toNat (s.get! (pos + 2)).toNat (s.get! (pos + 3)).toNat
      have hW:=dec_width (s.size - pos) (s.get! pos).toNat (s.get! (pos + 1)).toNat (s.get! (pos + 2)).toNat (s.get! (pos + 3)).toNat
      rw [← hd] at hB hW
      by_cases g : (Utf8.decode s pos).1 = 65533∧(Utf8.decode s pos).2 = 1
      · rw [if_pos g] at h;cases h
      · rw [if_neg g] at h
        by_cases k : okRune (Utf8.decode s pos).1 = true
        · rw [if_pos k] at h
          obtain ⟨ih,hc⟩:=name_bytes s m _ h
          refine ⟨fun i h1 h2=>?_,hc⟩
          by_cases hi : pos + (Utf8.decode s pos).2≤i
          · exact ih i hi h2
          · obtain ⟨c1,c2,c3,c4⟩:=hB g
            obtain ⟨j,rfl⟩ : ∃ j,i = pos + j:=⟨i - pos,by omega⟩
            rcases (show j = 0 ∨ j = 1 ∨ j = 2 ∨ j = 3 by omega) with rfl|rfl|rfl|rfl
            · by_cases ha : (s.get! pos).toNat < 128
              · have e:=c1 ha
                rw [e] at k
                simp only [okRune,Bool.or_eq_true,Bool.and_eq_true,decide_eq_true_eq,beq_iff_eq] at k
                simp only [Nat.add_zero]
                omega
              · simp only [Nat.add_zero];omega
            · have:=c2 (by omega);omega
            · have:=c3 (by omega);omega
            · have:=c4 (by omega);omega
        · rw [if_neg k] at h;cases h
    · rw [if_neg hlt] at h
      rw [Bool.and_eq_true] at h
      exact ⟨fun i h1 h2=>absurd h2 (by omega),by simpa using h.2⟩
theorem count_size (s : ByteArray) : ∀ (f pos : Nat),s.size≤pos + f→s.size≤pos + 4 * runeCountFrom s f pos
  | 0,pos,h=>by omega
  | f + 1,pos,h=>by
    by_cases hlt : pos < s.size
    · have hw1:=decode_width_pos s pos hlt
      have hW:=dec_width (s.size - pos) (s.get! pos).toNat (s.get! (pos + 1)).toNat (s.get! (pos + 2)).toNat (s.get! (pos + 3)).toNat
      rw [← decode_at s pos] at hW
      rw [runeCountFrom,if_pos hlt]
      have:=count_size s f (pos + (Utf8.decode s pos).2) (by omega)
      omega
    · omega
theorem name_size {s : ByteArray} (h : NameOk s = true) : s.size≤128:=by
  have h1:=(name_bytes s _ 0 h).2
  have h2:=count_size s s.size 0 (by omega)
  have e : runeCount s = runeCountFrom s s.size 0:=rfl
  omega
theorem name_no {s : ByteArray} (h : NameOk s = true) {c : UInt8} (hc : c = 32 ∨ c = 10) : c ∉ s.data.toList:=by
  intro hm
  obtain ⟨i,hi,e⟩:=List.getElem_of_mem hm
  have h2 : i < s.size:=by simpa using hi
  have:=(name_bytes s _ 0 h).1 i (Nat.zero_le _) h2
  have e2 : s.get! i = c:=by
    rw [← e]
    cases s with
    | mk d=>exact getElem!_pos d i h2
  rw [e2] at this
  rcases hc with rfl|rfl
  · exact this.1 rfl
  · exact this.2 rfl
end Go.Proofs.YtakdneopmojjdaaDoor.Bk
