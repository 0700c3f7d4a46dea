import Derived.Test.YtinmmnljicmppaaDoorVTaleJ
import Derived.Test.YtinmmnljicmppaaDoorVTaleK
import Derived.Test.YtinmmnljicmppaaDoorVTaleReadConf
import Derived.Test.YtinmmnljicmppaaDoorVTaleReadPicks
import Derived.Test.YtinmmnljicmppaaDoorVWords
/-
ReadPicks and ReadConf: what they compute.
-/
namespace Go.Proofs.YtinmmnljicmppaaDoor.PTaleApart
open Go Go.RowKit Go.Proofs.YtinmmnljicmppaaDoorW.PrintWords Go.Proofs.YtinmmnljicmppaaDoorW.PrintLast Go.Proofs.YtinmmnljicmppaaDoorW.PrintMore Go.Proofs.YtinmmnljicmppaaDoor.Str Go.Proofs.YtinmmnljicmppaaDoor.U
set_option linter.unusedVariables false
set_option linter.unusedSimpArgs false
def wN (w : ByteArray) : Int := if (Lib.cut w.data.toList [42]).2.2 = true then smallP (Lib.cut w.data.toList [42]).2.1 else 1
def wT (w : ByteArray) : Int := smallP (Lib.cut w.data.toList [42]).1
def rpEnd (line : ByteArray) (acc : List Int) : List Int × Int := if picksV acc = (line, 0) then (acc, 0) else ([], 4)
def rpV (line : ByteArray) : List ByteArray → List Int → List Int × Int
 | [], acc => rpEnd line acc
 | w :: r, acc => if wN w < 1 ∨ 262144 - (acc.length : Int) < wN w then ([], 4) else rpV line r (acc ++ List.replicate (wN w).toNat (wT w))
def readPicksV (line : ByteArray) : List Int × Int := rpV line (splitS 32 line).tail []
theorem cut_le (l : List UInt8) : (Lib.cut l [42]).1.length ≤ l.length ∧ (Lib.cut l [42]).2.1.length ≤ l.length := by
 rcases idx_cases 42 l with ⟨_, h⟩ | ⟨a, b, rfl, h, _⟩
 ·rw [cut_miss 42 l h]; simp
 ·rw [cut_hit 42 a b h]; simp; omega
theorem rp_end (line : ByteArray) (acc : List Int) : ((tale_Picks.f acc).bind fun bt257 => (if bt257.2 = 0 then (if bt257.1.toList = line.toList then (some (acc, (0 : Int))) else (some (([] : List Int), 4))) else (some (([] : List Int), 4)))) = some (rpEnd line acc) := by
 unfold tale_Picks.f rpEnd
 rw [bsome]
 obtain ⟨⟨s, e⟩, hp⟩ : ∃ p, p = picksV acc := ⟨_, rfl⟩
 rw [← hp]
 show (if e = 0 then (if s.toList = line.toList then some (acc, (0 : Int)) else some (([] : List Int), 4)) else some (([] : List Int), 4)) = _
 by_cases he : e = 0
 ·subst he
  rw [if_pos rfl]
  by_cases hs : s = line
  ·subst hs
   rw [if_pos rfl, if_pos rfl]
  ·rw [if_neg (fun h => hs (toList_inj h)), if_neg (fun h => hs (congrArg Prod.fst h))]
 ·rw [if_neg he, if_neg (fun h => he (congrArg Prod.snd h))]
theorem rp_l (line : ByteArray) (ws : List ByteArray) (hw : ∀ w ∈ ws, w.size ≤ 4000000000) (hlen : ws.length ≤ 4000000000) : ∀ (q k i : Nat) (acc : List Int), i + q = ws.length → 3 * q + 1 ≤ k → acc.length ≤ 262144 → tale_ReadPicks.l0 k line acc ws (ws.length : Int) (i : Int) = some (rpV line (ws.drop i) acc) := by
 intro q
 induction q with
 | zero =>
  intro k i acc hi hk ha
  obtain ⟨k, rfl⟩ : ∃ m, k = m + 1 := ⟨k - 1, by omega⟩
  simp only [tale_ReadPicks.l0]
  rw [if_neg (by omega), List.drop_of_length_le (by omega), rp_end]
  rfl
 | succ q ih =>
  intro k i acc hi hk ha
  obtain ⟨k, rfl⟩ : ∃ m, k = m + 4 := ⟨k - 4, by omega⟩
  have hlt : i < ws.length := by omega
  have hrd : rdOf ByteArray.empty ws (i : Int) = ws[i] := by unfold rdOf; simp [hlt]
  have hsz := hw _ (List.getElem_mem hlt)
  have hcl := cut_le ws[i].data.toList
  have hdl : ws[i].data.toList.length = ws[i].size := by rw [Array.length_toList]; rfl
  have hwi : wrap64 ((i : Int) + 1) = ((i + 1 : Nat) : Int) := by unfold wrap64; omega
  have hwa : wrap64 (262144 - (acc.length : Int)) = 262144 - (acc.length : Int) := by unfold wrap64; omega
  simp only [tale_ReadPicks.l0]
  rw [if_pos (by omega), if_pos (by omega), if_pos (by omega), hrd, List.drop_eq_getElem_cons hlt]
  generalize ws[i] = w at hsz hcl hdl
  have hs1 : ∀ l : List UInt8, l.length ≤ w.data.toList.length → (⟨l.toArray⟩ : ByteArray).size ≤ 281474976710656 := fun l hl => by
   show l.toArray.size ≤ _
   rw [List.size_toArray]; omega
  have hcut : strings_Cut.f w (⟨#[42]⟩ : ByteArray) = some (⟨(Lib.cut w.data.toList [42]).1.toArray⟩, ⟨(Lib.cut w.data.toList [42]).2.1.toArray⟩, (Lib.cut w.data.toList [42]).2.2) := by
   unfold strings_Cut.f
   rw [if_pos (by omega)]
  rw [hcut, bsome]
  have key : tale_ReadPicks.j1 (k + 3) line acc ⟨(Lib.cut w.data.toList [42]).1.toArray⟩ (wN w) ws (ws.length : Int) (i : Int) = some (rpV line (w :: ws.drop (i + 1)) acc) := by
   have step : tale_ReadPicks.j2 (k + 2) line acc ⟨(Lib.cut w.data.toList [42]).1.toArray⟩ (wN w) ws (ws.length : Int) (i : Int) (decide (wN w < 1 ∨ 262144 - (acc.length : Int) < wN w)) = some (rpV line (w :: ws.drop (i + 1)) acc) := by
    simp only [tale_ReadPicks.j2, rpV]
    by_cases hn : wN w < 1 ∨ 262144 - (acc.length : Int) < wN w
    ·rw [if_pos (by simp [hn]), if_pos hn]
    ·rw [if_neg (by simp [hn]), if_neg hn, small_f (hs1 _ hcl.1), bsome]
     have hrep : slices_Repeat.f [smallP (⟨(Lib.cut w.data.toList [42]).1.toArray⟩ : ByteArray).data.toList] (wN w) = some (List.replicate (wN w).toNat (wT w)) := by
      unfold slices_Repeat.f
      rw [if_pos ⟨rfl, by omega, by omega⟩]
      rfl
     rw [hrep, bsome, if_pos (by simp only [List.length_replicate]; omega), hwi]
     exact ih (k + 1) (i + 1) _ (by omega) (by omega) (by simp only [List.length_append, List.length_replicate]; omega)
   simp only [tale_ReadPicks.j1]
   by_cases hn : wN w < 1
   ·rw [if_pos hn]
    rw [decide_eq_true (show wN w < 1 ∨ 262144 - (acc.length : Int) < wN w from .inl hn)] at step
    exact step
   ·rw [if_neg hn, hwa]
    rw [show decide (wN w < 1 ∨ 262144 - (acc.length : Int) < wN w) = decide (wN w > 262144 - (acc.length : Int)) by
     by_cases h2 : 262144 - (acc.length : Int) < wN w <;> simp [hn, h2]] at step
    exact step
  by_cases hc : (Lib.cut w.data.toList [42]).2.2 = true
  ·rw [if_pos hc, small_f (hs1 _ hcl.2), bsome]
   have e : wN w = smallP (Lib.cut w.data.toList [42]).2.1 := if_pos hc
   rw [e] at key
   exact key
  ·rw [if_neg hc]
   have e : wN w = 1 := if_neg hc
   rw [e] at key
   exact key
theorem split_word_le (line : ByteArray) : ∀ w ∈ splitS 32 line, w.size ≤ line.size := by
 intro w hw
 unfold splitS at hw
 obtain ⟨l, hl, rfl⟩ := List.mem_map.1 hw
 have := piece_le 32 _ l hl
 have h3 : line.data.toList.length = line.size := by rw [Array.length_toList]; rfl
 show l.toArray.size ≤ _
 simp only [List.size_toArray]
 omega
theorem split_le (line : ByteArray) : (splitS 32 line).length ≤ line.size + 1 := by
 have := splitS_len 32 line
 have h2 : line.data.toList.count 32 ≤ line.data.toList.length := List.count_le_length
 have h3 : line.data.toList.length = line.size := by rw [Array.length_toList]; rfl
 omega
theorem readPicks_f (line : ByteArray) (hs : line.size ≤ 2000000000) {k : Nat} (hk : 3 * line.size + 1 ≤ k) : tale_ReadPicks.f k line = some (readPicksV line) := by
 have h1 := splitS_len 32 line
 have h2 := split_le line
 unfold tale_ReadPicks.f
 rw [splitf_eq line (by omega), bsome, if_pos (by omega), bsome]
 have h3 := rp_l line ((splitS 32 line).drop 1) (fun w hw => by have := split_word_le line w (List.mem_of_mem_drop hw); omega) (by rw [List.length_drop]; omega) ((splitS 32 line).drop 1).length k 0 [] (by omega) (by rw [List.length_drop]; omega) (by simp)
 rw [List.drop_zero] at h3
 rw [show (splitS 32 line).drop 1 = (splitS 32 line).tail from List.drop_one] at h3 ⊢
 exact h3
theorem rp_back (line : ByteArray) : ∀ (rs : List (Int × Nat)) (acc : List Int), (∀ q ∈ rs, 0 ≤ q.1 ∧ q.1 < 64 ∧ 1 ≤ q.2) → acc.length + (rs.map (·.2)).sum ≤ 262144 → rpV line (rs.map pickB) acc = rpEnd line (acc ++ unrun rs)
 | [], acc, _, _ => by simp [rpV, unrun]
 | q :: rs, acc, h, hl => by
  obtain ⟨h1, h2, h3⟩ := h q (by simp)
  simp only [List.map_cons, List.sum_cons] at hl
  have hn : wN (pickB q) = (q.2 : Int) := by
   unfold wN
   show (if (Lib.cut (pickWord q) [42]).2.2 = true then smallP (Lib.cut (pickWord q) [42]).2.1 else 1) = _
   rw [cut_word]
   by_cases hq : 1 < q.2
   ·rw [if_pos hq, if_pos rfl]
    show smallP (Lib.decDigits q.2) = _
    have := small_it q.2 (by omega)
    rw [itB_nat] at this
    exact this
   ·rw [if_neg hq, if_neg (by simp)]
    omega
  have ht : wT (pickB q) = q.1 := by
   unfold wT
   show smallP (Lib.cut (pickWord q) [42]).1 = _
   rw [cut_word]
   have := small_it q.1.toNat (by omega)
   rw [itB_nat] at this
   have h5 : smallP (Lib.decDigits q.1.toNat) = q.1 := this.trans (by omega)
   split <;> exact h5
  simp only [List.map_cons, rpV]
  rw [hn, ht, if_neg (by omega), Int.toNat_natCast, rp_back line rs _ (fun p hp => h p (by simp [hp])) (by rw [List.length_append, List.length_replicate]; omega)]
  congr 1
  unfold unrun
  rw [List.flatMap_cons, List.append_assoc]
theorem readPicks_picks {l : List Int} (h : ∀ x ∈ l, 0 ≤ x ∧ x < 64) (hl : l.length ≤ 262144) : readPicksV ⟨(picksLine l).toArray⟩ = (l, 0) := by
 have hsp : splitS 32 (⟨(picksLine l).toArray⟩ : ByteArray) = (⟨#[112, 105, 99, 107, 115]⟩ : ByteArray) :: (runs l).map pickB := by
  unfold splitS
  show (splitL 32 (picksLine l)).map _ = _
  rw [picks_split, List.map_cons, List.map_map]
  rfl
 have hu := unrun_runs _ l (Nat.le_refl _)
 have hlen := unrun_len (runs l)
 rw [hu] at hlen
 unfold readPicksV
 rw [hsp, List.tail_cons, rp_back _ _ _ (fun q hq => by
  obtain ⟨h1, h2, h3⟩ := runs_mem _ l (Nat.le_refl _) q hq
  exact ⟨(h _ h1).1, (h _ h1).2, h2⟩) (by rw [← hlen]; simpa using hl), hu, List.nil_append]
 unfold rpEnd picksV
 rw [if_pos]
 rw [if_neg (by rw [idxN_some l 0 h]; decide), if_neg (by omega)]
theorem readConf_f (line : ByteArray) (hs : line.size ≤ 4000000000) {k : Nat} (hk : 50 ≤ k) : tale_ReadConf.f k line = some ((readConfV line).1.1, (readConfV line).1.2.1, (readConfV line).1.2.2.1, (readConfV line).1.2.2.2.1, (readConfV line).1.2.2.2.2, (readConfV line).2) := by
 have h4 := words_ge line
 have hle := words_le line
 have hw := wd_len line
 have hn := kindN_lt (wd line 0)
 unfold tale_ReadConf.f
 rw [splitf_eq line hs, bsome, bsome, if_pos (by have := words_len line; simp only [List.length_cons, List.length_nil]; omega), bsome]
 rw [show splitS 32 line ++ [(⟨#[]⟩ : ByteArray), (⟨#[]⟩ : ByteArray), (⟨#[]⟩ : ByteArray)] = wordsOf line from rfl]
 rw [kinds_eq, bsome, if_pos (by omega), rd_wd0 line, idx_f _ _ (by decide) hk, bsome, if_pos (by omega)]
 rw [rd_wd1 line, small_f (by have := hw 1; omega), bsome, if_pos (by omega), rd_wd2 line, small_f (by have := hw 2; omega), bsome]
 simp only [kindN_cast]
 have fin : ∀ c : Int × Int × Int × Int × Int, readC line = c → I64 c.2.1 → I64 c.2.2.1 → I64 c.2.2.2.1 → I64 c.2.2.2.2 → ((tale_Conf.f c.1 c.2.1 c.2.2.1 c.2.2.2.1 c.2.2.2.2).bind fun bt187 => (if bt187.2 = 0 then (if bt187.1.toList = line.toList then (some (c.1, c.2.1, c.2.2.1, c.2.2.2.1, c.2.2.2.2, (0 : Int))) else (some (0, 0, 0, 0, 0, 4))) else (some (0, 0, 0, 0, 0, 4)))) = some ((readConfV line).1.1, (readConfV line).1.2.1, (readConfV line).1.2.2.1, (readConfV line).1.2.2.2.1, (readConfV line).1.2.2.2.2, (readConfV line).2) := by
  intro c hc h1 h2 h3 h5
  rw [conf_f h1 h2 h3 h5, bsome]
  unfold readConfV rcV
  rw [hc]
  obtain ⟨c1, c2, c3, c4, c5⟩ := c
  simp only
  generalize CheckV c1 c2 c3 c4 c5 = z
  generalize joinB (confL c1.toNat c2 c3 c4 c5) = jj
  by_cases hz : z = 0
  ·subst hz
   by_cases hj : jj = line
   ·subst hj
    simp
   ·have hj2 : ¬ jj.toList = line.toList := fun h => hj (toList_inj h)
    simp [hj, hj2]
  ·simp [hz]
 have hI0 : I64 0 := ⟨by omega, by omega⟩
 have hI1 : I64 1 := ⟨by omega, by omega⟩
 by_cases h2 : kindN (wd line 0) = 2
 ·rw [if_pos (by omega), bsome, if_pos (by omega), rd_wd3 line, small_f (by have := hw 3; omega), bsome]
  exact fin (((kindN (wd line 0) : Nat) : Int), smallP (wd line 1).data.toList, smallP (wd line 2).data.toList, 1, smallP (wd line 3).data.toList) (by simp [readC, h2]) (smallP_I _) (smallP_I _) hI1 (smallP_I _)
 ·rw [if_neg (by omega)]
  by_cases h3 : kindN (wd line 0) = 3
  ·rw [if_pos (by omega), bsome, if_pos (by omega), rd_wd3 line, small_f (by have := hw 3; omega), bsome]
   exact fin (((kindN (wd line 0) : Nat) : Int), smallP (wd line 1).data.toList, 0, smallP (wd line 2).data.toList, smallP (wd line 3).data.toList) (by simp [readC, h3]) (smallP_I _) hI0 (smallP_I _) (smallP_I _)
  ·rw [if_neg (by omega)]
   exact fin (((kindN (wd line 0) : Nat) : Int), smallP (wd line 1).data.toList, 0, 1, smallP (wd line 2).data.toList) (by simp [readC, h2, h3]) (smallP_I _) hI0 hI1 (smallP_I _)
end Go.Proofs.YtinmmnljicmppaaDoor.PTaleApart
