/- A line of a printed code whose places are spelled with q: what it reads as. Plain. Two printed codes, one behind the other, the second one's places spelled with q: what asm.Parse reads. Plain. The renaming of a printed text's places: plain. -/
import Derived.Test.YtnoejikcdigceaaDoorGBack
set_option linter.unusedVariables false
set_option linter.unusedSimpArgs false
namespace Go.Proofs.YtnoejikcdigceaaDoor
open Go.RowKit
def goQ (n : Nat) : List UInt8 := 113 :: decL n
theorem goQ_plain (n : Nat) (h : n ≤ 18446744073709551615) : PlainW (goQ n) := by
  have h2 : ∀ x : UInt8, (x.toNat < 48 ∨ 57 < x.toNat) → x ≠ 113 → x ∉ goQ n := fun x hx h2 hm => by
    rcases List.mem_cons.1 hm with e | hm
    · exact h2 e
    · exact decL_not n h hx hm
  exact ⟨h2 _ (by decide) (by decide), h2 _ (by decide) (by decide), h2 _ (by decide) (by decide), by unfold goQ; simp⟩
theorem goQ_clear (n : Nat) (h : n ≤ 18446744073709551615) : ClearW (goQ n) := by
  obtain ⟨a, b, c, d⟩ := goQ_plain n h
  refine ⟨a, b, c, fun hm => ?_⟩
  rcases List.mem_cons.1 hm with e | hm
  · cases e
  · exact decL_not n h (by decide) hm
theorem nameV_goQ (n : Nat) (h : n < 2048) : nameV (ofL (goQ n)) = true := by
  obtain ⟨h1, h2, h3, h4⟩ := decL_spec n (by omega)
  have h5 := decL_short n h
  have hb : nameBad (ofL (goQ n)) = false := by
    unfold nameBad
    apply decide_eq_false
    rw [ofL_size, byteAt_ofL]
    unfold goQ
    simp
    omega
  have hr : (regV (ofL (goQ n))).2 = false := by
    unfold regV
    rw [if_pos]
    unfold regBad
    apply decide_eq_true
    right; right; left
    rw [byteAt_ofL]; unfold goQ; simp
  have ha : (ofL (goQ n)).data.toList.all nameCh = true := by
    rw [ofL_data, List.all_eq_true]
    intro c hc
    unfold nameCh
    apply decide_eq_true
    rcases List.mem_cons.1 hc with rfl | hc
    · left; decide
    · right; exact h1 c hc
  unfold nameV
  rw [hb, ha, hr]; rfl
def shownQ (X : Ins) (kd : Int) : List UInt8 := if kd = 8 then goQ X.v.toNat else shownL X kd
def stWQ (st : RdSt) (X : Ins) (kd line : Int) : RdSt := if kd = 8 then { st with wants := st.wants ++ [((st.code.length : Int), line, ofL (goQ X.v.toNat))] } else st
theorem opnd_rtQ (st : RdSt) (X0 X : Ins) (kd line : Int) (hk : 1 ≤ kd ∧ kd ≤ 9) (hs : ShowOk X kd) (hv : kd = 4 ∨ kd = 5 ∨ kd = 6 → X0.v = 0) (h4 : kd = 4 → X.c = -1 ∨ X.v = 0) (h5 : kd = 5 → X.b = -1 ∨ X.v = 0) (h8 : kd = 8 → X.v < 2048) :
    opndV st X0 kd (ofL (shownQ X kd)) line = .ok (stWQ st X kd line, fill X0 X kd) := by
  by_cases h : kd = 8
  · subst h
    have := h8 rfl
    have hv := hs.v
    unfold shownQ
    rw [if_pos rfl, opndV_place _ _ _ _ _ (by decide) (nameV_goQ _ (by omega))]
    rfl
  · have e : stWQ st X kd line = stW st X kd line := by unfold stWQ stW; rw [if_neg h, if_neg h]
    unfold shownQ
    rw [if_neg h, shownL_of, e]
    exact opnd_rt st X0 X kd line hk hs hv h4 h5 h8
theorem shown_plainQ (X : Ins) (kd : Int) (hk : 1 ≤ kd ∧ kd ≤ 9) (hs : ShowOk X kd) : PlainW (shownQ X kd) := by
  unfold shownQ
  split
  · have := hs.v
    exact goQ_plain _ (by omega)
  · exact shown_plain X kd hk hs
def stNQ (st : RdSt) (K : Int × Int × Int) (X : Ins) (line : Int) : Nat → RdSt
  | 0 => st
  | j + 1 => stWQ (stNQ st K X line j) X (kindAt K j) line
theorem opndsGo_rtQ (line : Int) (K : Int × Int × Int) (ws : List ByteArray) (op : Int) (X : Ins) (st : RdSt) (n : Nat) :
    ∀ (f j : Nat), j + f = n → (∀ i, i < n → opndV (stNQ st K X line i) (fillN op K X i) (kindAt K i) (wordAt ws i) line = .ok (stNQ st K X line (i + 1), fillN op K X (i + 1))) →
      opndsGo line K ws f j (stNQ st K X line j) (fillN op K X j) = .ok (stNQ st K X line n, fillN op K X n)
  | 0, j, hj, _ => by obtain rfl : j = n := by omega
                      rfl
  | f + 1, j, hj, h => by
    unfold opndsGo
    rw [h j (by omega)]
    exact opndsGo_rtQ line K ws op X st n f (j + 1) (by omega) h
theorem ins_goQ (X : Ins) (n : Nat) (hn : n ≤ 2048) (hf : MayF X n) (hg : Good X n) (line : Int) (ws : List ByteArray) (st : RdSt) (hw : ∀ i, i < cntV (opndsV X.op) → wordAt ws i = ofL (shownQ X (kindAt (opndsV X.op) i))) :
    opndsGo line (opndsV X.op) ws (cntV (opndsV X.op)) 0 st (insX X.op) = .ok (if isJ X.op then { st with wants := st.wants ++ [((st.code.length : Int), line, ofL (goQ X.v.toNat))] } else st, bare X) := by
  obtain ⟨hop, ua, ub, uc, uv, c4, c5, cj, cw⟩ := hf
  have hm := form_mem X.op hop
  have hsh := hg.opnd
  have step : ∀ (K : Int × Int × Int), opndsV X.op = K → (∀ i, i < cntV K → (1 ≤ kindAt K i ∧ kindAt K i ≤ 9) ∧ (kindAt K i = 4 ∨ kindAt K i = 5 ∨ kindAt K i = 6 → (fillN X.op K X i).v = 0) ∧ (kindAt K i = 4 → X.c = -1 ∨ X.v = 0) ∧ (kindAt K i = 5 → X.b = -1 ∨ X.v = 0) ∧ (kindAt K i = 8 → X.v < 2048)) →
      opndsGo line K ws (cntV K) 0 st (insX X.op) = .ok (stNQ st K X line (cntV K), fillN X.op K X (cntV K)) := by
    intro K hK h
    refine opndsGo_rtQ line K ws X.op X st (cntV K) (cntV K) 0 (by omega) (fun i hi => ?_)
    obtain ⟨h1, h2, h3, h4, h5⟩ := h i hi
    have := hw i (by rw [hK]; exact hi)
    rw [hK] at this
    rw [this]
    exact opnd_rtQ _ _ _ _ _ h1 (by have := hsh i (by rw [hK]; exact hi); rw [hK] at this; exact this) h2 h3 h4 h5
  obtain ⟨K, hK⟩ : ∃ K, opndsV X.op = K := ⟨_, rfl⟩
  obtain ⟨F, hF⟩ : ∃ F, fieldsV X.op = F := ⟨_, rfl⟩
  obtain ⟨J, hJ⟩ : ∃ J, isJ X.op = J := ⟨_, rfl⟩
  obtain ⟨C, hC⟩ : ∃ C, lessC X.op = C := ⟨_, rfl⟩
  obtain ⟨D, hD⟩ : ∃ D, decide (X.op = 43) = D := ⟨_, rfl⟩
  obtain ⟨E, hE⟩ : ∃ E, decide (X.op = 22) = E := ⟨_, rfl⟩
  unfold formOf at hm
  have hst : strip X = if J then { X with v := 0 } else X := by unfold strip; rw [hJ]
  unfold bare
  rw [hst]
  have st2 := step K hK
  rw [hK, hF, hJ, hC, hD, hE] at hm
  rw [hF] at ua ub uc
  rw [hF, hJ, hE] at uv
  rw [hC] at c4
  rw [hD] at c5
  rw [hJ] at cj
  rw [hK, hJ]
  clear hK hF hJ hC hD hE step hsh hw hst hg
  obtain ⟨op, a, b, c, v, m, wh⟩ := X
  dsimp only at *
  unfold forms at hm
  simp only [List.mem_cons, Prod.mk.injEq, List.not_mem_nil, or_false] at hm
  rcases hm with ⟨rfl, rfl, rfl, rfl, rfl, rfl⟩ | ⟨rfl, rfl, rfl, rfl, rfl, rfl⟩ | ⟨rfl, rfl, rfl, rfl, rfl, rfl⟩ | ⟨rfl, rfl, rfl, rfl, rfl, rfl⟩ | ⟨rfl, rfl, rfl, rfl, rfl, rfl⟩ | ⟨rfl, rfl, rfl, rfl, rfl, rfl⟩ | ⟨rfl, rfl, rfl, rfl, rfl, rfl⟩ | ⟨rfl, rfl, rfl, rfl, rfl, rfl⟩ | ⟨rfl, rfl, rfl, rfl, rfl, rfl⟩ | ⟨rfl, rfl, rfl, rfl, rfl, rfl⟩ | ⟨rfl, rfl, rfl, rfl, rfl, rfl⟩ | ⟨rfl, rfl, rfl, rfl, rfl, rfl⟩ | ⟨rfl, rfl, rfl, rfl, rfl, rfl⟩
  all_goals
    try have c4' := c4 rfl
    try have c5' := c5 rfl
    try have cj' := cj rfl
    rw [st2 (by
      intro i hi
      have h3 : i = 0 ∨ i = 1 ∨ i = 2 := by have := Nat.lt_of_lt_of_le hi (cntV_le _); omega
      rcases h3 with rfl | rfl | rfl <;> simp [cntV] at hi <;> simp [kindAt, fillN, fill, insX] <;> first | omega | (intros; omega) | skip)]
    simp_all [cntV, stNQ, stWQ, kindAt, fillN, fill, insX]
def opsWsQ (X : Ins) (K : Int × Int × Int) (n : Nat) : List (List UInt8) := (List.range n).map fun j => shownQ X (kindAt K j)
def wordsOfQ (X : Ins) : List (List UInt8) := nameL X.op :: (opsWsQ X (opndsV X.op) (cntV (opndsV X.op)) ++ if X.m = 0 then [] else [markL X.m.toNat X.wh])
def stJQ (st : RdSt) (X : Ins) (line : Int) : RdSt := if isJ X.op then { st with wants := st.wants ++ [((st.code.length : Int), line, ofL (goQ X.v.toNat))] } else st
theorem words_plainQ (X : Ins) (n : Nat) (hf : MayF X n) (hg : Good X n) : ∀ w ∈ wordsOfQ X, PlainW w := by
  intro w hw
  unfold wordsOfQ at hw
  rcases List.mem_cons.1 hw with rfl | hw
  · exact (name_rt X.op hf.op).2.1
  · rcases List.mem_append.1 hw with hw | hw
    · unfold opsWsQ at hw
      obtain ⟨j, hj, rfl⟩ := List.mem_map.1 hw
      have hj := List.mem_range.1 hj
      exact shown_plainQ X _ (kindAt_bd hj rfl) (hg.opnd j hj)
    · split at hw
      · cases hw
      · obtain rfl := List.mem_singleton.1 hw
        exact (mark_rt ⟨0, 0, 0, 0, 0, 0, 0⟩ X.m X.wh rfl (by have := hg.m; omega) hg.wh).2
theorem line_rtQ (X : Ins) (n : Nat) (hn : n ≤ 2048) (hf : MayF X n) (hg : Good X n) (st : RdSt) (line : Int) :
    lineV st (ofL (joinW (wordsOfQ X))) line = .ok { stJQ st X line with code := st.code ++ [strip X] } := by
  obtain ⟨n1, n2, n3⟩ := name_rt X.op hf.op
  unfold lineV
  rw [wordsV_join _ (words_plainQ X n hf hg)]
  unfold wordsOfQ
  rw [List.map_cons]
  have e0 : ofL (nameL X.op) = nameOf X.op := data_ofL _
  rw [e0]
  have hlw : ∀ ws, lineWs st line (nameOf X.op :: ws) = insV st (nameOf X.op) ws line := fun ws => if_neg (fun h => n3 h.2)
  obtain ⟨ws, hws⟩ : ∃ ws, ws = List.map ofL (opsWsQ X (opndsV X.op) (cntV (opndsV X.op)) ++ if X.m = 0 then [] else [markL X.m.toNat X.wh]) := ⟨_, rfl⟩
  rw [← hws, hlw]
  have hwl : ws.length = cntV (opndsV X.op) + if X.m = 0 then 0 else 1 := by
    rw [hws]; unfold opsWsQ; split <;> simp
  have hwi : ∀ i, i < cntV (opndsV X.op) → wordAt ws i = ofL (shownQ X (kindAt (opndsV X.op) i)) := by
    intro i hi
    have hi2 : i < (opsWsQ X (opndsV X.op) (cntV (opndsV X.op))).length := by unfold opsWsQ; simpa using hi
    rw [hws]; unfold wordAt
    rw [List.getD_eq_getElem?_getD, List.getElem?_map, List.getElem?_append_left hi2]
    unfold opsWsQ
    rw [List.getElem?_map, List.getElem?_range hi]
    rfl
  have hwm : X.m ≠ 0 → wordAt ws (cntV (opndsV X.op)) = ofL (markL X.m.toNat X.wh) := by
    intro h
    rw [hws]; unfold wordAt
    rw [if_neg h, List.getD_eq_getElem?_getD, List.getElem?_map, List.getElem?_append_right (by unfold opsWsQ; simp)]
    unfold opsWsQ
    simp
  unfold insV
  rw [n1, if_neg (by have := hf.op; omega)]
  have hcb : cntBad (cntV (opndsV X.op)) ws = false := by
    unfold cntBad
    apply decide_eq_false
    rintro ⟨h1, h2⟩
    rw [hwl] at h1 h2
    by_cases h : X.m = 0
    · rw [if_pos h] at h1; omega
    · rw [if_neg h] at h2
      rcases h2 with h2 | h2
      · omega
      · rw [hwm h, byteAt_ofL] at h2
        exact h2 rfl
  rw [hcb, if_neg (by simp), ins_goQ X n hn hf hg line ws st hwi]
  have hb0 : (bare X).wh = 0 := rfl
  unfold insEnd
  dsimp only
  by_cases h : X.m = 0
  · have hl : ¬ cntV (opndsV X.op) < ws.length := by rw [hwl, if_pos h]; omega
    rw [if_neg hl]
    have hwz := hf.w h
    have : bare X = strip X := by
      unfold bare strip
      rcases X with ⟨op, a, b, c, v, m, wh⟩
      dsimp only at h hwz
      subst h; subst hwz
      split <;> rfl
    rw [this]
    cases hJ : isJ X.op <;> simp [insPush, stJQ, hJ]
  · have hl : cntV (opndsV X.op) < ws.length := by rw [hwl, if_neg h]; omega
    rw [if_pos hl, hwm h, (mark_rt (bare X) X.m X.wh hb0 (by have := hg.m; omega) hg.wh).1]
    have : ({ bare X with m := X.m, wh := X.wh } : Ins) = strip X := by
      unfold bare strip
      split <;> rfl
    rw [this]
    cases hJ : isJ X.op <;> simp [insPush, stJQ, hJ]
end Go.Proofs.YtnoejikcdigceaaDoor

set_option linter.unusedVariables false
set_option linter.unusedSimpArgs false
namespace Go.Proofs.YtnoejikcdigceaaDoor
open Go.RowKit
def labQ (n i : Nat) : ByteArray × Int := (ofL (goQ i), ((n + i : Nat) : Int))
theorem goQ_inj {i j : Nat} (hi : i ≤ 4096) (hj : j ≤ 4096) (h : ofL (goQ i) = ofL (goQ j)) : i = j := by
  have : (ofL (goQ i)).data.toList = (ofL (goQ j)).data.toList := by rw [h]
  rw [ofL_data, ofL_data] at this
  unfold goQ at this
  injection this with _ this
  exact decL_inj (by omega) (by omega) this
theorem goL_goQ (i j : Nat) : ofL (goL i) ≠ ofL (goQ j) := by
  intro h
  have : (ofL (goL i)).data.toList = (ofL (goQ j)).data.toList := by rw [h]
  rw [ofL_data, ofL_data] at this
  unfold goL goQ at this
  injection this with h1 _
  cases h1
theorem labFind_app (nm : ByteArray) (B : List (ByteArray × Int)) : ∀ (A : List (ByteArray × Int)) (off : Nat), labFind (A ++ B) nm off = match labFind A nm off with | some j => some j | none => labFind B nm (off + A.length)
  | [], off => rfl
  | x :: A, off => by
    show (if x.1 = nm then some off else labFind (A ++ B) nm (off + 1)) = match (if x.1 = nm then some off else labFind A nm (off + 1)) with | some j => some j | none => labFind B nm (off + (A.length + 1))
    by_cases h : x.1 = nm
    · rw [if_pos h, if_pos h]
    · rw [if_neg h, if_neg h, labFind_app nm B A (off + 1), show off + 1 + A.length = off + (A.length + 1) from by omega]
theorem labFindQ_in (n v : Nat) (hv : v ≤ 4096) : ∀ (is : List Nat) (off : Nat), (∀ i ∈ is, i ≤ 4096) → v ∈ is → ∃ j, labFind (is.map (labQ n)) (ofL (goQ v)) off = some (off + j) ∧ (is.map (labQ n))[j]? = some (labQ n v)
  | [], _, _, h => by cases h
  | i :: is, off, hb, h => by
    by_cases e : ofL (goQ i) = ofL (goQ v)
    · have := goQ_inj (hb i (by simp)) hv e
      subst this
      exact ⟨0, by rw [List.map_cons]; unfold labFind; rw [if_pos (show (labQ n i).1 = ofL (goQ i) from rfl)]; rfl, rfl⟩
    · have hne : v ≠ i := fun e2 => e (by rw [e2])
      obtain ⟨j, h1, h2⟩ := labFindQ_in n v hv is (off + 1) (fun i hi => hb i (by simp [hi])) (by rcases List.mem_cons.1 h with h | h; exact absurd h hne; exact h)
      refine ⟨j + 1, ?_, h2⟩
      rw [List.map_cons]
      unfold labFind
      rw [if_neg (by exact e), h1]
      congr 1; omega
theorem labFindQ_out (n v : Nat) (hv : v ≤ 4096) : ∀ (is : List Nat) (off : Nat), (∀ i ∈ is, i ≤ 4096) → v ∉ is → labFind (is.map (labQ n)) (ofL (goQ v)) off = none
  | [], _, _, _ => rfl
  | i :: is, off, hb, h => by
    rw [List.map_cons]
    unfold labFind
    rw [if_neg (fun e => h (by rw [← goQ_inj (hb i (by simp)) hv e]; simp))]
    exact labFindQ_out n v hv is (off + 1) (fun i hi => hb i (by simp [hi])) (fun h2 => h (by simp [h2]))
theorem labFind_noQ (v : Nat) : ∀ (is : List Nat) (off : Nat), labFind (is.map labOf) (ofL (goQ v)) off = none
  | [], _ => rfl
  | i :: is, off => by
    rw [List.map_cons]
    unfold labFind
    rw [if_neg (show ¬ (labOf i).1 = ofL (goQ v) from goL_goQ i v)]
    exact labFind_noQ v is (off + 1)
def labsQ (n : Nat) (l : List Ins) (k : Nat) : List (ByteArray × Int) := (goals l k).map (labQ n)
def wantQ (n : Nat) (l : List Ins) (i : Nat) : Int × Int × ByteArray := (((n + i : Nat) : Int), 0, ofL (goQ (l.getD i zI).v.toNat))
def wantsQ (n : Nat) (l : List Ins) (k : Nat) : List (Int × Int × ByteArray) := ((List.range k).filter fun i => isJ (l.getD i zI).op).map (wantQ n l)
theorem wantsQ_succ (n : Nat) (l : List Ins) (k : Nat) : wantsQ n l (k + 1) = wantsQ n l k ++ if isJ (l.getD k zI).op then [wantQ n l k] else [] := by
  unfold wantsQ; rw [List.range_succ, List.filter_append, List.map_append]
  congr 1
  cases h : isJ (l.getD k zI).op <;> simp only [List.filter_cons, List.filter_nil, h] <;> rfl
/-- The second text's lines. -/
def lineLsQ (l : List Ins) (i : Nat) : List (List UInt8) := (if goalV l i then [goQ i ++ [58]] else []) ++ [joinW (wordsOfQ (l.getD i zI))]
def textLsQ (l : List Ins) (k : Nat) : List (List UInt8) := (List.range k).flatMap (lineLsQ l)
theorem textLsQ_succ (l : List Ins) (k : Nat) : textLsQ l (k + 1) = textLsQ l k ++ lineLsQ l k := by
  unfold textLsQ; rw [List.range_succ, List.flatMap_append]; simp
/-- The reader behind the first k instructions' lines of the second text. -/
structure AtQ (s0 : RdSt) (n : Nat) (l : List Ins) (k : Nat) (st : RdSt) : Prop where
  code : st.code = s0.code ++ (l.take k).map strip
  labels : st.labels = s0.labels ++ labsQ n l k
  wants : st.wants.map pairW = s0.wants.map pairW ++ (wantsQ n l k).map pairW
theorem lines_rtQ (s0 : RdSt) (i0 : Int) (n : Nat) (hn : s0.code.length = n) (hno : ∀ v off, labFind s0.labels (ofL (goQ v)) off = none) (l : List Ins) (hl : l.length ≤ 2048) (hg : ∀ X ∈ l, MayF X l.length ∧ Good X l.length) :
    ∀ k, k ≤ l.length → ∀ Y : List ByteArray, ∃ (i : Int) (st : RdSt), AtQ s0 n l k st ∧ linesGo ((textLsQ l k).map ofL ++ Y) i0 s0 = linesGo Y i st := by
  intro k
  induction k with
  | zero => exact fun _ Y => ⟨i0, s0, ⟨by simp, by simp [labsQ, goals], by simp [wantsQ]⟩, rfl⟩
  | succ k ih =>
    intro hk Y
    obtain ⟨i, st, hat, he⟩ := ih (by omega) ((lineLsQ l k).map ofL ++ Y)
    have hkl : k < l.length := by omega
    have hX : l[k]? = some l[k] := List.getElem?_eq_getElem hkl
    have hD : l.getD k zI = l[k] := by rw [List.getD_eq_getElem?_getD, hX]; rfl
    obtain ⟨hf, hgd⟩ := hg l[k] (List.getElem_mem hkl)
    have htk : l.take (k + 1) = l.take k ++ [l[k]] := by rw [List.take_add_one, hX]; rfl
    have hclen : st.code.length = n + k := by rw [hat.code]; simp; omega
    have main : ∀ (i : Int) (st1 : RdSt), st1.code = st.code → st1.labels = s0.labels ++ labsQ n l (k + 1) → st1.wants = st.wants → ∃ (i' : Int) (st' : RdSt), AtQ s0 n l (k + 1) st' ∧ linesGo (ofL (joinW (wordsOfQ (l.getD k zI))) :: Y) i st1 = linesGo Y i' st' := by
      intro i st1 hc hb hw
      refine ⟨i + 1, _, ?_, by rw [hD, linesGo, line_rtQ l[k] l.length hl hf hgd st1 i]⟩
      refine ⟨?_, ?_, ?_⟩
      · dsimp only; rw [hc, hat.code, htk, List.map_append, List.append_assoc]; rfl
      · have : (stJQ st1 l[k] i).labels = st1.labels := by unfold stJQ; split <;> rfl
        dsimp only; rw [this, hb]
      · rw [wantsQ_succ, List.map_append, ← List.append_assoc, ← hat.wants, hD]
        dsimp only
        unfold stJQ
        have hw2 : st1.wants = st.wants := hw
        cases hJ : isJ l[k].op
        · simp [hw2]
        · simp only [if_pos, List.map_append, hw2]
          congr 1
          have : st1.code.length = n + k := by rw [hc]; exact hclen
          show [(((st1.code.length : Nat) : Int), ofL (goQ l[k].v.toNat))] = [(((n + k : Nat) : Int), ofL (goQ (l.getD k zI).v.toNat))]
          rw [this, hD]
    rw [textLsQ_succ, List.map_append, List.append_assoc, he]
    have hgs := goals_succ l k
    unfold lineLsQ
    cases hgv : goalV l k with
    | false =>
      rw [hgv] at hgs
      simp only [Bool.false_eq_true, if_false, List.append_nil] at hgs
      simp only [Bool.false_eq_true, if_false, List.nil_append, List.map_cons, List.map_nil, List.cons_append]
      exact main i st rfl (by unfold labsQ; rw [hgs]; exact hat.labels) rfl
    | true =>
      rw [hgv] at hgs
      simp only [if_true] at hgs
      simp only [if_true, List.map_append, List.map_cons, List.map_nil, List.cons_append, List.nil_append]
      rw [linesGo, lineV_colon _ _ (goQ_clear k (by omega))]
      unfold labV
      rw [hat.labels]
      have hno2 : labFind (s0.labels ++ labsQ n l k) (ofL (goQ k)) 0 = none := by
        rw [labFind_app, hno]
        exact labFindQ_out n k (by omega) (goals l k) _ (fun i hi => by have := (goals_mem.1 hi).1; omega) (fun h => by have := (goals_mem.1 h).1; omega)
      rw [hno2]
      dsimp only
      rw [nameV_goQ k (by omega), if_pos rfl]
      exact main (i + 1) _ rfl (by unfold labsQ; rw [hgs, List.map_append, hclen, List.append_assoc]; rfl) rfl
def shift (n : Nat) (X : Ins) : Ins := if isJ X.op then { X with v := X.v + n } else X
theorem wants_rtP (l : List Ins) (hl : l.length ≤ 2048) (LB : List (ByteArray × Int)) (hg : ∀ X ∈ l, MayF X l.length ∧ Good X l.length) : ∀ (k : Nat) (R : List Ins), k ≤ l.length → wantsGo (labsOf l l.length ++ LB) (wantsOf l k) ((l.take k).map strip ++ R) = some (l.take k ++ R)
  | 0, R, _ => by simp [wantsOf, wantsGo]
  | k + 1, R, hk => by
    have hkl : k < l.length := by omega
    have hX : l[k]? = some l[k] := List.getElem?_eq_getElem hkl
    have hD : l.getD k zI = l[k] := by rw [List.getD_eq_getElem?_getD, hX]; rfl
    have htk : l.take (k + 1) = l.take k ++ [l[k]] := by rw [List.take_add_one, hX]; rfl
    have hlen : (l.take k).length = k := by simp; omega
    rw [wantsOf_succ, htk, List.map_append, List.append_assoc, wantsGo_app _ _ _ _ _ (wants_rtP l hl LB hg k _ (by omega)), hD]
    cases hJ : isJ l[k].op
    · rw [List.map_cons, List.map_nil, strip_no hJ, List.append_assoc]; rfl
    · obtain ⟨h0, h1⟩ := (hg l[k] (List.getElem_mem hkl)).2.jump hJ
      have hgo : goalV l l[k].v.toNat = true := by
        unfold goalV
        rw [List.any_eq_true]
        exact ⟨l[k], List.getElem_mem hkl, by rw [hJ]; simp; omega⟩
      obtain ⟨j, hj1, hj2⟩ := labFind_in l[k].v.toNat (by omega) (goals l l.length) 0 (fun i hi => by have := (goals_mem.1 hi).1; omega) (goals_mem.2 ⟨by omega, hgo⟩)
      rw [Nat.zero_add] at hj1
      have hjl : j < ((goals l l.length).map labOf).length := (List.getElem?_eq_some_iff.1 hj2).1
      simp only [if_true]
      rw [wantsGo_cons]
      have hn : (wantOf l k).2.2 = ofL (goL l[k].v.toNat) := by unfold wantOf; rw [hD]
      rw [hn, labFind_app]
      unfold labsOf
      rw [hj1]
      dsimp only
      unfold wantsGo
      have hla : labAt ((goals l l.length).map labOf ++ LB) j = l[k].v := by
        unfold labAt; rw [List.getElem?_append_left hjl, hj2]; unfold labOf; simp; omega
      rw [hla]
      have hn1 : (wantOf l k).1.toNat = k := by unfold wantOf; simp
      rw [hn1]
      unfold setV
      rw [List.map_cons, List.map_nil, List.append_assoc, List.singleton_append]
      congr 1
      have hm : (l.take k ++ (strip l[k] :: R)).modify k (fun X => { X with v := l[k].v }) = l.take k ++ ({ strip l[k] with v := l[k].v } : Ins) :: R := by
        have hat : (l.take k ++ (strip l[k] :: R))[k]? = some (strip l[k]) := by
          rw [List.getElem?_append_right (by omega), hlen, Nat.sub_self]; rfl
        rw [modify_set _ _ _ _ hat, List.set_append_right _ _ (by omega), hlen, Nat.sub_self]; rfl
      rw [hm, strip_fill]; simp
theorem shift_fill (n : Nat) (X : Ins) (h : isJ X.op = true) : ({ strip X with v := X.v + n } : Ins) = shift n X := by unfold strip shift; rw [h]; rfl
theorem shift_no (n : Nat) {X : Ins} (h : isJ X.op = false) : shift n X = X := by unfold shift; rw [h]; rfl
theorem wants_rtQ (A : List Ins) (n : Nat) (hA : A.length = n) (LA : List (ByteArray × Int)) (hno : ∀ v off, labFind LA (ofL (goQ v)) off = none) (l : List Ins) (hl : l.length ≤ 2048) (hg : ∀ X ∈ l, MayF X l.length ∧ Good X l.length) :
    ∀ (k : Nat) (R : List Ins), k ≤ l.length → wantsGo (LA ++ labsQ n l l.length) (wantsQ n l k) (A ++ ((l.take k).map strip ++ R)) = some (A ++ ((l.take k).map (shift n) ++ R))
  | 0, R, _ => by simp [wantsQ, wantsGo]
  | k + 1, R, hk => by
    have hkl : k < l.length := by omega
    have hX : l[k]? = some l[k] := List.getElem?_eq_getElem hkl
    have hD : l.getD k zI = l[k] := by rw [List.getD_eq_getElem?_getD, hX]; rfl
    have htk : l.take (k + 1) = l.take k ++ [l[k]] := by rw [List.take_add_one, hX]; rfl
    have hlen : ((l.take k).map (shift n)).length = k := by simp; omega
    rw [wantsQ_succ, htk, List.map_append, List.append_assoc, wantsGo_app _ _ _ _ _ (wants_rtQ A n hA LA hno l hl hg k _ (by omega)), hD]
    cases hJ : isJ l[k].op
    · rw [List.map_cons, List.map_nil, strip_no hJ, List.map_append, List.append_assoc, List.map_cons, shift_no n hJ]; rfl
    · obtain ⟨h0, h1⟩ := (hg l[k] (List.getElem_mem hkl)).2.jump hJ
      have hgo : goalV l l[k].v.toNat = true := by
        unfold goalV
        rw [List.any_eq_true]
        exact ⟨l[k], List.getElem_mem hkl, by rw [hJ]; simp; omega⟩
      obtain ⟨j, hj1, hj2⟩ := labFindQ_in n l[k].v.toNat (by omega) (goals l l.length) LA.length (fun i hi => by have := (goals_mem.1 hi).1; omega) (goals_mem.2 ⟨by omega, hgo⟩)
      simp only [if_true]
      rw [wantsGo_cons]
      have hn : (wantQ n l k).2.2 = ofL (goQ l[k].v.toNat) := by unfold wantQ; rw [hD]
      rw [hn, labFind_app, hno]
      unfold labsQ
      simp only [Nat.zero_add]
      rw [hj1]
      dsimp only
      unfold wantsGo
      have hla : labAt (LA ++ (goals l l.length).map (labQ n)) (LA.length + j) = l[k].v + n := by
        unfold labAt; rw [List.getElem?_append_right (by omega), show LA.length + j - LA.length = j from by omega, hj2]; unfold labQ; simp; omega
      rw [hla]
      have hn1 : (wantQ n l k).1.toNat = n + k := by unfold wantQ; simp; omega
      rw [hn1]
      unfold setV
      rw [List.map_cons, List.map_nil, List.map_append, List.append_assoc, List.singleton_append, List.map_cons, List.map_nil, List.singleton_append]
      congr 1
      have hm : (A ++ ((l.take k).map (shift n) ++ (strip l[k] :: R))).modify (n + k) (fun X => { X with v := l[k].v + n }) = A ++ ((l.take k).map (shift n) ++ ({ strip l[k] with v := l[k].v + n } : Ins) :: R) := by
        have hat : (A ++ ((l.take k).map (shift n) ++ (strip l[k] :: R)))[n + k]? = some (strip l[k]) := by
          rw [List.getElem?_append_right (by omega), hA, show n + k - n = k from by omega, List.getElem?_append_right (by omega), hlen, Nat.sub_self]; rfl
        rw [modify_set _ _ _ _ hat, List.set_append_right _ _ (by omega), hA, show n + k - n = k from by omega, List.set_append_right _ _ (by omega), hlen, Nat.sub_self]; rfl
      rw [hm, shift_fill n _ hJ]
theorem textLsQ_nl (l : List Ins) (hl : l.length ≤ 2048) (hg : ∀ X ∈ l, MayF X l.length ∧ Good X l.length) : ∀ k, k ≤ l.length → ∀ x ∈ textLsQ l k, (10 : UInt8) ∉ x := by
  intro k hk x hx
  unfold textLsQ at hx
  obtain ⟨i, hi, hx⟩ := List.mem_flatMap.1 hx
  have hi := List.mem_range.1 hi
  have hil : i < l.length := by omega
  have hD : l.getD i zI = l[i] := by rw [List.getD_eq_getElem?_getD, List.getElem?_eq_getElem hil]; rfl
  unfold lineLsQ at hx
  rcases List.mem_append.1 hx with hx | hx
  · split at hx
    · obtain rfl := List.mem_singleton.1 hx
      have := (goQ_clear i (by omega)).2.2.1
      simp [this]
    · cases hx
  · obtain rfl := List.mem_singleton.1 hx
    rw [hD]
    obtain ⟨hf, hgd⟩ := hg l[i] (List.getElem_mem hil)
    exact joinW_nl _ (words_plainQ _ _ hf hgd)
def linesQ (l : List Ins) : List UInt8 := (textLsQ l l.length).flatMap fun x => x ++ [10]
theorem parse_join (a b : List Ins) (ha : a.length ≤ 1024) (hb : b.length ≤ 1024) (hga : ∀ X ∈ a, MayF X a.length ∧ Good X a.length) (hgb : ∀ X ∈ b, MayF X b.length ∧ Good X b.length) (hb0 : b ≠ []) :
    parseV (ofL (linesTo a a.length ++ linesQ b)) = .ok (a ++ b.map (shift a.length), labsOf a a.length ++ labsQ a.length b b.length) := by
  have hbl : 0 < b.length := List.length_pos_iff.2 hb0
  unfold parseV parseLs
  have hcut : cutLines (ofL (linesTo a a.length ++ linesQ b)) = (textLs a a.length ++ textLsQ b b.length).map ofL ++ [ofL []] := by
    unfold linesQ
    rw [linesTo_text, ← List.flatMap_append]
    refine cutLines_text _ (fun x hx => ?_)
    rcases List.mem_append.1 hx with hx | hx
    · exact textLs_nl a (by omega) hga _ (Nat.le_refl _) x hx
    · exact textLsQ_nl b (by omega) hgb _ (Nat.le_refl _) x hx
  rw [hcut, List.map_append, List.append_assoc]
  obtain ⟨i, st, hat, he⟩ := lines_rt a (by omega) hga ((textLsQ b b.length).map ofL ++ [ofL []]) a.length (Nat.le_refl _)
  rw [he]
  have hta : a.take a.length = a := List.take_length
  have htb : b.take b.length = b := List.take_length
  have hsl : st.code.length = a.length := by rw [hat.code, hta]; simp
  have hno : ∀ v off, labFind st.labels (ofL (goQ v)) off = none := by
    intro v off; rw [hat.labels]; exact labFind_noQ v _ off
  obtain ⟨i2, s2, hat2, he2⟩ := lines_rtQ st i a.length hsl hno b (by omega) hgb b.length (Nat.le_refl _) [ofL []]
  rw [he2, linesGo, lineV_nil]
  dsimp only
  rw [show linesGo [] (i2 + 1) s2 = .ok s2 from rfl]
  dsimp only
  have hw : wantsGo s2.labels s2.wants s2.code = some (a ++ b.map (shift a.length)) := by
    have hsim : s2.wants.map pairW = (wantsOf a a.length ++ wantsQ a.length b b.length).map pairW := by
      rw [hat2.wants, hat.wants, List.map_append]
    rw [wantsGo_sim _ _ _ _ hsim, hat2.labels, hat2.code, hat.labels, hat.code]
    rw [wantsGo_app _ _ _ _ _ (wants_rtP a (by omega) (labsQ a.length b b.length) hga a.length ((b.take b.length).map strip) (Nat.le_refl _))]
    have := wants_rtQ a a.length rfl (labsOf a a.length) (fun v off => labFind_noQ v _ off) b (by omega) hgb b.length [] (Nat.le_refl _)
    rw [List.append_nil, List.append_nil, htb] at this
    rw [hta, htb]; exact this
  unfold parseEnd
  rw [hw, hat2.labels, hat.labels]
  dsimp only
  rw [if_neg (by simp; omega), if_neg]
  rw [Bool.not_eq_true, List.any_eq_false]
  intro x hx
  rcases List.mem_append.1 hx with hx | hx
  · unfold labsOf at hx
    obtain ⟨j, hj, rfl⟩ := List.mem_map.1 hx
    have := (goals_mem.1 hj).1
    unfold labOf
    simp
    omega
  · unfold labsQ at hx
    obtain ⟨j, hj, rfl⟩ := List.mem_map.1 hx
    have := (goals_mem.1 hj).1
    unfold labQ
    simp
    omega
end Go.Proofs.YtnoejikcdigceaaDoor

set_option linter.unusedVariables false
set_option linter.unusedSimpArgs false
namespace Go.Proofs.YtnoejikcdigceaaDoor
open Go.RowKit
/-- Whether a place's name begins at a byte. -/
def isP (t : ByteArray) (k : Nat) : Bool :=
  decide (byteAt t k = 112) && decide (k + 1 < t.size) && decide (48 ≤ byteAt t (k + 1)) && decide (byteAt t (k + 1) ≤ 57) && (decide (k = 0) || decide (byteAt t (k - 1) = 10) || decide (byteAt t (k - 1) = 32))
/-- The text with its places renamed, k bytes of it. -/
def uB (t : ByteArray) : Nat → ByteArray
  | 0 => ⟨#[]⟩
  | k + 1 => uB t k ++ if isP t k then ⟨#[113]⟩ else t.extract k (k + 1)
def sepC (c : UInt8) : Bool := c == 10 || c == 32
def digC (c : UInt8) : Bool := decide (48 ≤ c.toNat) && decide (c.toNat ≤ 57)
def headDig : List UInt8 → Bool
  | [] => false
  | d :: _ => digC d
def qGo (p : UInt8) : List UInt8 → List UInt8
  | [] => []
  | c :: cs => (if c = 112 ∧ headDig cs = true ∧ sepC p = true then 113 else c) :: qGo c cs
theorem qGo_cons (p c : UInt8) (cs : List UInt8) : qGo p (c :: cs) = (if c = 112 ∧ headDig cs = true ∧ sepC p = true then 113 else c) :: qGo c cs := rfl
theorem uB_qGo (t : ByteArray) : ∀ (suf pre : List UInt8), t.data.toList = pre ++ suf → uB t (pre.length + suf.length) = uB t pre.length ++ ofL (qGo (pre.getLastD 10) suf)
  | [], pre, _ => by
    show uB t (pre.length + 0) = _
    apply ByteArray.ext
    simp [qGo, ofL]
  | c :: cs, pre, h => by
    have hlen : t.size = pre.length + (cs.length + 1) := by
      have := congrArg List.length h
      simpa using this
    have hk : pre.length < t.size := by omega
    have hat : t.data.toList[pre.length]? = some c := by rw [h, List.getElem?_append_right (Nat.le_refl _), Nat.sub_self]; rfl
    have hb : byteAt t pre.length = c.toNat := by unfold byteAt; rw [List.getD_eq_getElem?_getD, hat]; rfl
    have hrec := uB_qGo t cs (pre ++ [c]) (by rw [h, List.append_assoc]; rfl)
    rw [List.length_append, List.length_singleton, show pre.length + 1 + cs.length = pre.length + (c :: cs).length from by simp; omega] at hrec
    rw [hrec]
    have hlast : (pre ++ [c]).getLastD 10 = c := by simp
    rw [hlast]
    have hP : isP t pre.length = decide (c = 112 ∧ headDig cs = true ∧ sepC (pre.getLastD 10) = true) := by
      have e1 : decide (byteAt t pre.length = 112) = decide (c = 112) := by
        rw [hb]
        by_cases hc : c = 112
        · subst hc; rfl
        · rw [decide_eq_false hc]
          apply decide_eq_false
          intro h2
          apply hc
          apply UInt8.toNat_inj.1
          show c.toNat = 112
          omega
      have e2 : (decide (pre.length + 1 < t.size) && decide (48 ≤ byteAt t (pre.length + 1)) && decide (byteAt t (pre.length + 1) ≤ 57)) = headDig cs := by
        cases cs with
        | nil =>
          have : ¬ pre.length + 1 < t.size := by simp at hlen; omega
          rw [decide_eq_false this]; rfl
        | cons d ds =>
          have h2 : pre.length + 1 < t.size := by simp at hlen; omega
          have hd : byteAt t (pre.length + 1) = d.toNat := by
            unfold byteAt
            rw [List.getD_eq_getElem?_getD, h, List.getElem?_append_right (by omega), show pre.length + 1 - pre.length = 1 from by omega]; rfl
          rw [decide_eq_true h2, hd]
          unfold headDig digC
          rw [Bool.true_and]
          congr 1
          · exact decide_eq_decide.2 (by omega)
          · exact decide_eq_decide.2 (by omega)
      have e3 : (decide (pre.length = 0) || decide (byteAt t (pre.length - 1) = 10) || decide (byteAt t (pre.length - 1) = 32)) = sepC (pre.getLastD 10) := by
        rcases List.eq_nil_or_concat pre with hp | ⟨q, x, hp⟩
        · subst hp; rfl
        · rw [List.concat_eq_append] at hp
          subst hp
          have hl : (q ++ [x]).getLastD 10 = x := by simp
          have hx : byteAt t ((q ++ [x]).length - 1) = x.toNat := by
            unfold byteAt
            rw [List.getD_eq_getElem?_getD, h]
            have : (q ++ [x]).length - 1 = q.length := by simp
            rw [this, List.append_assoc, List.getElem?_append_right (Nat.le_refl _), Nat.sub_self]; rfl
          rw [hl, hx]
          have hz : ¬ (q ++ [x]).length = 0 := by simp
          rw [decide_eq_false hz, Bool.false_or]
          unfold sepC
          congr 1
          · by_cases he : x = 10
            · subst he; rfl
            · have : ¬ (x.toNat : Int) = 10 := fun h2 => he (UInt8.toNat_inj.1 (by show x.toNat = 10; omega))
              rw [decide_eq_false this]; simp [he]
          · by_cases he : x = 32
            · subst he; rfl
            · have : ¬ (x.toNat : Int) = 32 := fun h2 => he (UInt8.toNat_inj.1 (by show x.toNat = 32; omega))
              rw [decide_eq_false this]; simp [he]
      unfold isP
      rw [e1, e3, Bool.and_assoc, Bool.and_assoc, Bool.and_assoc, ← Bool.and_assoc (decide (pre.length + 1 < t.size)), ← Bool.and_assoc (decide (pre.length + 1 < t.size) && decide (48 ≤ byteAt t (pre.length + 1))), e2]
      by_cases h1 : c = 112 <;> cases h2 : headDig cs <;> cases h3 : sepC (pre.getLastD 10) <;> simp [h1]
    rw [show uB t (pre.length + 1) = uB t pre.length ++ (if isP t pre.length then ⟨#[113]⟩ else t.extract pre.length (pre.length + 1)) from rfl, hP]
    have hx : t.extract pre.length (pre.length + 1) = ⟨#[c]⟩ := by
      rw [extract_ofL, h, List.drop_left, show pre.length + 1 - pre.length = 1 from by omega]; rfl
    rw [hx, qGo_cons]
    apply ByteArray.ext
    apply Array.ext'
    by_cases h2 : c = 112 ∧ headDig cs = true ∧ sepC (pre.getLastD 10) = true
    · rw [decide_eq_true h2, if_pos h2]; simp [ofL]
    · rw [decide_eq_false h2, if_neg h2]; simp [ofL]
theorem uB_all (t : ByteArray) : uB t t.size = ofL (qGo 10 t.data.toList) := by
  have := uB_qGo t t.data.toList [] rfl
  simp only [List.length_nil, Nat.zero_add] at this
  have e : t.data.toList.length = t.size := by simp
  rw [e] at this
  rw [this]
  apply ByteArray.ext
  simp [uB, List.getLastD]
theorem uB_size (t : ByteArray) : ∀ k, k ≤ t.size → (uB t k).size = k
  | 0, _ => rfl
  | k + 1, h => by
    have ih := uB_size t k (by omega)
    unfold uB
    rw [ByteArray.size_append, ih]
    split
    · rfl
    · simp; omega
/-- A word renamed. -/
def qW : List UInt8 → List UInt8
  | [] => []
  | c :: cs => (if c = 112 ∧ headDig cs = true then 113 else c) :: cs
theorem qGo_in : ∀ (w : List UInt8) (p s : UInt8) (ys : List UInt8), sepC p = false → (10 : UInt8) ∉ w → (32 : UInt8) ∉ w → qGo p (w ++ s :: ys) = w ++ qGo (w.getLastD p) (s :: ys)
  | [], p, s, ys, _, _, _ => rfl
  | c :: w, p, s, ys, hp, h1, h2 => by
    have hc : sepC c = false := by
      unfold sepC
      have a : c ≠ 10 := fun e => h1 (by simp [e])
      have b : c ≠ 32 := fun e => h2 (by simp [e])
      simp [a, b]
    have hlast : (c :: w).getLastD p = w.getLastD c := by
      cases w with
      | nil => rfl
      | cons a l => rw [List.getLastD_eq_getLast?, List.getLastD_eq_getLast?, List.getLast?_cons_cons, List.getLast?_eq_some_getLast (by simp)]; rfl
    rw [List.cons_append, qGo_cons, hlast]
    rw [if_neg (by rintro ⟨_, _, h⟩; rw [hp] at h; cases h), qGo_in w c s ys hc (fun h => h1 (by simp [h])) (fun h => h2 (by simp [h]))]
    rfl
theorem headDig_app (w : List UInt8) (s : UInt8) (ys : List UInt8) (hs : digC s = false) : headDig (w ++ s :: ys) = headDig w := by
  cases w with
  | nil => exact hs
  | cons d ds => rfl
theorem qW_cons (c : UInt8) (cs : List UInt8) : qW (c :: cs) = (if c = 112 ∧ headDig cs = true then 113 else c) :: cs := rfl
/-- A word behind a separator and ahead of one. -/
theorem qGo_word (w : List UInt8) (p s : UInt8) (ys : List UInt8) (hp : sepC p = true) (hs : sepC s = true) (hw : PlainW w) : qGo p (w ++ s :: ys) = qW w ++ s :: qGo s ys := by
  have hsd : digC s = false := by
    unfold sepC at hs
    simp at hs
    rcases hs with rfl | rfl <;> rfl
  have hs112 : ∀ q, qGo q (s :: ys) = s :: qGo s ys := by
    intro q
    have : ¬ s = 112 := by
      unfold sepC at hs
      simp at hs
      rcases hs with rfl | rfl <;> decide
    rw [qGo_cons, if_neg (fun h => this h.1)]
  cases w with
  | nil => exact absurd rfl hw.2.2.2
  | cons c cs =>
    have hc : sepC c = false := by
      unfold sepC
      have a : c ≠ 10 := fun e => hw.2.2.1 (by simp [e])
      have b : c ≠ 32 := fun e => hw.1 (by simp [e])
      simp [a, b]
    rw [List.cons_append, qGo_cons, qW_cons]
    rw [headDig_app _ _ _ hsd, qGo_in cs c s ys hc (fun h => hw.2.2.1 (by simp [h])) (fun h => hw.1 (by simp [h])), hs112]
    by_cases h : c = 112 ∧ headDig cs = true
    · rw [if_pos ⟨h.1, h.2, hp⟩, if_pos h]; simp
    · rw [if_neg (fun h2 => h ⟨h2.1, h2.2.1⟩), if_neg h]; simp
theorem qGo_join : ∀ (ws : List (List UInt8)) (p : UInt8) (ys : List UInt8), ws ≠ [] → sepC p = true → (∀ w ∈ ws, PlainW w) → qGo p (joinW ws ++ 10 :: ys) = joinW (ws.map qW) ++ 10 :: qGo 10 ys
  | [], _, _, h, _, _ => absurd rfl h
  | [w], p, ys, _, hp, hw => qGo_word w p 10 ys hp rfl (hw w (by simp))
  | w :: v :: ws, p, ys, _, hp, hw => by
    have e : joinW (w :: v :: ws) = w ++ 32 :: joinW (v :: ws) := rfl
    have e2 : joinW ((w :: v :: ws).map qW) = qW w ++ 32 :: joinW ((v :: ws).map qW) := rfl
    rw [e, e2, List.append_assoc, List.cons_append, qGo_word w p 32 _ hp rfl (hw w (by simp)), qGo_join (v :: ws) 32 ys (by simp) rfl (fun x hx => hw x (by simp [hx]))]
    simp
theorem qW_go (n : Nat) (hn : n ≤ 18446744073709551615) : qW (goL n) = goQ n := by
  unfold goL goQ
  rw [qW_cons, if_pos]
  refine ⟨rfl, ?_⟩
  obtain ⟨h1, h2, _, _⟩ := decL_spec n hn
  cases hd : decL n with
  | nil => exact absurd hd h2
  | cons x l =>
    have := h1 x (by rw [hd]; simp)
    unfold isDig at this
    unfold headDig digC
    simp; omega
theorem qW_other (c : UInt8) (cs : List UInt8) (h : c ≠ 112) : qW (c :: cs) = c :: cs := by rw [qW_cons, if_neg (fun h2 => h h2.1)]
theorem qW_names : ∀ o : Fin 58, qW (nameL ((o.val : Int) + 1)) = nameL ((o.val : Int) + 1) := by decide +kernel
theorem qW_name (op : Int) (h : 1 ≤ op ∧ op ≤ 58) : qW (nameL op) = nameL op := by
  have := qW_names ⟨(op - 1).toNat, by omega⟩
  have e : (((op - 1).toNat : Nat) : Int) + 1 = op := by omega
  simp only [e] at this
  exact this
theorem qW_dec (n : Nat) (hn : n ≤ 18446744073709551615) : qW (decL n) = decL n := by
  obtain ⟨h1, h2, _, _⟩ := decL_spec n hn
  cases hd : decL n with
  | nil => exact absurd hd h2
  | cons x l =>
    have := h1 x (by rw [hd]; simp)
    exact qW_other x l (dig_ne this (by decide))
theorem qW_shown (X : Ins) (kd : Int) (hk : 1 ≤ kd ∧ kd ≤ 9) (hs : ShowOk X kd) : qW (shownL X kd) = shownQ X kd := by
  have hv := hs.v
  have hd : qW (decL X.v.toNat) = decL X.v.toNat := qW_dec _ (by omega)
  have hr : ∀ n : Nat, qW (regL n) = regL n := fun n => qW_other _ _ (by decide)
  have hc : ∀ l : List UInt8, qW (91 :: l) = 91 :: l := fun l => qW_other _ _ (by decide)
  unfold shownQ
  by_cases h8 : kd = 8
  · subst h8
    rw [if_pos rfl]
    unfold shownL
    rw [shown8, ofL_data, qW_go _ (by omega)]
  · rw [if_neg h8]
    unfold shownL
    have hcs : kd = 1 ∨ kd = 2 ∨ kd = 3 ∨ kd = 4 ∨ kd = 5 ∨ kd = 6 ∨ kd = 7 ∨ kd = 9 := by omega
    rcases hcs with rfl | rfl | rfl | rfl | rfl | rfl | rfl | rfl
    · rw [shown1, ofL_data, hr]
    · rw [shown2, ofL_data, hr]
    · rw [shown3, ofL_data, hr]
    · by_cases h : X.c = -1
      · rw [shown4n _ h, ofL_data, hd]
      · rw [shown4r _ h, ofL_data, hr]
    · by_cases h : X.b = -1
      · rw [shown5n _ h, ofL_data, hd]
      · rw [shown5r _ h, ofL_data, hr]
    · by_cases h : X.b = -1
      · rw [shown6n _ h, ofL_data, hc]
      · by_cases hz : X.v = 0
        · rw [shown6z _ h hz, ofL_data, hc]
        · rw [shown6b _ h hz, ofL_data, hc]
    · rw [shown7, ofL_data, hd]
    · rw [shown9, ofL_data, hd]
theorem qW_words (X : Ins) (n : Nat) (hf : MayF X n) (hg : Good X n) : (wordsOf X).map qW = wordsOfQ X := by
  unfold wordsOf wordsOfQ
  rw [List.map_cons, List.map_append, qW_name _ hf.op]
  congr 2
  · unfold opsWs opsWsQ
    rw [List.map_map]
    apply List.map_congr_left
    intro j hj
    have hj := List.mem_range.1 hj
    exact qW_shown X _ (kindAt_bd hj rfl) (hg.opnd j hj)
  · split
    · rfl
    · rw [List.map_cons, List.map_nil]
      unfold markL
      rw [qW_other _ _ (by decide)]
theorem qGo_text (l : List Ins) (hl : l.length ≤ 2048) (hg : ∀ X ∈ l, MayF X l.length ∧ Good X l.length) : ∀ k, k ≤ l.length → ∀ ys, qGo 10 ((textLs l k).flatMap (fun x => x ++ [10]) ++ ys) = (textLsQ l k).flatMap (fun x => x ++ [10]) ++ qGo 10 ys := by
  intro k
  induction k with
  | zero => intro _ ys; rfl
  | succ k ih =>
    intro hk ys
    have hkl : k < l.length := by omega
    have hD : l.getD k zI = l[k] := by rw [List.getD_eq_getElem?_getD, List.getElem?_eq_getElem hkl]; rfl
    obtain ⟨hf, hgd⟩ := hg l[k] (List.getElem_mem hkl)
    rw [textLs_succ, textLsQ_succ, List.flatMap_append, List.flatMap_append, List.append_assoc, ih (by omega), List.append_assoc]
    congr 1
    have hline : ∀ ys, qGo 10 (joinW (wordsOf (l.getD k zI)) ++ 10 :: ys) = joinW (wordsOfQ (l.getD k zI)) ++ 10 :: qGo 10 ys := by
      intro ys
      rw [hD, ← qW_words l[k] l.length hf hgd]
      exact qGo_join _ 10 ys (by unfold wordsOf; simp) rfl (words_plain _ _ hf hgd)
    unfold lineLs lineLsQ
    cases hgv : goalV l k with
    | false =>
      simp only [Bool.false_eq_true, if_false, List.nil_append, List.flatMap_cons, List.flatMap_nil, List.append_nil, List.append_assoc, List.singleton_append]
      exact hline ys
    | true =>
      simp only [if_true, List.flatMap_append, List.flatMap_cons, List.flatMap_nil, List.append_nil, List.append_assoc, List.singleton_append]
      have hgo : PlainW (goL k ++ [58]) := by
        obtain ⟨a, b, c, d⟩ := goL_plain k (by omega)
        refine ⟨?_, ?_, ?_, by simp⟩ <;> simp [a, b, c]
      have hq : qW (goL k ++ [58]) = goQ k ++ [58] := by
        have := qW_go k (by omega)
        unfold goL goQ at *
        rw [qW_cons] at this
        rw [List.cons_append, qW_cons]
        obtain ⟨_, h2, _, _⟩ := decL_spec k (by omega)
        cases hd : decL k with
        | nil => exact absurd hd h2
        | cons x l =>
          rw [hd] at this
          have e : headDig (x :: l ++ [58]) = headDig (x :: l) := rfl
          rw [e]
          injection this with this
          rw [this]; rfl
      have := qGo_word (goL k ++ [58]) 10 10 (joinW (wordsOf (l.getD k zI)) ++ 10 :: ys) rfl rfl hgo
      rw [hq] at this
      have e1 : goL k ++ ([58, 10] ++ (joinW (wordsOf (l.getD k zI)) ++ 10 :: ys)) = goL k ++ [58] ++ 10 :: (joinW (wordsOf (l.getD k zI)) ++ 10 :: ys) := by simp
      rw [e1, this, hline]; simp
theorem uB_lines (l : List Ins) (hl : l.length ≤ 2048) (hg : ∀ X ∈ l, MayF X l.length ∧ Good X l.length) : uB (ofL (linesTo l l.length)) (linesTo l l.length).length = ofL (linesQ l) := by
  have h := uB_all (ofL (linesTo l l.length))
  rw [ofL_size, ofL_data] at h
  rw [h, linesTo_text]
  have := qGo_text l hl hg l.length (Nat.le_refl _) []
  rw [List.append_nil] at this
  rw [this]
  unfold linesQ
  simp [qGo]
theorem opsL_len (X : Ins) (K : Int × Int × Int) : ∀ n, (opsL X K n).length ≤ 46 * n
  | 0 => by unfold opsL; simp
  | n + 1 => by
    have ih := opsL_len X K n
    have h := shownV_size X (kindAt K n)
    unfold opsL
    simp
    omega
theorem insL_len (X : Ins) : (insL X).length ≤ 390 := by
  have h1 := nameOf_size X.op
  have h2 := markedV_size X
  have h3 := opsL_len X (opndsV X.op) (cntV (opndsV X.op))
  have h4 := cntV_le (opndsV X.op)
  unfold insL
  simp
  omega
theorem decL_len (n : Nat) : (decL n).length ≤ 20 := by
  have := decB_size n
  have e : (decB n).size = (decL n).length := by unfold decB; show (decL n).toArray.size = _; simp
  omega
theorem linesTo_len (l : List Ins) : ∀ k, (linesTo l k).length ≤ 413 * k
  | 0 => by simp [linesTo]
  | k + 1 => by
    have ih := linesTo_len l k
    have h1 := insL_len (l.getD k zI)
    have h2 := decL_len k
    have h3 : (labL k (goalV l k)).length ≤ 23 := by
      unfold labL; split
      · simp; omega
      · simp
    rw [linesTo_succ]
    simp only [List.length_append]
    omega
end Go.Proofs.YtnoejikcdigceaaDoor
