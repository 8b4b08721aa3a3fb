/- A part of the proof: a logic for programs of this kind, proved sound over the model; contracts of functions; plain laws. -/
import Derived.Test.YtkkmiicadfmfdaaMP
set_option linter.all false
open Go Go.Proofs
namespace GoL
set_option linter.unusedVariables false
set_option linter.unusedSimpArgs false
set_option maxRecDepth 8000
theorem dtV_ch (n d : List UInt8) : dtV (chV n d) = d := rfl
theorem nmV_ch (n d : List UInt8) : nmV (chV n d) = n := rfl
theorem bl_map (s : List UInt8) : (bl s).map byteV = s := by
  unfold bl
  rw [List.map_map]
  have : (byteV ∘ fun b : UInt8 => V.int .u8 (b.toNat : Int)) = id := by funext b; exact byteV_of b
  rw [this, List.map_id]
theorem map_bl : ∀ {vs : List V}, BLs vs → bl (vs.map byteV) = vs
  | [], _ => rfl
  | v :: r, h => by
    have h1 : isByte v := h v (by simp)
    have h2 := map_bl (vs := r) fun u hu => h u (by simp [hu])
    unfold bl at h2 ⊢
    rw [List.map_cons, List.map_cons, h2]
    congr 1
    exact h1.symm
theorem byteV_int {x : Int} (h0 : 0 ≤ x) (h1 : x < 256) : ((byteV (.int .u8 x)).toNat : Int) = x := by
  show ((UInt8.ofNat x.toNat).toNat : Int) = x
  rw [UInt8.toNat_ofNat']
  omega
theorem fdv {n : Int} {k : Int} (hk : 0 ≤ k) : n.fdiv k = n / k := Int.fdiv_eq_ediv_of_nonneg n hk
theorem num_four {n : Int} (h0 : 0 ≤ n) (h1 : n < 4294967296) (r : List V) : numS (fourV n ++ r) = n := by
  have e0 : bAt (fourV n ++ r) 0 = n / 16777216 % 256 := by
    show ((byteV (.int .u8 (IntKind.u8.wrap (n.fdiv 16777216)))).toNat : Int) = _
    rw [wrap8, fdv (by omega), byteV_int (by omega) (by omega)]
  have e1 : bAt (fourV n ++ r) 1 = n / 65536 % 256 := by
    show ((byteV (.int .u8 (IntKind.u8.wrap (n.fdiv 65536)))).toNat : Int) = _
    rw [wrap8, fdv (by omega), byteV_int (by omega) (by omega)]
  have e2 : bAt (fourV n ++ r) 2 = n / 256 % 256 := by
    show ((byteV (.int .u8 (IntKind.u8.wrap (n.fdiv 256)))).toNat : Int) = _
    rw [wrap8, fdv (by omega), byteV_int (by omega) (by omega)]
  have e3 : bAt (fourV n ++ r) 3 = n % 256 := by
    show ((byteV (.int .u8 (IntKind.u8.wrap n))).toNat : Int) = _
    rw [wrap8, byteV_int (by omega) (by omega)]
  unfold numS
  rw [e0, e1, e2, e3]
  omega
theorem four_num {vs : List V} (h : BLs vs) (hl : 4 ≤ vs.length) : fourV (numS vs) = vs.take 4 := by
  match vs, h, hl with
  | a :: b :: c :: d :: r, h, _ =>
    have ha : a = .int .u8 ((byteV a).toNat : Int) := h a (by simp)
    have hb : b = .int .u8 ((byteV b).toNat : Int) := h b (by simp)
    have hc : c = .int .u8 ((byteV c).toNat : Int) := h c (by simp)
    have hd : d = .int .u8 ((byteV d).toNat : Int) := h d (by simp)
    have la := (byteV a).toNat_lt
    have lb := (byteV b).toNat_lt
    have lc := (byteV c).toNat_lt
    have ld := (byteV d).toNat_lt
    have hn : numS (a :: b :: c :: d :: r) = ((byteV a).toNat : Int) * 16777216 + ((byteV b).toNat : Int) * 65536 + ((byteV c).toNat : Int) * 256 + ((byteV d).toNat : Int) := rfl
    rw [hn]
    show [_, _, _, _] = [a, b, c, d]
    generalize ((byteV a).toNat : Nat) = A at *
    generalize ((byteV b).toNat : Nat) = B at *
    generalize ((byteV c).toNat : Nat) = C at *
    generalize ((byteV d).toNat : Nat) = D at *
    rw [ha, hb, hc, hd, wrap8, wrap8, wrap8, wrap8, fdv (by omega), fdv (by omega), fdv (by omega)]
    have e1 : ((A : Int) * 16777216 + B * 65536 + C * 256 + D) / 16777216 % 256 = A := by omega
    have e2 : ((A : Int) * 16777216 + B * 65536 + C * 256 + D) / 65536 % 256 = B := by omega
    have e3 : ((A : Int) * 16777216 + B * 65536 + C * 256 + D) / 256 % 256 = C := by omega
    have e4 : ((A : Int) * 16777216 + B * 65536 + C * 256 + D) % 256 = D := by omega
    rw [e1, e2, e3, e4]
/-- what one chunk's bytes are read as -/
theorem chunk_read {acc : List V} {nm d : List UInt8} {r : List V} (hn : namedS nm = true) (hd : d.length ≤ 100000) (hs : hasS acc nm = false) :
    errS acc (chB (.agg [.str nm, .str d]) ++ r) = 0 ∧ chkS (chB (.agg [.str nm, .str d]) ++ r) = .agg [.str nm, .str d] ∧ nxtS (chB (.agg [.str nm, .str d]) ++ r) = r ∧ (chB (.agg [.str nm, .str d]) ++ r).length ≠ 0 := by
  have hl := named_len hn
  have hf := fill_rng (d.length : Int)
  let rep := List.replicate (fillI (d.length : Int)).toNat (V.int .u8 0)
  have e : chB (.agg [.str nm, .str d]) ++ r = bl nm ++ (fourV (d.length : Int) ++ (bl d ++ (rep ++ r))) := by
    show (bl nm ++ fourV (d.length : Int) ++ bl d ++ rep) ++ r = _
    simp only [List.append_assoc]
  have l1 : (bl nm).length = 4 := by rw [bl_len, hl]
  have l2 : (fourV (d.length : Int)).length = 4 := rfl
  have l3 : (bl d).length = d.length := bl_len d
  have l4 : rep.length = (fillI (d.length : Int)).toNat := List.length_replicate
  have t4 : (bl nm ++ (fourV (d.length : Int) ++ (bl d ++ (rep ++ r)))).take 4 = bl nm := by rw [← l1, List.take_left]
  have d4 : (bl nm ++ (fourV (d.length : Int) ++ (bl d ++ (rep ++ r)))).drop 4 = fourV (d.length : Int) ++ (bl d ++ (rep ++ r)) := by rw [← l1, List.drop_left]
  have d8 : (bl nm ++ (fourV (d.length : Int) ++ (bl d ++ (rep ++ r)))).drop 8 = bl d ++ (rep ++ r) := by
    rw [show 8 = 4 + 4 by rfl, ← List.drop_drop, d4, ← l2, List.drop_left]
  have hnum : numS (fourV (d.length : Int) ++ (bl d ++ (rep ++ r))) = (d.length : Int) := num_four (by omega) (by omega) _
  have en : (d.length : Int).toNat = d.length := by omega
  have hbad : badB (bl d ++ (rep ++ r)) (d.length : Int).toNat = false := by
    unfold badB
    rw [en, ← l3, List.drop_left, l3, ← l4, List.take_left]
    simp only [rep, l4, bne_self_eq_false]
  rw [e]
  refine ⟨?_, ?_, ?_, ?_⟩
  · unfold errS
    rw [t4, d4, d8, hnum, bl_map, if_neg (by simp only [List.length_append, l1, l2]; omega), if_neg (by simp only [List.length_append, l3, l4]; omega), if_neg (by rw [hn]; simp), if_neg (by rw [hbad]; simp), if_neg (by rw [hs]; simp)]
  · unfold chkS chV
    rw [t4, d4, d8, hnum, bl_map, en, ← l3, List.take_left, bl_map]
  · unfold nxtS
    rw [d4, d8, hnum]
    have e2 : ((d.length : Int) + fillI (d.length : Int)).toNat = (bl d ++ rep).length := by rw [List.length_append, l3, l4]; omega
    rw [e2, ← List.append_assoc, List.drop_left]
  · simp only [List.length_append, l1]; omega
theorem rows_read : ∀ (ls acc : List V), CLs ls → (∀ u ∈ ls, (dtV u).length ≤ 100000) → mkErrR acc ls = 0 → parseR acc (mkRows ls) = (acc ++ ls, 0)
  | [], acc, _, _, _ => by rw [parse_nil (by rfl)]; simp
  | u :: r, acc, hc, hd, he => by
    obtain ⟨nm, d, rfl⟩ := hc u (by simp)
    have hdu : d.length ≤ 100000 := hd (.agg [.str nm, .str d]) (by simp)
    unfold mkErrR at he
    have hnm : nmV (.agg [.str nm, .str d]) = nm := rfl
    rw [hnm] at he
    by_cases h1 : namedS nm = false
    · rw [if_pos h1] at he; cases he
    rw [if_neg h1] at he
    by_cases h2 : hasS acc nm = true
    · rw [if_pos h2] at he; cases he
    rw [if_neg h2] at he
    have hr : mkRows (.agg [.str nm, .str d] :: r) = chB (.agg [.str nm, .str d]) ++ mkRows r := by simp [mkRows]
    obtain ⟨a1, a2, a3, a4⟩ := chunk_read (acc := acc) (nm := nm) (d := d) (r := mkRows r) (by simpa using h1) hdu (by simpa using h2)
    rw [hr, parse_step a4 a1, a2, a3, rows_read r _ (fun v hv => hc v (by simp [hv])) (fun v hv => hd v (by simp [hv])) he]
    simp
theorem mkHd_len (n : Int) : (mkHd n).length = 12 := rfl
theorem mkE_zero {ls : List V} (h : mkE ls = 0) : mkErrR [] ls = 0 ∧ 12 + sumC ls ≤ 65536 := by
  unfold mkE at h
  by_cases h0 : mkErrR [] ls = 0
  · rw [if_pos h0] at h
    refine ⟨h0, ?_⟩
    by_cases h1 : 12 + sumC ls > 65536
    · rw [if_pos h1] at h; cases h
    · omega
  · rw [if_neg h0] at h; exact absurd h h0
theorem mkS_len {ls : List V} (h : mkErrR [] ls = 0) : ((mkS ls).length : Int) = 12 + sumC ls := by
  have := mkRows_len ls fun u hu => named_len (mkErr_named _ _ h u hu)
  unfold mkS
  rw [List.length_append, mkHd_len]
  omega
theorem mkS_bl (ls : List V) : BLs (mkS ls) := BLs_app (hd_bl _) (mkRows_bl _)
theorem parse_make {ls : List V} (hf : FitC ls) (h : mkE ls = 0) : parseS (mkS ls) = (ls, 0) := by
  obtain ⟨h0, h1⟩ := mkE_zero h
  have hl := mkS_len h0
  have hr := sumC_rng ls hf.2.2
  unfold parseS
  rw [if_neg (by omega), if_neg (by omega)]
  have hd4 : (mkS ls).drop 4 = fourV (4 + sumC ls) ++ ([.int .u8 66, .int .u8 69, .int .u8 65, .int .u8 77] ++ mkRows ls) := rfl
  have hok : hdOk (mkS ls) = true := by
    unfold hdOk
    have e1 : ((mkS ls).take 4).map byteV = [70, 79, 82, 49] := by
      show ([.int .u8 70, .int .u8 79, .int .u8 82, .int .u8 49] : List V).map byteV = _
      decide
    have e2 : (((mkS ls).drop 8).take 4).map byteV = [66, 69, 65, 77] := by
      show ([.int .u8 66, .int .u8 69, .int .u8 65, .int .u8 77] : List V).map byteV = _
      decide
    rw [e1, e2, hd4, num_four (by omega) (by omega), hl]
    simp
    omega
  rw [if_neg (by rw [hok]; simp)]
  have h12 : (mkS ls).drop 12 = mkRows ls := rfl
  rw [h12, rows_read ls [] hf.1 hf.2.2 h0]
  rfl
theorem rep_of {vs : List V} {n : Nat} (hb : BLs vs) (hl : vs.length = n) (h : vs.map byteV = (List.replicate n (V.int .u8 0)).map byteV) : vs = List.replicate n (V.int .u8 0) := by
  have h1 := map_bl hb
  have h2 := map_bl (BLs_rep n)
  rw [← h1, h, h2]
/-- what is read is made again -/
theorem read_rows : ∀ (k : Nat) (acc vs ls : List V), BLs vs → vs.length ≤ k → parseF k acc vs = (ls, 0) → ∃ r, ls = acc ++ r ∧ mkErrR acc r = 0 ∧ mkRows r = vs ∧ CLs r := by
  intro k
  induction k with
  | zero =>
    intro acc vs ls hb hk h
    have : vs = [] := List.length_eq_zero_iff.1 (by omega)
    subst this
    cases h
    exact ⟨[], by simp, rfl, rfl, fun u hu => by cases hu⟩
  | succ k ih =>
    intro acc vs ls hb hk h
    simp only [parseF] at h
    by_cases h0 : vs.length = 0
    · rw [if_pos h0] at h
      have : vs = [] := List.length_eq_zero_iff.1 h0
      subst this
      cases h
      exact ⟨[], by simp, rfl, rfl, fun u hu => by cases hu⟩
    rw [if_neg h0] at h
    by_cases he : errS acc vs = 0
    · rw [if_pos he] at h
      unfold errS at he
      by_cases h8 : vs.length < 8
      · rw [if_pos h8] at he; cases he
      rw [if_neg h8] at he
      by_cases hn : numS (vs.drop 4) + fillI (numS (vs.drop 4)) > ((vs.drop 8).length : Int)
      · rw [if_pos hn] at he; cases he
      rw [if_neg hn] at he
      by_cases hnm : namedS ((vs.take 4).map byteV) = false
      · rw [if_pos hnm] at he; cases he
      rw [if_neg hnm] at he
      by_cases hbd : badB (vs.drop 8) (numS (vs.drop 4)).toNat = true
      · rw [if_pos hbd] at he; cases he
      rw [if_neg hbd] at he
      by_cases hh : hasS acc ((vs.take 4).map byteV) = true
      · rw [if_pos hh] at he; cases he
      have hnr := num_rng (vs := vs.drop 4)
      have hl : (nxtS vs).length ≤ vs.length - 8 := by unfold nxtS; simp only [List.length_drop]; omega
      have hbn : BLs (nxtS vs) := BLs_drop (BLs_drop hb 8) _
      obtain ⟨r, e1, e2, e3, e4⟩ := ih _ _ ls hbn (by omega) h
      refine ⟨chkS vs :: r, by rw [e1]; simp, ?_, ?_, fun u hu => ?_⟩
      · unfold mkErrR
        have hc1 : nmV (chkS vs) = (vs.take 4).map byteV := by unfold chkS; exact nmV_ch _ _
        rw [hc1, if_neg hnm, if_neg hh]
        exact e2
      · have hr : mkRows (chkS vs :: r) = chB (chkS vs) ++ mkRows r := by simp [mkRows]
        rw [hr, e3]
        unfold chB
        have hc1 : nmV (chkS vs) = (vs.take 4).map byteV := by unfold chkS; exact nmV_ch _ _
        have hc2 : dtV (chkS vs) = ((vs.drop 8).take (numS (vs.drop 4)).toNat).map byteV := by unfold chkS; exact dtV_ch _ _
        generalize hN : numS (vs.drop 4) = n at *
        have hf := fill_rng n
        have hln : (((vs.drop 8).take n.toNat).map byteV).length = n.toNat := by rw [List.length_map, List.length_take]; omega
        have hlI : ((((vs.drop 8).take n.toNat).map byteV).length : Int) = n := by rw [hln]; omega
        rw [hc1, hc2, hlI, map_bl (BLs_take hb 4), map_bl (BLs_take (BLs_drop hb 8) _), ← hN, four_num (BLs_drop hb 4) (by rw [List.length_drop]; omega), hN]
        have hrep : List.replicate (fillI n).toNat (V.int .u8 0) = ((vs.drop 8).drop n.toNat).take (fillI n).toNat := by
          refine (rep_of (BLs_take (BLs_drop (BLs_drop hb 8) _) _) ?_ ?_).symm
          · rw [List.length_take, List.length_drop]; omega
          · unfold badB at hbd
            have en : ((n.toNat : Nat) : Int) = n := by omega
            rw [en] at hbd
            simpa using hbd
        rw [hrep]
        unfold nxtS
        rw [hN]
        have e5 : (n + fillI n).toNat = n.toNat + (fillI n).toNat := by omega
        rw [e5, ← List.drop_drop (j := n.toNat)]
        have e6 : ((vs.drop 8).drop n.toNat).take (fillI n).toNat ++ ((vs.drop 8).drop n.toNat).drop (fillI n).toNat = (vs.drop 8).drop n.toNat := List.take_append_drop _ _
        rw [List.append_assoc, e6, List.append_assoc, List.take_append_drop]
        have e7 : vs.drop 8 = (vs.drop 4).drop 4 := by rw [List.drop_drop]
        rw [e7, List.append_assoc, List.take_append_drop, List.take_append_drop]
      · rcases List.mem_cons.1 hu with rfl | hu
        · exact ⟨_, _, rfl⟩
        · exact e4 u hu
    · rw [if_neg he] at h
      exact absurd (congrArg Prod.snd h) he
theorem make_parse {vs ls : List V} (hb : BLs vs) (h : parseS vs = (ls, 0)) : mkErrR [] ls = 0 ∧ mkS ls = vs ∧ CLs ls := by
  unfold parseS at h
  by_cases h1 : (vs.length : Int) > 65536
  · rw [if_pos h1] at h; cases h
  rw [if_neg h1] at h
  by_cases h2 : (vs.length : Int) < 12
  · rw [if_pos h2] at h; cases h
  rw [if_neg h2] at h
  by_cases h3 : hdOk vs = false
  · rw [if_pos h3] at h; cases h
  rw [if_neg h3] at h
  obtain ⟨r, e1, e2, e3, e4⟩ := read_rows _ _ _ _ (BLs_drop hb 12) (Nat.le_refl _) h
  simp only [List.nil_append] at e1
  subst e1
  refine ⟨e2, ?_, e4⟩
  unfold hdOk at h3
  by_cases g1 : ((vs.take 4).map byteV != [70, 79, 82, 49]) = true
  · rw [if_pos g1] at h3; exact absurd rfl h3
  rw [if_neg g1] at h3
  by_cases g2 : (((vs.drop 8).take 4).map byteV != [66, 69, 65, 77]) = true
  · rw [if_pos g2] at h3; exact absurd rfl h3
  rw [if_neg g2] at h3
  have g1 : (vs.take 4).map byteV = [70, 79, 82, 49] := by simpa using g1
  have g2 : ((vs.drop 8).take 4).map byteV = [66, 69, 65, 77] := by simpa using g2
  have g3 : numS (vs.drop 4) = (vs.length : Int) - 8 := by simpa using h3
  have hlen := mkRows_len ls fun u hu => named_len (mkErr_named _ _ e2 u hu)
  rw [e3, List.length_drop] at hlen
  have hn : 4 + sumC ls = numS (vs.drop 4) := by omega
  have a1 : bl [70, 79, 82, 49] = vs.take 4 := by rw [← g1, map_bl (BLs_take hb 4)]
  have a2 : bl [66, 69, 65, 77] = (vs.drop 8).take 4 := by rw [← g2, map_bl (BLs_take (BLs_drop hb 8) 4)]
  have a3 : fourV (4 + sumC ls) = (vs.drop 4).take 4 := by rw [hn]; exact four_num (BLs_drop hb 4) (by rw [List.length_drop]; omega)
  have e0 : mkS ls = bl [70, 79, 82, 49] ++ (fourV (4 + sumC ls) ++ (bl [66, 69, 65, 77] ++ mkRows ls)) := rfl
  rw [e0, a1, a2, a3, e3]
  have e7 : vs.drop 12 = (vs.drop 8).drop 4 := by rw [List.drop_drop]
  have e8 : vs.drop 8 = (vs.drop 4).drop 4 := by rw [List.drop_drop]
  rw [e7, List.take_append_drop, e8, List.take_append_drop, List.take_append_drop]
end GoL
