/- Plain laws: data counted off, copied, compared: printed by wip/mkdata.py. No condition. -/
import Derived.Test.YtkkgagllehdhhaaGreatDoorZlGen5
import Derived.Test.YtkkgagllehdhhaaGreatDoorAmData
set_option linter.unusedVariables false
set_option linter.unusedSimpArgs false
namespace Go.Am.Tryz
open Go.Am
theorem szIntS_ok {a : (.sl 3 (.int .i64) : Ty).D} (h : Lim 9223372036854775807 (.sl 3 (.int .i64)) a) : SzOk (laws_szIntS F0) (Lim 1048576 (.sl 3 (.int .i64))) a := by
  intro left h0 h1
  rw [laws_szIntS_eq]
  exact sz_len h.1 h0 h1 fun k0 k1 k2 => ⟨_, rfl, Int.le_refl _, fun _ => ⟨k2, fun x _ => lim_flat 1048576 rfl⟩⟩
theorem toIntS_ok {a : (.sl 3 (.int .i64) : Ty).D} (h : Lim 1048576 (.sl 3 (.int .i64)) a) : laws_toIntS F0 a = some (a, ()) := by
  have hl := h.1
  rw [laws_toIntS_eq, okM_le (by omega) (by omega) (by omega), ck_true]
  refine copy_by (fun n i xs => laws_toIntS_1 F0 (laws_toIntS_1_k F0) n (laws_toIntS_1_s a i xs)) a _ _ (fun n k xs hk hx => ?_) (fun n => ?_) _ (by rw [n_eq]; omega)
  · rw [laws_toIntS_1_step, dec_lt hk, br_true, okI_nat hk, ck_true]
    simp only [okI_nat (show k < xs.length by omega), ck_true, at_isD hk, Int.toNat_natCast, w64_succ (show k + 1 ≤ 9223372036854775807 by omega)]
  · rw [laws_toIntS_1_step, dec_nlt, br_false, laws_toIntS_1_ce0]
theorem eqIntS_ok {a : (.sl 3 (.int .i64) : Ty).D} (h : Lim 1048576 (.sl 3 (.int .i64)) a) : laws_eqIntS F0 a a = some (true, ()) := by
  have hl := h.1
  rw [laws_eqIntS_eq, bne_self_eq_false, br_false]
  refine same_to (fun n i => laws_eqIntS_1 F0 (laws_eqIntS_1_k F0) n (laws_eqIntS_1_s a a i)) a.length _ (fun n k hk => ?_) (fun n => ?_) _ (by rw [n_eq]; omega)
  · simp only [laws_eqIntS_1_step, dec_lt hk, br_true, okI_nat hk, ck_true, at_isD hk, w64_succ (show k + 1 ≤ 9223372036854775807 by omega), bne_self_eq_false, br_false]
  · rw [laws_eqIntS_1_step, dec_nlt, br_false]
    first | exact laws_eqIntS_1_ce0 F0 | rfl
theorem szByteS_ok {a : (.sl 5 (.int .u8) : Ty).D} (h : Lim 9223372036854775807 (.sl 5 (.int .u8)) a) : SzOk (laws_szByteS F0) (Lim 1048576 (.sl 5 (.int .u8))) a := by
  intro left h0 h1
  rw [laws_szByteS_eq]
  exact sz_len h.1 h0 h1 fun k0 k1 k2 => ⟨_, rfl, Int.le_refl _, fun _ => ⟨k2, fun x _ => lim_flat 1048576 rfl⟩⟩
theorem toByteS_ok {a : (.sl 5 (.int .u8) : Ty).D} (h : Lim 1048576 (.sl 5 (.int .u8)) a) : laws_toByteS F0 a = some (a, ()) := by
  have hl := h.1
  rw [laws_toByteS_eq, okM_le (by omega) (by omega) (by omega), ck_true]
  refine copy_by (fun n i xs => laws_toByteS_1 F0 (laws_toByteS_1_k F0) n (laws_toByteS_1_s a i xs)) a _ _ (fun n k xs hk hx => ?_) (fun n => ?_) _ (by rw [n_eq]; omega)
  · rw [laws_toByteS_1_step, dec_lt hk, br_true, okI_nat hk, ck_true]
    simp only [okI_nat (show k < xs.length by omega), ck_true, at_isD hk, Int.toNat_natCast, w64_succ (show k + 1 ≤ 9223372036854775807 by omega)]
  · rw [laws_toByteS_1_step, dec_nlt, br_false, laws_toByteS_1_ce0]
theorem eqByteS_ok {a : (.sl 5 (.int .u8) : Ty).D} (h : Lim 1048576 (.sl 5 (.int .u8)) a) : laws_eqByteS F0 a a = some (true, ()) := by
  have hl := h.1
  rw [laws_eqByteS_eq, bne_self_eq_false, br_false]
  refine same_to (fun n i => laws_eqByteS_1 F0 (laws_eqByteS_1_k F0) n (laws_eqByteS_1_s a a i)) a.length _ (fun n k hk => ?_) (fun n => ?_) _ (by rw [n_eq]; omega)
  · simp only [laws_eqByteS_1_step, dec_lt hk, br_true, okI_nat hk, ck_true, at_isD hk, w64_succ (show k + 1 ≤ 9223372036854775807 by omega), bne_self_eq_false, br_false]
  · rw [laws_eqByteS_1_step, dec_nlt, br_false]
    first | exact laws_eqByteS_1_ce0 F0 | rfl
theorem toTx_ok (a : K3.D) : laws_toTx F0 a = some (a, ()) := laws_toTx_eq F0 a
theorem eqTx_ok (a : K3.D) : laws_eqTx F0 a a = some (true, ()) := by
  rw [laws_eqTx_eq]
  simp only [bne_self_eq_false, br_false]
theorem szTxS_ok {a : K12.D} (h : Lim 9223372036854775807 (K12) a) : SzOk (laws_szTxS F0) (Lim 1048576 (K12)) a := by
  intro left h0 h1
  rw [laws_szTxS_eq]
  exact sz_len h.1 h0 h1 fun k0 k1 k2 => ⟨_, rfl, Int.le_refl _, fun _ => ⟨k2, fun x _ => lim_flat 1048576 rfl⟩⟩
theorem toTxS_ok {a : K12.D} (h : Lim 1048576 (K12) a) : laws_toTxS F0 a = some (a, ()) := by
  have hl := h.1
  rw [laws_toTxS_eq, okM_le (by omega) (by omega) (by omega), ck_true]
  refine copy_by (fun n i xs => laws_toTxS_1 F0 (laws_toTxS_1_k F0) n (laws_toTxS_1_s a i xs)) a _ _ (fun n k xs hk hx => ?_) (fun n => ?_) _ (by rw [n_eq]; omega)
  · rw [laws_toTxS_1_step, dec_lt hk, br_true, okI_nat hk, ck_true]
    simp only [okI_nat (show k < xs.length by omega), ck_true, at_isD hk, Int.toNat_natCast, w64_succ (show k + 1 ≤ 9223372036854775807 by omega), toTx_ok, bnd]
  · rw [laws_toTxS_1_step, dec_nlt, br_false, laws_toTxS_1_ce0]
theorem eqTxS_ok {a : K12.D} (h : Lim 1048576 (K12) a) : laws_eqTxS F0 a a = some (true, ()) := by
  have hl := h.1
  rw [laws_eqTxS_eq, bne_self_eq_false, br_false]
  refine same_to (fun n i => laws_eqTxS_1 F0 (laws_eqTxS_1_k F0) n (laws_eqTxS_1_s a a i)) a.length _ (fun n k hk => ?_) (fun n => ?_) _ (by rw [n_eq]; omega)
  · simp only [laws_eqTxS_1_step, dec_lt hk, br_true, okI_nat hk, ck_true, at_isD hk, w64_succ (show k + 1 ≤ 9223372036854775807 by omega), eqTx_ok, bnd, Bool.not_true, br_false]
  · rw [laws_eqTxS_1_step, dec_nlt, br_false]
    first | exact laws_eqTxS_1_ce0 F0 | rfl
theorem toConf_ok (a : K1.D) : laws_toConf F0 a = some (a, ()) := laws_toConf_eq F0 a
theorem eqConf_ok (a : K1.D) : laws_eqConf F0 a a = some (true, ()) := by
  rw [laws_eqConf_eq]
  simp only [bne_self_eq_false, br_false]
theorem szQc_ok {a : K8.D} (h : Lim 9223372036854775807 (K8) a) : SzOk (laws_szQc F0) (Lim 1048576 (K8)) a := by
  intro left h0 h1
  rw [laws_szQc_eq]
  refine sz_len h.2.1 h0 (by omega) fun p1 q1 c1 => ?_
  refine sz_bind (szIntS_ok h.2.2) p1 (by omega) fun r2 p2 q2 c2 => ?_
  exact ⟨_, rfl, Int.le_refl _, fun _ => ⟨lim_flat 1048576 rfl, c1, c2⟩⟩
theorem toQc_ok {a : K8.D} (h : Lim 1048576 (K8) a) : laws_toQc F0 a = some (a, ()) := by
  rw [laws_toQc_eq]
  rw [toIntS_ok h.2.2, bnd]
theorem eqQc_ok {a : K8.D} (h : Lim 1048576 (K8) a) : laws_eqQc F0 a a = some (true, ()) := by
  rw [laws_eqQc_eq]
  simp only [bne_self_eq_false, br_false, same_text, bnd, Bool.not_true, eqIntS_ok h.2.2]
theorem szPart_ok {a : K8.D} (h : Lim 9223372036854775807 (K8) a) : SzOk (laws_szPart F0) (Lim 1048576 (K8)) a := by
  intro left h0 h1
  rw [laws_szPart_eq]
  refine sz_len h.2.1 h0 (by omega) fun p1 q1 c1 => ?_
  refine sz_bind (szIntS_ok h.2.2) p1 (by omega) fun r2 p2 q2 c2 => ?_
  exact ⟨_, rfl, Int.le_refl _, fun _ => ⟨lim_flat 1048576 rfl, c1, c2⟩⟩
theorem toPart_ok {a : K8.D} (h : Lim 1048576 (K8) a) : laws_toPart F0 a = some (a, ()) := by
  rw [laws_toPart_eq]
  rw [toIntS_ok h.2.2, bnd]
theorem eqPart_ok {a : K8.D} (h : Lim 1048576 (K8) a) : laws_eqPart F0 a a = some (true, ()) := by
  rw [laws_eqPart_eq]
  simp only [bne_self_eq_false, br_false, same_text, bnd, Bool.not_true, eqIntS_ok h.2.2]
theorem szPartS_ok {a : K13.D} (h : Lim 9223372036854775807 (K13) a) : SzOk (laws_szPartS F0) (Lim 1048576 (K13)) a := by
  intro left h0 h1
  rw [laws_szPartS_eq]
  have hl := h.1
  exact sz_rows (X := fun n i left => laws_szPartS_1 F0 (laws_szPartS_1_k F0) n (laws_szPartS_1_s a left i)) (f := laws_szPart F0) h.1 (fun x hx => szPart_ok (h.2 x hx)) (fun n k left hk => by
    rw [laws_szPartS_1_step, dec_lt hk, br_true, okI_nat hk, ck_true, at_isD hk, laws_szPartS_1_cr, w64_succ (by omega)]) (fun n left => by
    rw [laws_szPartS_1_step, dec_nlt, br_false, laws_szPartS_1_ce0]) h0 h1
theorem toPartS_ok {a : K13.D} (h : Lim 1048576 (K13) a) : laws_toPartS F0 a = some (a, ()) := by
  have hl := h.1
  rw [laws_toPartS_eq, okM_le (by omega) (by omega) (by omega), ck_true]
  refine copy_by (fun n i xs => laws_toPartS_1 F0 (laws_toPartS_1_k F0) n (laws_toPartS_1_s a i xs)) a _ _ (fun n k xs hk hx => ?_) (fun n => ?_) _ (by rw [n_eq]; omega)
  · rw [laws_toPartS_1_step, dec_lt hk, br_true, okI_nat hk, ck_true]
    simp only [okI_nat (show k < xs.length by omega), ck_true, at_isD hk, Int.toNat_natCast, w64_succ (show k + 1 ≤ 9223372036854775807 by omega), toPart_ok (h.2 _ (List.getElem_mem hk)), bnd]
  · rw [laws_toPartS_1_step, dec_nlt, br_false, laws_toPartS_1_ce0]
theorem eqPartS_ok {a : K13.D} (h : Lim 1048576 (K13) a) : laws_eqPartS F0 a a = some (true, ()) := by
  have hl := h.1
  rw [laws_eqPartS_eq, bne_self_eq_false, br_false]
  refine same_to (fun n i => laws_eqPartS_1 F0 (laws_eqPartS_1_k F0) n (laws_eqPartS_1_s a a i)) a.length _ (fun n k hk => ?_) (fun n => ?_) _ (by rw [n_eq]; omega)
  · simp only [laws_eqPartS_1_step, dec_lt hk, br_true, okI_nat hk, ck_true, at_isD hk, w64_succ (show k + 1 ≤ 9223372036854775807 by omega), eqPart_ok (h.2 _ (List.getElem_mem hk)), bnd, Bool.not_true, br_false]
  · rw [laws_eqPartS_1_step, dec_nlt, br_false]
    first | exact laws_eqPartS_1_ce0 F0 | rfl
theorem szSafe_ok {a : K11.D} (h : Lim 9223372036854775807 (K11) a) : SzOk (laws_szSafe F0) (Lim 1048576 (K11)) a := by
  intro left h0 h1
  rw [laws_szSafe_eq]
  refine sz_bind (szQc_ok h.2.2.1) h0 (by omega) fun r1 p1 q1 c1 => ?_
  refine sz_len h.2.2.2 p1 (by omega) fun p2 q2 c2 => ?_
  exact ⟨_, rfl, Int.le_refl _, fun _ => ⟨lim_flat 1048576 rfl, lim_flat 1048576 rfl, c1, c2⟩⟩
theorem toSafe_ok {a : K11.D} (h : Lim 1048576 (K11) a) : laws_toSafe F0 a = some (a, ()) := by
  rw [laws_toSafe_eq]
  rw [toQc_ok h.2.2.1, bnd]
theorem eqSafe_ok {a : K11.D} (h : Lim 1048576 (K11) a) : laws_eqSafe F0 a a = some (true, ()) := by
  rw [laws_eqSafe_eq]
  simp only [bne_self_eq_false, br_false, same_text, bnd, Bool.not_true, eqQc_ok h.2.2.1]
theorem szDisk_ok {a : K14.D} (h : Lim 9223372036854775807 (K14) a) : SzOk (laws_szDisk F0) (Lim 1048576 (K14)) a := by
  intro left h0 h1
  rw [laws_szDisk_eq]
  refine sz_bind (szByteS_ok h.1) h0 (by omega) fun r1 p1 q1 c1 => ?_
  exact ⟨_, rfl, Int.le_refl _, fun _ => ⟨c1, lim_flat 1048576 rfl⟩⟩
theorem toDisk_ok {a : K14.D} (h : Lim 1048576 (K14) a) : laws_toDisk F0 a = some (a, ()) := by
  rw [laws_toDisk_eq]
  rw [toByteS_ok h.1, bnd]
theorem eqDisk_ok {a : K14.D} (h : Lim 1048576 (K14) a) : laws_eqDisk F0 a a = some (true, ()) := by
  rw [laws_eqDisk_eq]
  simp only [bne_self_eq_false, br_false, same_text, bnd, Bool.not_true, eqByteS_ok h.1]
theorem szBlock_ok {a : K15.D} (h : Lim 9223372036854775807 (K15) a) : SzOk (laws_szBlock F0) (Lim 1048576 (K15)) a := by
  intro left h0 h1
  rw [laws_szBlock_eq]
  refine sz_len h.1 h0 (by omega) fun p1 q1 c1 => ?_
  refine sz_bind (szQc_ok h.2) p1 (by omega) fun r2 p2 q2 c2 => ?_
  exact ⟨_, rfl, Int.le_refl _, fun _ => ⟨c1, c2⟩⟩
theorem toBlock_ok {a : K15.D} (h : Lim 1048576 (K15) a) : laws_toBlock F0 a = some (a, ()) := by
  rw [laws_toBlock_eq]
  rw [toQc_ok h.2, bnd]
theorem eqBlock_ok {a : K15.D} (h : Lim 1048576 (K15) a) : laws_eqBlock F0 a a = some (true, ()) := by
  rw [laws_eqBlock_eq]
  simp only [bne_self_eq_false, br_false, same_text, bnd, Bool.not_true, eqQc_ok h.2]
theorem szMsg_ok {a : K21.D} (h : Lim 9223372036854775807 (K21) a) : SzOk (laws_szMsg F0) (Lim 1048576 (K21)) a := by
  intro left h0 h1
  rw [laws_szMsg_eq]
  refine sz_bind (szBlock_ok h.2.2.1) h0 (by omega) fun r1 p1 q1 c1 => ?_
  refine sz_bind (szPart_ok h.2.2.2.1) p1 (by omega) fun r2 p2 q2 c2 => ?_
  refine sz_bind (szQc_ok h.2.2.2.2.1) p2 (by omega) fun r3 p3 q3 c3 => ?_
  exact ⟨_, rfl, Int.le_refl _, fun _ => ⟨lim_flat 1048576 rfl, lim_flat 1048576 rfl, c1, c2, c3, lim_flat 1048576 rfl, lim_flat 1048576 rfl⟩⟩
theorem toMsg_ok {a : K21.D} (h : Lim 1048576 (K21) a) : laws_toMsg F0 a = some (a, ()) := by
  rw [laws_toMsg_eq]
  rw [toBlock_ok h.2.2.1, bnd]
  rw [toPart_ok h.2.2.2.1, bnd]
  rw [toQc_ok h.2.2.2.2.1, bnd]
  rw [toTx_ok, bnd]
theorem eqMsg_ok {a : K21.D} (h : Lim 1048576 (K21) a) : laws_eqMsg F0 a a = some (true, ()) := by
  rw [laws_eqMsg_eq]
  simp only [bne_self_eq_false, br_false, same_text, bnd, Bool.not_true, eqBlock_ok h.2.2.1, eqPart_ok h.2.2.2.1, eqQc_ok h.2.2.2.2.1, eqTx_ok]
theorem szPost_ok {a : K22.D} (h : Lim 9223372036854775807 (K22) a) : SzOk (laws_szPost F0) (Lim 1048576 (K22)) a := by
  intro left h0 h1
  rw [laws_szPost_eq]
  refine sz_bind (szMsg_ok h.2) h0 (by omega) fun r1 p1 q1 c1 => ?_
  exact ⟨_, rfl, Int.le_refl _, fun _ => ⟨lim_flat 1048576 rfl, c1⟩⟩
theorem toPost_ok {a : K22.D} (h : Lim 1048576 (K22) a) : laws_toPost F0 a = some (a, ()) := by
  rw [laws_toPost_eq]
  rw [toMsg_ok h.2, bnd]
theorem eqPost_ok {a : K22.D} (h : Lim 1048576 (K22) a) : laws_eqPost F0 a a = some (true, ()) := by
  rw [laws_eqPost_eq]
  simp only [bne_self_eq_false, br_false, same_text, bnd, Bool.not_true, eqMsg_ok h.2]
theorem szPostS_ok {a : K23.D} (h : Lim 9223372036854775807 (K23) a) : SzOk (laws_szPostS F0) (Lim 1048576 (K23)) a := by
  intro left h0 h1
  rw [laws_szPostS_eq]
  have hl := h.1
  exact sz_rows (X := fun n i left => laws_szPostS_1 F0 (laws_szPostS_1_k F0) n (laws_szPostS_1_s a left i)) (f := laws_szPost F0) h.1 (fun x hx => szPost_ok (h.2 x hx)) (fun n k left hk => by
    rw [laws_szPostS_1_step, dec_lt hk, br_true, okI_nat hk, ck_true, at_isD hk, laws_szPostS_1_cr, w64_succ (by omega)]) (fun n left => by
    rw [laws_szPostS_1_step, dec_nlt, br_false, laws_szPostS_1_ce0]) h0 h1
theorem toPostS_ok {a : K23.D} (h : Lim 1048576 (K23) a) : laws_toPostS F0 a = some (a, ()) := by
  have hl := h.1
  rw [laws_toPostS_eq, okM_le (by omega) (by omega) (by omega), ck_true]
  refine copy_by (fun n i xs => laws_toPostS_1 F0 (laws_toPostS_1_k F0) n (laws_toPostS_1_s a i xs)) a _ _ (fun n k xs hk hx => ?_) (fun n => ?_) _ (by rw [n_eq]; omega)
  · rw [laws_toPostS_1_step, dec_lt hk, br_true, okI_nat hk, ck_true]
    simp only [okI_nat (show k < xs.length by omega), ck_true, at_isD hk, Int.toNat_natCast, w64_succ (show k + 1 ≤ 9223372036854775807 by omega), toPost_ok (h.2 _ (List.getElem_mem hk)), bnd]
  · rw [laws_toPostS_1_step, dec_nlt, br_false, laws_toPostS_1_ce0]
theorem eqPostS_ok {a : K23.D} (h : Lim 1048576 (K23) a) : laws_eqPostS F0 a a = some (true, ()) := by
  have hl := h.1
  rw [laws_eqPostS_eq, bne_self_eq_false, br_false]
  refine same_to (fun n i => laws_eqPostS_1 F0 (laws_eqPostS_1_k F0) n (laws_eqPostS_1_s a a i)) a.length _ (fun n k hk => ?_) (fun n => ?_) _ (by rw [n_eq]; omega)
  · simp only [laws_eqPostS_1_step, dec_lt hk, br_true, okI_nat hk, ck_true, at_isD hk, w64_succ (show k + 1 ≤ 9223372036854775807 by omega), eqPost_ok (h.2 _ (List.getElem_mem hk)), bnd, Bool.not_true, br_false]
  · rw [laws_eqPostS_1_step, dec_nlt, br_false]
    first | exact laws_eqPostS_1_ce0 F0 | rfl
theorem szRep_ok {a : K30.D} (h : Lim 9223372036854775807 (K30) a) : SzOk (laws_szRep F0) (Lim 1048576 (K30)) a := by
  intro left h0 h1
  rw [laws_szRep_eq]
  refine sz_bind (szSafe_ok h.2.2.2.1) h0 (by omega) fun r1 p1 q1 c1 => ?_
  refine sz_bind (szTxS_ok h.2.2.2.2.1) p1 (by omega) fun r2 p2 q2 c2 => ?_
  refine sz_bind (szPartS_ok h.2.2.2.2.2.1) p2 (by omega) fun r3 p3 q3 c3 => ?_
  refine sz_bind (szDisk_ok h.2.2.2.2.2.2.1) p3 (by omega) fun r4 p4 q4 c4 => ?_
  refine sz_bind (szPostS_ok h.2.2.2.2.2.2.2) p4 (by omega) fun r5 p5 q5 c5 => ?_
  exact ⟨_, rfl, Int.le_refl _, fun _ => ⟨lim_flat 1048576 rfl, lim_flat 1048576 rfl, lim_flat 1048576 rfl, c1, c2, c3, c4, c5⟩⟩
theorem toRep_ok {a : K30.D} (h : Lim 1048576 (K30) a) : laws_toRep F0 a = some (a, ()) := by
  rw [laws_toRep_eq]
  rw [toSafe_ok h.2.2.2.1, bnd]
  rw [toTxS_ok h.2.2.2.2.1, bnd]
  rw [toPartS_ok h.2.2.2.2.2.1, bnd]
  rw [toDisk_ok h.2.2.2.2.2.2.1, bnd]
  rw [toPostS_ok h.2.2.2.2.2.2.2, bnd]
theorem eqRep_ok {a : K30.D} (h : Lim 1048576 (K30) a) : laws_eqRep F0 a a = some (true, ()) := by
  rw [laws_eqRep_eq]
  simp only [bne_self_eq_false, br_false, same_text, bnd, Bool.not_true, eqSafe_ok h.2.2.2.1, eqTxS_ok h.2.2.2.2.1, eqPartS_ok h.2.2.2.2.2.1, eqDisk_ok h.2.2.2.2.2.2.1, eqPostS_ok h.2.2.2.2.2.2.2]
theorem szRepS_ok {a : K40.D} (h : Lim 9223372036854775807 (K40) a) : SzOk (laws_szRepS F0) (Lim 1048576 (K40)) a := by
  intro left h0 h1
  rw [laws_szRepS_eq]
  have hl := h.1
  exact sz_rows (X := fun n i left => laws_szRepS_1 F0 (laws_szRepS_1_k F0) n (laws_szRepS_1_s a left i)) (f := laws_szRep F0) h.1 (fun x hx => szRep_ok (h.2 x hx)) (fun n k left hk => by
    rw [laws_szRepS_1_step, dec_lt hk, br_true, okI_nat hk, ck_true, at_isD hk, laws_szRepS_1_cr, w64_succ (by omega)]) (fun n left => by
    rw [laws_szRepS_1_step, dec_nlt, br_false, laws_szRepS_1_ce0]) h0 h1
theorem toRepS_ok {a : K40.D} (h : Lim 1048576 (K40) a) : laws_toRepS F0 a = some (a, ()) := by
  have hl := h.1
  rw [laws_toRepS_eq, okM_le (by omega) (by omega) (by omega), ck_true]
  refine copy_by (fun n i xs => laws_toRepS_1 F0 (laws_toRepS_1_k F0) n (laws_toRepS_1_s a i xs)) a _ _ (fun n k xs hk hx => ?_) (fun n => ?_) _ (by rw [n_eq]; omega)
  · rw [laws_toRepS_1_step, dec_lt hk, br_true, okI_nat hk, ck_true]
    simp only [okI_nat (show k < xs.length by omega), ck_true, at_isD hk, Int.toNat_natCast, w64_succ (show k + 1 ≤ 9223372036854775807 by omega), toRep_ok (h.2 _ (List.getElem_mem hk)), bnd]
  · rw [laws_toRepS_1_step, dec_nlt, br_false, laws_toRepS_1_ce0]
theorem eqRepS_ok {a : K40.D} (h : Lim 1048576 (K40) a) : laws_eqRepS F0 a a = some (true, ()) := by
  have hl := h.1
  rw [laws_eqRepS_eq, bne_self_eq_false, br_false]
  refine same_to (fun n i => laws_eqRepS_1 F0 (laws_eqRepS_1_k F0) n (laws_eqRepS_1_s a a i)) a.length _ (fun n k hk => ?_) (fun n => ?_) _ (by rw [n_eq]; omega)
  · simp only [laws_eqRepS_1_step, dec_lt hk, br_true, okI_nat hk, ck_true, at_isD hk, w64_succ (show k + 1 ≤ 9223372036854775807 by omega), eqRep_ok (h.2 _ (List.getElem_mem hk)), bnd, Bool.not_true, br_false]
  · rw [laws_eqRepS_1_step, dec_nlt, br_false]
    first | exact laws_eqRepS_1_ce0 F0 | rfl
theorem szWire_ok {a : K41.D} (h : Lim 9223372036854775807 (K41) a) : SzOk (laws_szWire F0) (Lim 1048576 (K41)) a := by
  intro left h0 h1
  rw [laws_szWire_eq]
  refine sz_bind (szByteS_ok h.2) h0 (by omega) fun r1 p1 q1 c1 => ?_
  exact ⟨_, rfl, Int.le_refl _, fun _ => ⟨lim_flat 1048576 rfl, c1⟩⟩
theorem toWire_ok {a : K41.D} (h : Lim 1048576 (K41) a) : laws_toWire F0 a = some (a, ()) := by
  rw [laws_toWire_eq]
  rw [toByteS_ok h.2, bnd]
theorem eqWire_ok {a : K41.D} (h : Lim 1048576 (K41) a) : laws_eqWire F0 a a = some (true, ()) := by
  rw [laws_eqWire_eq]
  simp only [bne_self_eq_false, br_false, same_text, bnd, Bool.not_true, eqByteS_ok h.2]
theorem szWireS_ok {a : K42.D} (h : Lim 9223372036854775807 (K42) a) : SzOk (laws_szWireS F0) (Lim 1048576 (K42)) a := by
  intro left h0 h1
  rw [laws_szWireS_eq]
  have hl := h.1
  exact sz_rows (X := fun n i left => laws_szWireS_1 F0 (laws_szWireS_1_k F0) n (laws_szWireS_1_s a left i)) (f := laws_szWire F0) h.1 (fun x hx => szWire_ok (h.2 x hx)) (fun n k left hk => by
    rw [laws_szWireS_1_step, dec_lt hk, br_true, okI_nat hk, ck_true, at_isD hk, laws_szWireS_1_cr, w64_succ (by omega)]) (fun n left => by
    rw [laws_szWireS_1_step, dec_nlt, br_false, laws_szWireS_1_ce0]) h0 h1
theorem toWireS_ok {a : K42.D} (h : Lim 1048576 (K42) a) : laws_toWireS F0 a = some (a, ()) := by
  have hl := h.1
  rw [laws_toWireS_eq, okM_le (by omega) (by omega) (by omega), ck_true]
  refine copy_by (fun n i xs => laws_toWireS_1 F0 (laws_toWireS_1_k F0) n (laws_toWireS_1_s a i xs)) a _ _ (fun n k xs hk hx => ?_) (fun n => ?_) _ (by rw [n_eq]; omega)
  · rw [laws_toWireS_1_step, dec_lt hk, br_true, okI_nat hk, ck_true]
    simp only [okI_nat (show k < xs.length by omega), ck_true, at_isD hk, Int.toNat_natCast, w64_succ (show k + 1 ≤ 9223372036854775807 by omega), toWire_ok (h.2 _ (List.getElem_mem hk)), bnd]
  · rw [laws_toWireS_1_step, dec_nlt, br_false, laws_toWireS_1_ce0]
theorem eqWireS_ok {a : K42.D} (h : Lim 1048576 (K42) a) : laws_eqWireS F0 a a = some (true, ()) := by
  have hl := h.1
  rw [laws_eqWireS_eq, bne_self_eq_false, br_false]
  refine same_to (fun n i => laws_eqWireS_1 F0 (laws_eqWireS_1_k F0) n (laws_eqWireS_1_s a a i)) a.length _ (fun n k hk => ?_) (fun n => ?_) _ (by rw [n_eq]; omega)
  · simp only [laws_eqWireS_1_step, dec_lt hk, br_true, okI_nat hk, ck_true, at_isD hk, w64_succ (show k + 1 ≤ 9223372036854775807 by omega), eqWire_ok (h.2 _ (List.getElem_mem hk)), bnd, Bool.not_true, br_false]
  · rw [laws_eqWireS_1_step, dec_nlt, br_false]
    first | exact laws_eqWireS_1_ce0 F0 | rfl
theorem szSaid_ok {a : K44.D} (h : Lim 9223372036854775807 (K44) a) : SzOk (laws_szSaid F0) (Lim 1048576 (K44)) a := by
  intro left h0 h1
  rw [laws_szSaid_eq]
  refine sz_len h.2.1 h0 (by omega) fun p1 q1 c1 => ?_
  exact ⟨_, rfl, Int.le_refl _, fun _ => ⟨lim_flat 1048576 rfl, c1, lim_flat 1048576 rfl⟩⟩
theorem toSaid_ok {a : K44.D} (h : Lim 1048576 (K44) a) : laws_toSaid F0 a = some (a, ()) := by
  rw [laws_toSaid_eq]
theorem eqSaid_ok {a : K44.D} (h : Lim 1048576 (K44) a) : laws_eqSaid F0 a a = some (true, ()) := by
  rw [laws_eqSaid_eq]
  simp only [bne_self_eq_false, br_false, same_text, bnd, Bool.not_true]
theorem szSaidS_ok {a : K45.D} (h : Lim 9223372036854775807 (K45) a) : SzOk (laws_szSaidS F0) (Lim 1048576 (K45)) a := by
  intro left h0 h1
  rw [laws_szSaidS_eq]
  have hl := h.1
  exact sz_rows (X := fun n i left => laws_szSaidS_1 F0 (laws_szSaidS_1_k F0) n (laws_szSaidS_1_s a left i)) (f := laws_szSaid F0) h.1 (fun x hx => szSaid_ok (h.2 x hx)) (fun n k left hk => by
    rw [laws_szSaidS_1_step, dec_lt hk, br_true, okI_nat hk, ck_true, at_isD hk, laws_szSaidS_1_cr, w64_succ (by omega)]) (fun n left => by
    rw [laws_szSaidS_1_step, dec_nlt, br_false, laws_szSaidS_1_ce0]) h0 h1
theorem toSaidS_ok {a : K45.D} (h : Lim 1048576 (K45) a) : laws_toSaidS F0 a = some (a, ()) := by
  have hl := h.1
  rw [laws_toSaidS_eq, okM_le (by omega) (by omega) (by omega), ck_true]
  refine copy_by (fun n i xs => laws_toSaidS_1 F0 (laws_toSaidS_1_k F0) n (laws_toSaidS_1_s a i xs)) a _ _ (fun n k xs hk hx => ?_) (fun n => ?_) _ (by rw [n_eq]; omega)
  · rw [laws_toSaidS_1_step, dec_lt hk, br_true, okI_nat hk, ck_true]
    simp only [okI_nat (show k < xs.length by omega), ck_true, at_isD hk, Int.toNat_natCast, w64_succ (show k + 1 ≤ 9223372036854775807 by omega), toSaid_ok (h.2 _ (List.getElem_mem hk)), bnd]
  · rw [laws_toSaidS_1_step, dec_nlt, br_false, laws_toSaidS_1_ce0]
theorem eqSaidS_ok {a : K45.D} (h : Lim 1048576 (K45) a) : laws_eqSaidS F0 a a = some (true, ()) := by
  have hl := h.1
  rw [laws_eqSaidS_eq, bne_self_eq_false, br_false]
  refine same_to (fun n i => laws_eqSaidS_1 F0 (laws_eqSaidS_1_k F0) n (laws_eqSaidS_1_s a a i)) a.length _ (fun n k hk => ?_) (fun n => ?_) _ (by rw [n_eq]; omega)
  · simp only [laws_eqSaidS_1_step, dec_lt hk, br_true, okI_nat hk, ck_true, at_isD hk, w64_succ (show k + 1 ≤ 9223372036854775807 by omega), eqSaid_ok (h.2 _ (List.getElem_mem hk)), bnd, Bool.not_true, br_false]
  · rw [laws_eqSaidS_1_step, dec_nlt, br_false]
    first | exact laws_eqSaidS_1_ce0 F0 | rfl
theorem szWorld_ok {a : K49.D} (h : Lim 9223372036854775807 (K49) a) : SzOk (laws_szWorld F0) (Lim 1048576 (K49)) a := by
  intro left h0 h1
  rw [laws_szWorld_eq]
  refine sz_bind (szIntS_ok h.2.1) h0 (by omega) fun r1 p1 q1 c1 => ?_
  refine sz_bind (szRepS_ok h.2.2.1) p1 (by omega) fun r2 p2 q2 c2 => ?_
  refine sz_bind (szWireS_ok h.2.2.2.1) p2 (by omega) fun r3 p3 q3 c3 => ?_
  refine sz_bind (szSaidS_ok h.2.2.2.2) p3 (by omega) fun r4 p4 q4 c4 => ?_
  exact ⟨_, rfl, Int.le_refl _, fun _ => ⟨lim_flat 1048576 rfl, c1, c2, c3, c4⟩⟩
theorem toWorld_ok {a : K49.D} (h : Lim 1048576 (K49) a) : laws_toWorld F0 a = some (a, ()) := by
  rw [laws_toWorld_eq]
  rw [toConf_ok, bnd]
  rw [toIntS_ok h.2.1, bnd]
  rw [toRepS_ok h.2.2.1, bnd]
  rw [toWireS_ok h.2.2.2.1, bnd]
  rw [toSaidS_ok h.2.2.2.2, bnd]
theorem eqWorld_ok {a : K49.D} (h : Lim 1048576 (K49) a) : laws_eqWorld F0 a a = some (true, ()) := by
  rw [laws_eqWorld_eq]
  simp only [bne_self_eq_false, br_false, same_text, bnd, Bool.not_true, eqConf_ok, eqIntS_ok h.2.1, eqRepS_ok h.2.2.1, eqWireS_ok h.2.2.2.1, eqSaidS_ok h.2.2.2.2]
end Go.Am.Tryz
