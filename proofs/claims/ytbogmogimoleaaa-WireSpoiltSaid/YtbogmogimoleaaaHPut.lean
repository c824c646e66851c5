/- The walk of put. -/
import Derived.Test.YtbogmogimoleaaaHPutA
namespace Go.Proofs.Ytbogmogimoleaaa.Given
open Go.RowKit Go.Proofs.YtbogmogimoleaaaW.PrintWords Go.Proofs.YtbogmogimoleaaaW.PrintLast Go.Proofs.YtbogmogimoleaaaW.PrintMore Go.Proofs.Ytbogmogimoleaaa.W Go.Proofs.Ytbogmogimoleaaa.Plain7
set_option linter.unusedVariables false
set_option linter.unusedSimpArgs false
set_option maxHeartbeats 8000000 in
set_option maxRecDepth 100000 in
theorem put_calls (w : World) (B b : Nat) (u : Value) (xs : List Int) (ps : List (Nat × Int)) (hR : Kd.R (Kd.int .u8) 5 w B (fun _ => True) u xs) (hP : Parts w b ps) (hok : ∀ p ∈ ps, okP p) (hB : B ≤ w.heap.size) (htot : xs.length + 4 * ps.length < 70368744177664) :
    Calls Try.prog 38 #[u, .slice (some ⟨b, 0, none⟩) ps.length ps.length] w fun e w' => ∃ v, e = .returned v ∧ Aside0 (Kd.R (Kd.int .u8) 5 w' B (fun _ => True) v (xs ++ bes ps)) ∧ Aside0 (Below B w w') := by
  have H0 := Aside0.mk hR
  have HP0 := Aside0.mk hP
  have HOK := Aside0.mk hok
  have HT := Aside0.mk htot
  have hpl : ps.length < 70368744177664 := by omega
  have ta5_5 : ∀ (n : Int) (w : World), (Instr.typeAssert (.iface 5 (.int .u8 n)) 20 5 true).run Try.prog w = .ok (.tuple #[.int .u8 n, .bool true]) w := fun _ _ => rfl
  have ta55_5 : ∀ (n : Int) (w : World), (Instr.typeAssert (.iface 55 (.int .u16 n)) 20 5 true).run Try.prog w = .ok (.tuple #[.int .u8 0, .bool false]) w := fun _ _ => rfl
  have ta55_55 : ∀ (n : Int) (w : World), (Instr.typeAssert (.iface 55 (.int .u16 n)) 20 55 true).run Try.prog w = .ok (.tuple #[.int .u16 n, .bool true]) w := fun _ _ => rfl
  have ta56_5 : ∀ (n : Int) (w : World), (Instr.typeAssert (.iface 56 (.int .u32 n)) 20 5 true).run Try.prog w = .ok (.tuple #[.int .u8 0, .bool false]) w := fun _ _ => rfl
  have ta56_55 : ∀ (n : Int) (w : World), (Instr.typeAssert (.iface 56 (.int .u32 n)) 20 55 true).run Try.prog w = .ok (.tuple #[.int .u16 0, .bool false]) w := fun _ _ => rfl
  have ta56_56 : ∀ (n : Int) (w : World), (Instr.typeAssert (.iface 56 (.int .u32 n)) 20 56 true).run Try.prog w = .ok (.tuple #[.int .u32 n, .bool true]) w := fun _ _ => rfl
  have ta31_5 : ∀ (n : Int) (w : World), (Instr.typeAssert (.iface 31 (.int .u32 n)) 20 5 true).run Try.prog w = .ok (.tuple #[.int .u8 0, .bool false]) w := fun _ _ => rfl
  have ta31_55 : ∀ (n : Int) (w : World), (Instr.typeAssert (.iface 31 (.int .u32 n)) 20 55 true).run Try.prog w = .ok (.tuple #[.int .u16 0, .bool false]) w := fun _ _ => rfl
  have ta31_56 : ∀ (n : Int) (w : World), (Instr.typeAssert (.iface 31 (.int .u32 n)) 20 56 true).run Try.prog w = .ok (.tuple #[.int .u32 0, .bool false]) w := fun _ _ => rfl
  have ta31_31 : ∀ (n : Int) (w : World), (Instr.typeAssert (.iface 31 (.int .u32 n)) 20 31 true).run Try.prog w = .ok (.tuple #[.int .u32 n, .bool true]) w := fun _ _ => rfl
  clear hR hP hok htot
  go_enter Try.func38, Try.ntmps38
  go_wp2
  go_loopw [0, 16] (fun v0 v16 wr => ∃ i : Nat, i ≤ ps.length ∧ v16 = .int .i64 i ∧ Aside0 (Kd.R (Kd.int .u8) 5 wr B (fun _ => True) v0 (xs ++ bes (ps.take i))) ∧ Aside0 (Parts wr b ps) ∧ Aside0 (Below B w wr)) (fun _ v16 _ => ps.length - (intOf v16).toNat)
  case atStart => exact ⟨0, Nat.zero_le _, rfl, ⟨by simpa [bes] using H0.out⟩, HP0, ⟨Below.refl _ _⟩⟩
  case round =>
    obtain ⟨i, hi, rfl, HR, HP, HB⟩ := hrel
    by_cases hit : i < ps.length
    · have hpc := HP.out.cell i hit
      have hpo := HOK.out ps[i] (List.getElem_mem hit)
      have HN := Aside0.mk (rfl : ps[i] = ps[i])
      obtain ⟨⟨sz, n⟩, hp⟩ : ∃ p, p = ps[i] := ⟨_, rfl⟩
      rw [← hp] at hpc hpo
      have HPI := Aside0.mk hp
      clear hp HN
      obtain ⟨o1, o2, o3, o4⟩ := hpo
      simp only at o1 o2 o3 o4
      have hcase : sz = 1 ∨ sz = 2 ∨ sz = 3 ∨ sz = 4 := by omega
      clear o1 o2
      have hlb := bes_len (ps.take i) (fun p hp => HOK.out p (List.mem_of_mem_take hp))
      rw [List.length_take, Nat.min_eq_left hi] at hlb
      obtain ⟨ys, hys⟩ : ∃ ys, ys = xs ++ bes (ps.take i) := ⟨_, rfl⟩
      have hyl : ys.length ≤ xs.length + 4 * i := by rw [hys, List.length_append]; omega
      rw [← hys] at HR
      have HYS := Aside0.mk hys
      have HYL := Aside0.mk hyl
      clear hys hyl hlb
      rcases hcase with rfl | rfl | rfl | rfl
      · simp only [ifv, if_true] at hpc
        go_wp2
        go_loopw [0, 13] (fun v0 v13 wq => ∃ j : Nat, j ≤ 1 ∧ v13 = .int .i64 (0 - (j : Int)) ∧ Aside0 (Kd.R (Kd.int .u8) 5 wq B (fun _ => True) v0 (ys ++ (be 1 n).take j)) ∧ Aside0 (Parts wq b ps) ∧ Aside0 (Below B w wq)) (fun _ v13 _ => (intOf v13 + 1).toNat)
        case atStart => exact ⟨0, Nat.zero_le _, rfl, ⟨by simpa using HR.out⟩, HP, HB⟩
        case round =>
          clear HR HP HB hpc
          obtain ⟨j, hj, hv, HRJ, HPJ, HBJ⟩ := hrel
          obtain ⟨e, he⟩ : ∃ e : Int, e = 0 - (j : Int) := ⟨_, rfl⟩
          rw [← he] at hv
          subst hv
          by_cases hjt : j < 1
          · have he0 : 0 ≤ e := by omega
            have he3 : e ≤ 3 := by omega
            have hd0 : decide (0 ≤ e) = true := decide_eq_true he0
            obtain ⟨sh, hs⟩ : ∃ sh : Int, sh = 8 * e := ⟨_, rfl⟩
            have hw : IntKind.i64.wrap (8 * e) = sh := by rw [IntKind.wrap_i64]; omega
            have hs0 : decide (0 ≤ sh) = true := decide_eq_true (by omega)
            have hs1 : 0 ≤ sh := by omega
            have hs2 : sh ≤ 24 := by omega
            obtain ⟨q, hq⟩ : ∃ q : Int, shr .i64 n sh = q := ⟨_, rfl⟩
            have hq_ : (n / 2 ^ min sh.toNat 64) = q := hq
            have hqz : (n / 2 ^ sh.toNat) = q := shr_small hq (by simp [IntKind.bits]; omega)
            have hqe : q % 256 = n / 2 ^ (8 * (1 - 1 - j)) % 256 := by
              rw [← hqz, show sh.toNat = 8 * (1 - 1 - j) by omega]
            have HQ := Aside0.mk hqe
            have HE := Aside0.mk (And.intro hs he)
            have hlen : (ys ++ (be 1 n).take j).length + 1 < 140737488355328 := by
              rw [List.length_append, List.length_take, be_len]
              have := HYL.out
              have := HT.out
              omega
            have HL := Aside0.mk hlen
            clear hqe hlen hs hq he
            go_wp2_with (((with_reducible refine gate_builtin (b := .append) (xs := #[.tmp 47, .tmp 53]) rfl ?_); at_builtin; refine Kd.R_append (Kd.int .u8) (w0 := w) B rfl (.tmp 47) (.tmp 53) 23 5 (.int .u8 0) 1 rfl Try.underlying23 info5 rfl (by decide) (by omega) _ (ys ++ (be 1 n).take j) (q % 256) [.int .u8 (q % 256)] (fun _ => True) (fun _ => False) rfl rfl rfl (fun _ hk => hk.elim) (fun _ _ => trivial) HRJ.out HBJ.out (Nat.le_trans hB HBJ.out.size) (by have := HL.out; omega) ?_; intro v1 w1 hr1 hb1 hg1 hat1; have HR1 := Aside0.mk hr1; have HB1 := Aside0.mk hb1; have HP1 := Aside0.mk (HPJ.out.grown HRJ.out hg1); clear hr1 hb1 hg1 hat1))
            have hr2 := HR1.out
            rw [List.append_assoc, HQ.out, ← be_step 1 n j hjt] at hr2
            have he := HE.out.2
            exact ⟨⟨j + 1, by omega, by congr 1; omega, ⟨hr2⟩, HP1, HB1⟩, by simp [intOf]; omega⟩
          · have hje : j = 1 := by omega
            subst hje
            have hd0 : decide (0 ≤ e) = false := decide_eq_false (by omega)
            have hr2 := HRJ.out
            rw [List.take_of_length_le (by rw [be_len]; omega)] at hr2
            have hr3 : Kd.R (Kd.int .u8) 5 wr B (fun _ => True) u0 (xs ++ bes (ps.take (i + 1))) := by
              rw [bes_step ps i hit, ← HPI.out, ← List.append_assoc, ← HYS.out]
              exact hr2
            have HR3 := Aside0.mk hr3
            clear hr2 hr3
            clear he
            go_wp2
            exact ⟨⟨i + 1, by omega, rfl, HR3, HPJ, HBJ⟩, by simp [intOf]; omega⟩
      · simp only [ifv, show ¬ ((2 : Nat) = 1) by decide, if_false, if_true] at hpc
        go_wp2
        go_loopw [0, 13] (fun v0 v13 wq => ∃ j : Nat, j ≤ 2 ∧ v13 = .int .i64 (1 - (j : Int)) ∧ Aside0 (Kd.R (Kd.int .u8) 5 wq B (fun _ => True) v0 (ys ++ (be 2 n).take j)) ∧ Aside0 (Parts wq b ps) ∧ Aside0 (Below B w wq)) (fun _ v13 _ => (intOf v13 + 1).toNat)
        case atStart => exact ⟨0, Nat.zero_le _, rfl, ⟨by simpa using HR.out⟩, HP, HB⟩
        case round =>
          clear HR HP HB hpc
          obtain ⟨j, hj, hv, HRJ, HPJ, HBJ⟩ := hrel
          obtain ⟨e, he⟩ : ∃ e : Int, e = 1 - (j : Int) := ⟨_, rfl⟩
          rw [← he] at hv
          subst hv
          by_cases hjt : j < 2
          · have he0 : 0 ≤ e := by omega
            have he3 : e ≤ 3 := by omega
            have hd0 : decide (0 ≤ e) = true := decide_eq_true he0
            obtain ⟨sh, hs⟩ : ∃ sh : Int, sh = 8 * e := ⟨_, rfl⟩
            have hw : IntKind.i64.wrap (8 * e) = sh := by rw [IntKind.wrap_i64]; omega
            have hs0 : decide (0 ≤ sh) = true := decide_eq_true (by omega)
            have hs1 : 0 ≤ sh := by omega
            have hs2 : sh ≤ 24 := by omega
            obtain ⟨q, hq⟩ : ∃ q : Int, shr .i64 n sh = q := ⟨_, rfl⟩
            have hq_ : (n / 2 ^ min sh.toNat 64) = q := hq
            have hqz : (n / 2 ^ sh.toNat) = q := shr_small hq (by simp [IntKind.bits]; omega)
            have hqe : q % 256 = n / 2 ^ (8 * (2 - 1 - j)) % 256 := by
              rw [← hqz, show sh.toNat = 8 * (2 - 1 - j) by omega]
            have HQ := Aside0.mk hqe
            have HE := Aside0.mk (And.intro hs he)
            have hlen : (ys ++ (be 2 n).take j).length + 1 < 140737488355328 := by
              rw [List.length_append, List.length_take, be_len]
              have := HYL.out
              have := HT.out
              omega
            have HL := Aside0.mk hlen
            clear hqe hlen hs hq he
            go_wp2_with (((with_reducible refine gate_builtin (b := .append) (xs := #[.tmp 47, .tmp 53]) rfl ?_); at_builtin; refine Kd.R_append (Kd.int .u8) (w0 := w) B rfl (.tmp 47) (.tmp 53) 23 5 (.int .u8 0) 1 rfl Try.underlying23 info5 rfl (by decide) (by omega) _ (ys ++ (be 2 n).take j) (q % 256) [.int .u8 (q % 256)] (fun _ => True) (fun _ => False) rfl rfl rfl (fun _ hk => hk.elim) (fun _ _ => trivial) HRJ.out HBJ.out (Nat.le_trans hB HBJ.out.size) (by have := HL.out; omega) ?_; intro v1 w1 hr1 hb1 hg1 hat1; have HR1 := Aside0.mk hr1; have HB1 := Aside0.mk hb1; have HP1 := Aside0.mk (HPJ.out.grown HRJ.out hg1); clear hr1 hb1 hg1 hat1))
            have hr2 := HR1.out
            rw [List.append_assoc, HQ.out, ← be_step 2 n j hjt] at hr2
            have he := HE.out.2
            exact ⟨⟨j + 1, by omega, by congr 1; omega, ⟨hr2⟩, HP1, HB1⟩, by simp [intOf]; omega⟩
          · have hje : j = 2 := by omega
            subst hje
            have hd0 : decide (0 ≤ e) = false := decide_eq_false (by omega)
            have hr2 := HRJ.out
            rw [List.take_of_length_le (by rw [be_len]; omega)] at hr2
            have hr3 : Kd.R (Kd.int .u8) 5 wr B (fun _ => True) u0 (xs ++ bes (ps.take (i + 1))) := by
              rw [bes_step ps i hit, ← HPI.out, ← List.append_assoc, ← HYS.out]
              exact hr2
            have HR3 := Aside0.mk hr3
            clear hr2 hr3
            clear he
            go_wp2
            exact ⟨⟨i + 1, by omega, rfl, HR3, HPJ, HBJ⟩, by simp [intOf]; omega⟩
      · simp only [ifv, show ¬ ((3 : Nat) = 1) by decide, show ¬ ((3 : Nat) = 2) by decide, if_false, if_true] at hpc
        go_wp2
        go_loopw [0, 13] (fun v0 v13 wq => ∃ j : Nat, j ≤ 3 ∧ v13 = .int .i64 (2 - (j : Int)) ∧ Aside0 (Kd.R (Kd.int .u8) 5 wq B (fun _ => True) v0 (ys ++ (be 3 n).take j)) ∧ Aside0 (Parts wq b ps) ∧ Aside0 (Below B w wq)) (fun _ v13 _ => (intOf v13 + 1).toNat)
        case atStart => exact ⟨0, Nat.zero_le _, rfl, ⟨by simpa using HR.out⟩, HP, HB⟩
        case round =>
          clear HR HP HB hpc
          obtain ⟨j, hj, hv, HRJ, HPJ, HBJ⟩ := hrel
          obtain ⟨e, he⟩ : ∃ e : Int, e = 2 - (j : Int) := ⟨_, rfl⟩
          rw [← he] at hv
          subst hv
          by_cases hjt : j < 3
          · have he0 : 0 ≤ e := by omega
            have he3 : e ≤ 3 := by omega
            have hd0 : decide (0 ≤ e) = true := decide_eq_true he0
            obtain ⟨sh, hs⟩ : ∃ sh : Int, sh = 8 * e := ⟨_, rfl⟩
            have hw : IntKind.i64.wrap (8 * e) = sh := by rw [IntKind.wrap_i64]; omega
            have hs0 : decide (0 ≤ sh) = true := decide_eq_true (by omega)
            have hs1 : 0 ≤ sh := by omega
            have hs2 : sh ≤ 24 := by omega
            obtain ⟨q, hq⟩ : ∃ q : Int, shr .i64 n sh = q := ⟨_, rfl⟩
            have hq_ : (n / 2 ^ min sh.toNat 64) = q := hq
            have hqz : (n / 2 ^ sh.toNat) = q := shr_small hq (by simp [IntKind.bits]; omega)
            have hqe : q % 256 = n / 2 ^ (8 * (3 - 1 - j)) % 256 := by
              rw [← hqz, show sh.toNat = 8 * (3 - 1 - j) by omega]
            have HQ := Aside0.mk hqe
            have HE := Aside0.mk (And.intro hs he)
            have hlen : (ys ++ (be 3 n).take j).length + 1 < 140737488355328 := by
              rw [List.length_append, List.length_take, be_len]
              have := HYL.out
              have := HT.out
              omega
            have HL := Aside0.mk hlen
            clear hqe hlen hs hq he
            go_wp2_with (((with_reducible refine gate_builtin (b := .append) (xs := #[.tmp 47, .tmp 53]) rfl ?_); at_builtin; refine Kd.R_append (Kd.int .u8) (w0 := w) B rfl (.tmp 47) (.tmp 53) 23 5 (.int .u8 0) 1 rfl Try.underlying23 info5 rfl (by decide) (by omega) _ (ys ++ (be 3 n).take j) (q % 256) [.int .u8 (q % 256)] (fun _ => True) (fun _ => False) rfl rfl rfl (fun _ hk => hk.elim) (fun _ _ => trivial) HRJ.out HBJ.out (Nat.le_trans hB HBJ.out.size) (by have := HL.out; omega) ?_; intro v1 w1 hr1 hb1 hg1 hat1; have HR1 := Aside0.mk hr1; have HB1 := Aside0.mk hb1; have HP1 := Aside0.mk (HPJ.out.grown HRJ.out hg1); clear hr1 hb1 hg1 hat1))
            have hr2 := HR1.out
            rw [List.append_assoc, HQ.out, ← be_step 3 n j hjt] at hr2
            have he := HE.out.2
            exact ⟨⟨j + 1, by omega, by congr 1; omega, ⟨hr2⟩, HP1, HB1⟩, by simp [intOf]; omega⟩
          · have hje : j = 3 := by omega
            subst hje
            have hd0 : decide (0 ≤ e) = false := decide_eq_false (by omega)
            have hr2 := HRJ.out
            rw [List.take_of_length_le (by rw [be_len]; omega)] at hr2
            have hr3 : Kd.R (Kd.int .u8) 5 wr B (fun _ => True) u0 (xs ++ bes (ps.take (i + 1))) := by
              rw [bes_step ps i hit, ← HPI.out, ← List.append_assoc, ← HYS.out]
              exact hr2
            have HR3 := Aside0.mk hr3
            clear hr2 hr3
            clear he
            go_wp2
            exact ⟨⟨i + 1, by omega, rfl, HR3, HPJ, HBJ⟩, by simp [intOf]; omega⟩
      · simp only [ifv, show ¬ ((4 : Nat) = 1) by decide, show ¬ ((4 : Nat) = 2) by decide, show ¬ ((4 : Nat) = 3) by decide, if_false] at hpc
        go_wp2
        go_loopw [0, 13] (fun v0 v13 wq => ∃ j : Nat, j ≤ 4 ∧ v13 = .int .i64 (3 - (j : Int)) ∧ Aside0 (Kd.R (Kd.int .u8) 5 wq B (fun _ => True) v0 (ys ++ (be 4 n).take j)) ∧ Aside0 (Parts wq b ps) ∧ Aside0 (Below B w wq)) (fun _ v13 _ => (intOf v13 + 1).toNat)
        case atStart => exact ⟨0, Nat.zero_le _, rfl, ⟨by simpa using HR.out⟩, HP, HB⟩
        case round =>
          clear HR HP HB hpc
          obtain ⟨j, hj, hv, HRJ, HPJ, HBJ⟩ := hrel
          obtain ⟨e, he⟩ : ∃ e : Int, e = 3 - (j : Int) := ⟨_, rfl⟩
          rw [← he] at hv
          subst hv
          by_cases hjt : j < 4
          · have he0 : 0 ≤ e := by omega
            have he3 : e ≤ 3 := by omega
            have hd0 : decide (0 ≤ e) = true := decide_eq_true he0
            obtain ⟨sh, hs⟩ : ∃ sh : Int, sh = 8 * e := ⟨_, rfl⟩
            have hw : IntKind.i64.wrap (8 * e) = sh := by rw [IntKind.wrap_i64]; omega
            have hs0 : decide (0 ≤ sh) = true := decide_eq_true (by omega)
            have hs1 : 0 ≤ sh := by omega
            have hs2 : sh ≤ 24 := by omega
            obtain ⟨q, hq⟩ : ∃ q : Int, shr .i64 n sh = q := ⟨_, rfl⟩
            have hq_ : (n / 2 ^ min sh.toNat 64) = q := hq
            have hqz : (n / 2 ^ sh.toNat) = q := shr_small hq (by simp [IntKind.bits]; omega)
            have hqe : q % 256 = n / 2 ^ (8 * (4 - 1 - j)) % 256 := by
              rw [← hqz, show sh.toNat = 8 * (4 - 1 - j) by omega]
            have HQ := Aside0.mk hqe
            have HE := Aside0.mk (And.intro hs he)
            have hlen : (ys ++ (be 4 n).take j).length + 1 < 140737488355328 := by
              rw [List.length_append, List.length_take, be_len]
              have := HYL.out
              have := HT.out
              omega
            have HL := Aside0.mk hlen
            clear hqe hlen hs hq he
            go_wp2_with (((with_reducible refine gate_builtin (b := .append) (xs := #[.tmp 47, .tmp 53]) rfl ?_); at_builtin; refine Kd.R_append (Kd.int .u8) (w0 := w) B rfl (.tmp 47) (.tmp 53) 23 5 (.int .u8 0) 1 rfl Try.underlying23 info5 rfl (by decide) (by omega) _ (ys ++ (be 4 n).take j) (q % 256) [.int .u8 (q % 256)] (fun _ => True) (fun _ => False) rfl rfl rfl (fun _ hk => hk.elim) (fun _ _ => trivial) HRJ.out HBJ.out (Nat.le_trans hB HBJ.out.size) (by have := HL.out; omega) ?_; intro v1 w1 hr1 hb1 hg1 hat1; have HR1 := Aside0.mk hr1; have HB1 := Aside0.mk hb1; have HP1 := Aside0.mk (HPJ.out.grown HRJ.out hg1); clear hr1 hb1 hg1 hat1))
            have hr2 := HR1.out
            rw [List.append_assoc, HQ.out, ← be_step 4 n j hjt] at hr2
            have he := HE.out.2
            exact ⟨⟨j + 1, by omega, by congr 1; omega, ⟨hr2⟩, HP1, HB1⟩, by simp [intOf]; omega⟩
          · have hje : j = 4 := by omega
            subst hje
            have hd0 : decide (0 ≤ e) = false := decide_eq_false (by omega)
            have hr2 := HRJ.out
            rw [List.take_of_length_le (by rw [be_len]; omega)] at hr2
            have hr3 : Kd.R (Kd.int .u8) 5 wr B (fun _ => True) u0 (xs ++ bes (ps.take (i + 1))) := by
              rw [bes_step ps i hit, ← HPI.out, ← List.append_assoc, ← HYS.out]
              exact hr2
            have HR3 := Aside0.mk hr3
            clear hr2 hr3
            clear he
            go_wp2
            exact ⟨⟨i + 1, by omega, rfl, HR3, HPJ, HBJ⟩, by simp [intOf]; omega⟩
    · obtain rfl : i = ps.length := by omega
      rw [List.take_length] at HR
      go_wp2
      go_ret
      exact ⟨_, rfl, HR, HB⟩
end Go.Proofs.Ytbogmogimoleaaa.Given
