/- The plain map of the statements: put. -/
import Derived.Test.YtlognaddmbolgaaK8
namespace Go.Proofs.Ytlognaddmbolgaa
open Go Go.Sl
attribute [local irreducible] Code.wpIn roundPost bodyPostM runL Ret Meets Begin

theorem map_k_set (ys : List PgSI) (i : Nat) (y : PgSI) (v : Int) (hy : ys[i]? = some y) : (ys.set i ⟨y.k, v⟩).map PgSI.k = ys.map PgSI.k := by
  apply List.ext_getElem?
  intro j
  simp only [List.getElem?_map, List.getElem?_set]
  by_cases e : i = j
  · subst e
    have hi : i < ys.length := (List.getElem?_eq_some_iff.1 hy).1
    simp [hi, hy]
    rw [List.getElem?_eq_getElem hi] at hy
    cases hy
    rfl
  · simp [e]
theorem find_of_pos {ys : List PgSI} {s : SymD} {v : Int} {i : Nat} (hs : Srt PgSI.cmp ys) (hp : PosR (ys.map PgSI.k) s i) (hn : ∀ y ∈ ys, y.k ≠ s) : FindR PgSI.cmp ys ⟨s, v⟩ i false := by
  obtain ⟨h1, h2, h3⟩ := hp
  have hz : ∀ (j : Nat) (y : PgSI), ys[j]? = some y → PgSI.cmp y ⟨s, v⟩ ≠ 0 := fun j y hy e => hn y (List.mem_of_getElem? hy) (PgSI.cmp_key.1 e)
  refine ⟨by simpa using h1, fun e => (by cases e), fun _ => ⟨fun j y hj hy => h2 j y.k hj (by rw [List.getElem?_map, hy]; rfl), fun j y hj hy => ?_⟩⟩
  have hjl : j < ys.length := (List.getElem?_eq_some_iff.1 hy).1
  obtain ⟨z, hzz⟩ : ∃ z, ys[i]? = some z := ⟨_, List.getElem?_eq_getElem (by omega)⟩
  have h4 : ¬ PgSI.cmp z ⟨s, v⟩ < 0 := h3 z.k (by rw [List.getElem?_map, hzz]; rfl)
  have h5 := hz i z hzz
  by_cases e : j = i
  · subst e; rw [hzz] at hy; cases hy; omega
  · have h6 := hs i j z y (by omega) hzz hy
    have h7 := PgSI.lin.swap ⟨s, v⟩ z
    have h8 := PgSI.lin.trans ⟨s, v⟩ z y (by omega) h6
    have h9 := PgSI.lin.swap ⟨s, v⟩ y
    omega
theorem putPl_spec (p : Nat) (ys : List PgSI) (s : SymD) (v : Int) (hs : Srt PgSI.cmp ys) (hl : ys.length < 100000) : Ctr Try.prog 42 [.pointer (some ⟨p, 0, none⟩), s.val, .int .i64 v] [PlA p ys]
    (fun _ M => ∃ i there, M = [PlA p (putLSI ys s v i there)] ∧ FindR PgSI.cmp ys ⟨s, v⟩ i there) := by
  refine spec_of Try.func42 rfl Try.ntmps42 rfl fun w0 F => ?_
  repeat (first | refine g_endt ?_ | refine g_end ?_ | refine g_then ?_ | refine g_in_normal ?_ | refine g_then_ret ?_ | refine g_in_ret ?_ | refine g_then_exit ?_ | refine g_in_exit rfl ?_ | refine g_in_exit_ne (by decide) ?_ | refine g_seq ?_ | refine g_region ?_ | refine g_block ?_ | refine g_ret ?_ | refine g_return_n ?_ | refine g_exit ?_ | refine g_skip ?_)
  refine o_boxc s.val.cells rfl rfl fun q => ?_
  refine g_endt ?_
  repeat (first | refine g_endt ?_ | refine g_end ?_ | refine g_then ?_ | refine g_in_normal ?_ | refine g_then_ret ?_ | refine g_in_ret ?_ | refine g_then_exit ?_ | refine g_in_exit rfl ?_ | refine g_in_exit_ne (by decide) ?_ | refine g_seq ?_ | refine g_region ?_ | refine g_block ?_ | refine g_ret ?_ | refine g_return_n ?_ | refine g_exit ?_ | refine g_skip ?_)
  refine o_move ?_
  refine o_loadN (v := s.val) rfl rfl rfl ?_
  refine o_call (findPl_spec p ys s (by omega)) rfl rfl ?_
  rintro _ _ ⟨r, rfl, rfl, hr⟩
  refine o_assign ?_
  refine g_endt ?_
  repeat (first | refine g_endt ?_ | refine g_end ?_ | refine g_then ?_ | refine g_in_normal ?_ | refine g_then_ret ?_ | refine g_in_ret ?_ | refine g_then_exit ?_ | refine g_in_exit rfl ?_ | refine g_in_exit_ne (by decide) ?_ | refine g_seq ?_ | refine g_region ?_ | refine g_block ?_ | refine g_ret ?_ | refine g_return_n ?_ | refine g_exit ?_ | refine g_skip ?_)
  refine o_move ?_
  refine o_geq rfl rfl ?_
  refine g_endt ?_
  have hvl : (ys.map PgSI.v).length = ys.length := List.length_map _
  have hkl : (ys.map PgSI.k).length = ys.length := List.length_map _
  cases r with
  | some i =>
    obtain ⟨y, hy, hk⟩ := hr
    have hi : i < ys.length := (List.getElem?_eq_some_iff.1 hy).1
    first | refine g_seq (g_cond_t rfl (by simp [plN]) ?_) | refine g_cond_t rfl (by simp [plN]) ?_
    repeat (first | refine g_endt ?_ | refine g_end ?_ | refine g_then ?_ | refine g_in_normal ?_ | refine g_then_ret ?_ | refine g_in_ret ?_ | refine g_then_exit ?_ | refine g_in_exit rfl ?_ | refine g_in_exit_ne (by decide) ?_ | refine g_seq ?_ | refine g_region ?_ | refine g_block ?_ | refine g_ret ?_ | refine g_return_n ?_ | refine g_exit ?_ | refine g_skip ?_)
    refine openPl p ys fun K c V d hc => ?_
    refine o_move ?_
    refine o_nil rfl ?_
    refine o_field rfl ?_
    refine o_load1 (v := .slice V ys.length d) rfl rfl ?_
    refine o_move ?_
    refine o_move ?_
    refine o_indexR (ys := ys.map PgSI.v) (i := i) rfl rfl rfl (by omega) hvl rfl ?_
    refine o_storeE (e := 3) (c := d) (v := .int .i64 v) (z := v) (i := i) (enc := encI) (xs := ys.map PgSI.v) rfl rfl rfl rfl (by omega) ?_
    refine g_endt ?_
    have e1 : (ys.map PgSI.v).set i v = (ys.set i ⟨y.k, v⟩).map PgSI.v := by rw [List.map_set]
    rw [e1, ← map_k_set ys i y v hy]
    refine shutPl p (ys.set i ⟨y.k, v⟩) K V c d (n := ys.length) (by simp) hc ?_
    repeat (first | refine g_endt ?_ | refine g_end ?_ | refine g_then ?_ | refine g_in_normal ?_ | refine g_then_ret ?_ | refine g_in_ret ?_ | refine g_then_exit ?_ | refine g_in_exit rfl ?_ | refine g_in_exit_ne (by decide) ?_ | refine g_seq ?_ | refine g_region ?_ | refine g_block ?_ | refine g_ret ?_ | refine g_return_n ?_ | refine g_exit ?_ | refine g_skip ?_)
    refine ret0 (K := [PlA p (ys.set i ⟨y.k, v⟩)]) rfl ⟨i, true, ?_, ⟨by omega, fun _ => ⟨y, hy, PgSI.cmp_key.2 hk⟩, fun e => by cases e⟩⟩
    show _ = [PlA p (ys.set i ⟨(ys[i]?.map (·.k)).getD s, v⟩)]
    rw [hy]
    rfl
  | none =>
    first | refine g_seq (g_cond_f rfl (by simp [plN]) ?_) | refine g_cond_f rfl (by simp [plN]) ?_
    repeat (first | refine g_endt ?_ | refine g_end ?_ | refine g_then ?_ | refine g_in_normal ?_ | refine g_then_ret ?_ | refine g_in_ret ?_ | refine g_then_exit ?_ | refine g_in_exit rfl ?_ | refine g_in_exit_ne (by decide) ?_ | refine g_seq ?_ | refine g_region ?_ | refine g_block ?_ | refine g_ret ?_ | refine g_return_n ?_ | refine g_exit ?_ | refine g_skip ?_)
    refine openPl p ys fun K c V d hc => ?_
    refine g_draw [5] [0,1,2,3,4,5,6] [cellsB p #[.slice K ys.length c, .slice V ys.length d] 48, cellsB q s.val.cells 27, psl encS 3 K (ys.map PgSI.k)] mixed rfl ?_
    refine ob_q rfl rfl ⟨_, fun X Q h => o_move (g_end (h _ _ ⟨rfl, rfl⟩)), ?_⟩
    refine ob_q rfl rfl ⟨_, fun X Q h => o_nil rfl (g_end (h _ _ ⟨rfl, rfl⟩)), ?_⟩
    refine ob_q rfl rfl ⟨_, fun X Q h => o_field rfl (g_end (h _ _ ⟨rfl, rfl⟩)), ?_⟩
    refine ob_q rfl rfl ⟨_, fun X Q h => o_load1 (v := .slice K ys.length c) rfl rfl (g_end (h _ _ ⟨rfl, rfl⟩)), ?_⟩
    refine ob_q rfl rfl ⟨_, fun X Q h => o_loadN (v := s.val) rfl rfl rfl (g_end (h _ _ ⟨rfl, rfl⟩)), ?_⟩
    refine ob_l rfl rfl fun Qz hz => o_callp (Put04_spec K ys.length c (ys.map PgSI.k) s hkl hc (by omega)) rfl rfl ?_
    rintro _ _ ⟨i, T, e, l', hpos, hl', hle, rfl, rfl⟩
    refine g_end (hz _ _ ⟨_, ob_fin, ?_⟩)
    clear hz Qz
    refine ob_q rfl rfl ⟨_, fun X Q h => o_assign (g_end (h _ _ ⟨rfl, rfl⟩)), ?_⟩
    refine ob_nil ?_
    have hne : (ys.map PgSI.k)[i]? ≠ some s := fun h => by
      obtain ⟨z, hz, hzk⟩ := List.mem_map.1 (List.mem_of_getElem? h)
      exact hr z hz hzk
    rw [if_neg hne] at hl'
    have hf := find_of_pos (v := v) hs hpos hr
    have hil : i ≤ ys.length := hf.1
    have hll : l'.length = ys.length + 1 := by rw [hl']; simp; omega
    generalize hV : (ys.map PgSI.v).take i ++ v :: (ys.map PgSI.v).drop i = vals
    have hVl : vals.length = ys.length + 1 := by rw [← hV]; simp; omega
    have gl : ∀ j, l'[j]? = if j < i then (ys.map PgSI.k)[j]? else if j = i then some s else (ys.map PgSI.k)[j - 1]? := fun j => by rw [hl']; exact get_ins (by omega) j
    have gv : ∀ j, vals[j]? = if j < i then (ys.map PgSI.v)[j]? else if j = i then some v else (ys.map PgSI.v)[j - 1]? := fun j => by rw [← hV]; exact get_ins (by omega) j
    repeat (first | refine g_endt ?_ | refine g_end ?_ | refine g_then ?_ | refine g_in_normal ?_ | refine g_then_ret ?_ | refine g_in_ret ?_ | refine g_then_exit ?_ | refine g_in_exit rfl ?_ | refine g_in_exit_ne (by decide) ?_ | refine g_seq ?_ | refine g_region ?_ | refine g_block ?_ | refine g_ret ?_ | refine g_return_n ?_ | refine g_exit ?_ | refine g_skip ?_)
    refine o_assign ?_
    refine g_endt ?_
    repeat (first | refine g_endt ?_ | refine g_end ?_ | refine g_then ?_ | refine g_in_normal ?_ | refine g_then_ret ?_ | refine g_in_ret ?_ | refine g_then_exit ?_ | refine g_in_exit rfl ?_ | refine g_in_exit_ne (by decide) ?_ | refine g_seq ?_ | refine g_region ?_ | refine g_block ?_ | refine g_ret ?_ | refine g_return_n ?_ | refine g_exit ?_ | refine g_skip ?_)
    refine o_assign ?_
    refine g_endt ?_
    repeat (first | refine g_endt ?_ | refine g_end ?_ | refine g_then ?_ | refine g_in_normal ?_ | refine g_then_ret ?_ | refine g_in_ret ?_ | refine g_then_exit ?_ | refine g_in_exit rfl ?_ | refine g_in_exit_ne (by decide) ?_ | refine g_seq ?_ | refine g_region ?_ | refine g_block ?_ | refine g_ret ?_ | refine g_return_n ?_ | refine g_exit ?_ | refine g_skip ?_)
    refine o_assign ?_
    refine g_endt ?_
    refine G.nil_slice 3 encI 1 ?_
    repeat (first | refine g_endt ?_ | refine g_end ?_ | refine g_then ?_ | refine g_in_normal ?_ | refine g_then_ret ?_ | refine g_in_ret ?_ | refine g_then_exit ?_ | refine g_in_exit rfl ?_ | refine g_in_exit_ne (by decide) ?_ | refine g_seq ?_ | refine g_region ?_ | refine g_block ?_ | refine g_ret ?_ | refine g_return_n ?_ | refine g_exit ?_ | refine g_skip ?_)
    refine g_loop (σ := {t : Nat × Option Addr × Nat // t.1 ≤ ys.length + 1})
      (S := fun t => [(0, .pointer (some ⟨p, 0, none⟩)), (2, .int .i64 v), (4, .pointer (some ⟨q, 0, none⟩)), (7, .slice T l'.length e), (8, .slice t.1.2.1 t.1.1 t.1.2.2), (9, .int .i64 ((if t.1.1 ≤ i then t.1.1 else t.1.1 - 1 : Nat) : Int)), (10, .int .i64 (t.1.1 : Int))])
      (H := fun t => [osl 3 encI 1 t.1.2.1 t.1.2.2 (vals.take t.1.1), cellsB p #[.slice K ys.length c, .slice V ys.length d] 48, cellsB q s.val.cells 27, psl encS 3 T l', osl 3 encI 1 V d (ys.map PgSI.v)])
      (μ := fun t => ys.length + 1 - t.1.1) (s0 := ⟨(0, none, 0), Nat.zero_le _⟩) (Sat.mem ⟨rfl, rfl, rfl, rfl, rfl, by simp; rfl, rfl, trivial⟩) (t := by simp only [List.take_zero]; infer_instance) ?_
    rintro ⟨⟨j, W, wc⟩, hj⟩ ρ'
    dsimp only at hj ⊢
    have htl : (vals.take j).length = j := by simp; omega
    repeat (first | refine g_endt ?_ | refine g_end ?_ | refine g_then ?_ | refine g_in_normal ?_ | refine g_then_ret ?_ | refine g_in_ret ?_ | refine g_then_exit ?_ | refine g_in_exit rfl ?_ | refine g_in_exit_ne (by decide) ?_ | refine g_seq ?_ | refine g_region ?_ | refine g_block ?_ | refine g_ret ?_ | refine g_return_n ?_ | refine g_exit ?_ | refine g_skip ?_)
    refine o_move ?_
    refine o_move ?_
    refine o_len rfl rfl ?_
    refine o_lss rfl rfl ?_
    first | refine g_endt ?_ | refine g_end ?_
    by_cases h : j < ys.length + 1
    · first | refine g_seq (g_cond_t rfl (by simp; omega) ?_) | refine g_cond_t rfl (by simp; omega) ?_
      have hjl : j < l'.length := by omega
      obtain ⟨z, hz⟩ : ∃ z, l'[j]? = some z := ⟨_, List.getElem?_eq_getElem hjl⟩
      obtain ⟨u, hu⟩ : ∃ u, vals[j]? = some u := ⟨_, List.getElem?_eq_getElem (by omega)⟩
      have hsn := take_snoc vals j u hu
      have hzs : z.beq s = decide (j = i) := by
        by_cases hji : j = i
        · subst hji
          have := gl j
          rw [hz, if_neg (by omega), if_pos rfl] at this
          cases this
          rw [SymD.beq_self]; simp
        · rw [decide_eq_false hji]
          cases hb : z.beq s with
          | false => rfl
          | true =>
            exfalso
            have hzs := (SymD.beq_iff z s).1 hb
            have h5 := gl j
            rw [hz] at h5
            have h6 : ∃ m : Nat, (ys.map PgSI.k)[m]? = some z := by
              by_cases hlt : j < i
              · rw [if_pos hlt] at h5; exact ⟨j, h5.symm⟩
              · rw [if_neg hlt, if_neg hji] at h5; exact ⟨j - 1, h5.symm⟩
            obtain ⟨m, hm⟩ := h6
            obtain ⟨w, hw, hwk⟩ := List.mem_map.1 (List.mem_of_getElem? hm)
            exact hr w hw (hwk.trans hzs)
      repeat (first | refine g_endt ?_ | refine g_end ?_ | refine g_then ?_ | refine g_in_normal ?_ | refine g_then_ret ?_ | refine g_in_ret ?_ | refine g_then_exit ?_ | refine g_in_exit rfl ?_ | refine g_in_exit_ne (by decide) ?_ | refine g_seq ?_ | refine g_region ?_ | refine g_block ?_ | refine g_ret ?_ | refine g_return_n ?_ | refine g_exit ?_ | refine g_skip ?_)
      refine g_draw [] [0,1,2,3,4,5] [psl encS 3 T l', cellsB q s.val.cells 27] mixed rfl ?_
      refine ob_q rfl rfl ⟨_, fun X Q h => o_move (g_end (h _ _ ⟨rfl, rfl⟩)), ?_⟩
      refine ob_q rfl rfl ⟨_, fun X Q h => o_move (g_end (h _ _ ⟨rfl, rfl⟩)), ?_⟩
      refine ob_q rfl rfl ⟨_, fun X Q h => o_indexR (ys := l') (i := j) rfl rfl rfl hjl rfl rfl (g_end (h _ _ ⟨rfl, rfl⟩)), ?_⟩
      refine ob_q rfl rfl ⟨_, fun X Q h => o_loadE (ys := l') rfl rfl hz (g_end (h _ _ ⟨rfl, rfl⟩)), ?_⟩
      refine ob_q rfl rfl ⟨_, fun X Q h => o_loadN (v := s.val) rfl rfl rfl (g_end (h _ _ ⟨rfl, rfl⟩)), ?_⟩
      refine ob_q rfl rfl ⟨_, fun X Q h => o_eqty rfl rfl (eq_sym z s) (g_end (h _ _ ⟨rfl, rfl⟩)), ?_⟩
      refine ob_nil ?_
      rw [hzs]
      by_cases hji : j = i
      · first | refine g_seq (g_cond_t rfl (by simpa using hji) ?_) | refine g_cond_t rfl (by simpa using hji) ?_
        have hue : u = v := by
          have := gv j
          rw [hu, if_neg (by omega), if_pos hji] at this
          cases this; rfl
        repeat (first | refine g_endt ?_ | refine g_end ?_ | refine g_then ?_ | refine g_in_normal ?_ | refine g_then_ret ?_ | refine g_in_ret ?_ | refine g_then_exit ?_ | refine g_in_exit rfl ?_ | refine g_in_exit_ne (by decide) ?_ | refine g_seq ?_ | refine g_region ?_ | refine g_block ?_ | refine g_ret ?_ | refine g_return_n ?_ | refine g_exit ?_ | refine g_skip ?_)
        refine o_move ?_
        refine o_move ?_
        refine o_slice_lit (e := 3) #[.int .i64 v] (fun w => by kernel_rfl) fun g => ?_
        refine G.lit_slice (enc := encI) (sz := 1) [v] rfl (by simp [maxLen]) ?_
        refine G.freeze_slice ?_
        refine o_append (xs := vals.take j) (ys := [v]) (by rw [htl]; rfl) rfl rfl rfl rfl (fun _ => .inr trivial) (by simp [maxLen]; omega) (by simp; omega) fun W2 c2 => ?_
        refine o_assign ?_
        first | refine g_endt ?_ | refine g_end ?_
        rw [← hue, ← hsn]
        repeat (first | refine g_endt ?_ | refine g_end ?_ | refine g_then ?_ | refine g_in_normal ?_ | refine g_then_ret ?_ | refine g_in_ret ?_ | refine g_then_exit ?_ | refine g_in_exit rfl ?_ | refine g_in_exit_ne (by decide) ?_ | refine g_seq ?_ | refine g_region ?_ | refine g_block ?_ | refine g_ret ?_ | refine g_return_n ?_ | refine g_exit ?_ | refine g_skip ?_)
        refine o_move ?_
        refine o_add (c := ((j + 1 : Nat) : Int)) rfl rfl (by omega) (by omega) (by omega) ?_
        refine o_assign ?_
        first | refine g_endt ?_ | refine g_end ?_
        repeat (first | refine g_endt ?_ | refine g_end ?_ | refine g_then ?_ | refine g_in_normal ?_ | refine g_then_ret ?_ | refine g_in_ret ?_ | refine g_then_exit ?_ | refine g_in_exit rfl ?_ | refine g_in_exit_ne (by decide) ?_ | refine g_seq ?_ | refine g_region ?_ | refine g_block ?_ | refine g_ret ?_ | refine g_return_n ?_ | refine g_exit ?_ | refine g_skip ?_)
        exact g_meets ⟨(j + 1, W2, c2), h⟩ (by show ys.length + 1 - (j + 1) < ys.length + 1 - j; omega) (Sat.mem ⟨rfl, rfl, rfl, rfl, (show Value.slice W2 ((vals.take j).length + 1) c2 = Value.slice W2 (j + 1) c2 by rw [htl]), (show Value.int .i64 ((if j ≤ i then j else j - 1 : Nat) : Int) = Value.int .i64 ((if j + 1 ≤ i then j + 1 else j + 1 - 1 : Nat) : Int) by rw [if_pos (by omega), if_neg (by omega)]; simp), rfl, trivial⟩)
      · first | refine g_seq (g_cond_f rfl (by simpa using hji) ?_) | refine g_cond_f rfl (by simpa using hji) ?_
        generalize ht9 : (if j ≤ i then j else j - 1) = t9
        have hu9 : (ys.map PgSI.v)[t9]? = some u := by
          have := gv j
          rw [hu] at this
          by_cases hlt : j < i
          · rw [if_pos hlt] at this
            rw [← ht9, if_pos (by omega)]; exact this.symm
          · rw [if_neg hlt, if_neg hji] at this
            rw [← ht9, if_neg (by omega)]; exact this.symm
        have h9l : t9 < (ys.map PgSI.v).length := (List.getElem?_eq_some_iff.1 hu9).1
        repeat (first | refine g_endt ?_ | refine g_end ?_ | refine g_then ?_ | refine g_in_normal ?_ | refine g_then_ret ?_ | refine g_in_ret ?_ | refine g_then_exit ?_ | refine g_in_exit rfl ?_ | refine g_in_exit_ne (by decide) ?_ | refine g_seq ?_ | refine g_region ?_ | refine g_block ?_ | refine g_ret ?_ | refine g_return_n ?_ | refine g_exit ?_ | refine g_skip ?_)
        refine o_move ?_
        refine o_move ?_
        refine o_nil rfl ?_
        refine o_field rfl ?_
        refine o_load1 (v := .slice V ys.length d) rfl rfl ?_
        refine o_move ?_
        refine G.bring [osl 3 encI 1 V d (ys.map PgSI.v)] ?_
        refine o_indexR (ys := ys.map PgSI.v) (i := t9) rfl rfl rfl h9l hvl rfl ?_
        refine o_loadE0 (ys := ys.map PgSI.v) (v := .int .i64 u) rfl hu9 rfl ?_
        refine o_slice_lit (e := 3) #[.int .i64 u] (fun w => by kernel_rfl) fun g => ?_
        refine G.lit_slice (enc := encI) (sz := 1) [u] rfl (by simp [maxLen]) ?_
        refine G.freeze_slice ?_
        refine o_append (xs := vals.take j) (ys := [u]) (by rw [htl]; rfl) rfl rfl rfl rfl (fun _ => .inr trivial) (by simp [maxLen]; omega) (by simp; omega) fun W2 c2 => ?_
        refine o_assign ?_
        first | refine g_endt ?_ | refine g_end ?_
        rw [← hsn]
        repeat (first | refine g_endt ?_ | refine g_end ?_ | refine g_then ?_ | refine g_in_normal ?_ | refine g_then_ret ?_ | refine g_in_ret ?_ | refine g_then_exit ?_ | refine g_in_exit rfl ?_ | refine g_in_exit_ne (by decide) ?_ | refine g_seq ?_ | refine g_region ?_ | refine g_block ?_ | refine g_ret ?_ | refine g_return_n ?_ | refine g_exit ?_ | refine g_skip ?_)
        refine o_move ?_
        refine o_add (c := ((t9 + 1 : Nat) : Int)) rfl rfl (by omega) (by omega) (by omega) ?_
        refine o_assign ?_
        first | refine g_endt ?_ | refine g_end ?_
        repeat (first | refine g_endt ?_ | refine g_end ?_ | refine g_then ?_ | refine g_in_normal ?_ | refine g_then_ret ?_ | refine g_in_ret ?_ | refine g_then_exit ?_ | refine g_in_exit rfl ?_ | refine g_in_exit_ne (by decide) ?_ | refine g_seq ?_ | refine g_region ?_ | refine g_block ?_ | refine g_ret ?_ | refine g_return_n ?_ | refine g_exit ?_ | refine g_skip ?_)
        refine o_move ?_
        refine o_add (c := ((j + 1 : Nat) : Int)) rfl rfl (by omega) (by omega) (by omega) ?_
        refine o_assign ?_
        first | refine g_endt ?_ | refine g_end ?_
        repeat (first | refine g_endt ?_ | refine g_end ?_ | refine g_then ?_ | refine g_in_normal ?_ | refine g_then_ret ?_ | refine g_in_ret ?_ | refine g_then_exit ?_ | refine g_in_exit rfl ?_ | refine g_in_exit_ne (by decide) ?_ | refine g_seq ?_ | refine g_region ?_ | refine g_block ?_ | refine g_ret ?_ | refine g_return_n ?_ | refine g_exit ?_ | refine g_skip ?_)
        exact g_meets ⟨(j + 1, W2, c2), h⟩ (by show ys.length + 1 - (j + 1) < ys.length + 1 - j; omega) (Sat.mem ⟨rfl, rfl, rfl, rfl, (show Value.slice W2 ((vals.take j).length + 1) c2 = Value.slice W2 (j + 1) c2 by rw [htl]), (show Value.int .i64 ((t9 + 1 : Nat) : Int) = Value.int .i64 ((if j + 1 ≤ i then j + 1 else j + 1 - 1 : Nat) : Int) by
          have e9 : t9 + 1 = (if j + 1 ≤ i then j + 1 else j + 1 - 1) := by
            rw [← ht9]
            by_cases hlt : j < i
            · rw [if_pos (by omega), if_pos (by omega)]
            · rw [if_neg (by omega), if_neg (by omega)]; omega
          rw [e9]), rfl, trivial⟩)
    · first | refine g_seq (g_cond_f rfl (by simp; omega) ?_) | refine g_cond_f rfl (by simp; omega) ?_
      have ej : j = ys.length + 1 := by omega
      subst ej
      rw [List.take_of_length_le (by omega)]
      repeat (first | refine g_endt ?_ | refine g_end ?_ | refine g_then ?_ | refine g_in_normal ?_ | refine g_then_ret ?_ | refine g_in_ret ?_ | refine g_then_exit ?_ | refine g_in_exit rfl ?_ | refine g_in_exit_ne (by decide) ?_ | refine g_seq ?_ | refine g_region ?_ | refine g_block ?_ | refine g_ret ?_ | refine g_return_n ?_ | refine g_exit ?_ | refine g_skip ?_)
      refine o_move ?_
      refine o_move ?_
      refine o_move ?_
      refine o_move ?_
      refine o_nil rfl ?_
      refine o_field rfl ?_
      refine o_store (v := .slice T l'.length e) rfl rfl rfl rfl rfl ?_
      refine o_nil rfl ?_
      refine o_field rfl ?_
      refine o_store (v := .slice W (ys.length + 1) wc) rfl rfl rfl rfl rfl ?_
      first | refine g_endt ?_ | refine g_end ?_
      refine G.norm p #[.slice T (ys.length + 1) e, .slice W (ys.length + 1) wc] (by rw [hll]; rfl) ?_
      have ek : l' = (putLSI ys s v i false).map PgSI.k := by
        rw [hl']
        show _ = (ys.take i ++ ⟨s, v⟩ :: ys.drop i).map PgSI.k
        simp [List.map_take, List.map_drop]
      have ev' : vals = (putLSI ys s v i false).map PgSI.v := by
        rw [← hV]
        show _ = (ys.take i ++ ⟨s, v⟩ :: ys.drop i).map PgSI.v
        simp [List.map_take, List.map_drop]
      have hpl : (putLSI ys s v i false).length = ys.length + 1 := by
        show (ys.take i ++ ⟨s, v⟩ :: ys.drop i).length = _
        simp; omega
      rw [hll] at hle
      rw [ek, ev']
      refine shutPl p (putLSI ys s v i false) T W e wc hpl hle ?_
      repeat (first | refine g_endt ?_ | refine g_end ?_ | refine g_then ?_ | refine g_in_normal ?_ | refine g_then_ret ?_ | refine g_in_ret ?_ | refine g_then_exit ?_ | refine g_in_exit rfl ?_ | refine g_in_exit_ne (by decide) ?_ | refine g_seq ?_ | refine g_region ?_ | refine g_block ?_ | refine g_ret ?_ | refine g_return_n ?_ | refine g_exit ?_ | refine g_skip ?_)
      exact ret0 (K := [PlA p (putLSI ys s v i false)]) rfl ⟨i, false, rfl, hf⟩
end Go.Proofs.Ytlognaddmbolgaa
