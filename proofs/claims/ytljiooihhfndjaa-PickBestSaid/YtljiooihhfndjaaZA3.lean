/- Parts of a proof, in order. -/
import Derived.Test.YtljiooihhfndjaaZA2
import Derived.Laws.Strings

set_option linter.unusedSimpArgs false
set_option linter.unusedVariables false
/- Literals that stay, and other short cuts. Plain library, no program in sight. -/
namespace Go.Sl
open Go Go.Proofs Go.RowKit

section
variable {w0 : World} {A : SProp} {L : List SProp} {ro : Option Nat} {P : Program} {Q : Exit → Act → World → Prop} {all : Array Oper} {os : List Oper} {n : Nat} {ρ : Nat → Value} {ds : List Nat}
variable {d : Option Tmp} {ty : TypeId} {pos : String} {af : Array Edge} {x y : Operand}
variable {α : Type} {enc : α → List Value} {sz : Nat} {xs : List α} {S : Option Addr}
/-- A truth value moved: both ways are walked. -/
theorem o_moveB {x : Operand} {b : Bool} (hx : ev n ρ x = .bool b) (h1 : b = true → G w0 A L (fun w => runL ro P all Q os (act n (updo ρ d (.bool true)) ds) w)) (h0 : b = false → G w0 A L (fun w => runL ro P all Q os (act n (updo ρ d (.bool false)) ds) w)) :
    G w0 A L (fun w => runL ro P all Q ({ dst := d, op := .move x, type := ty, pos := pos, after := af, guard := none } :: os) (act n ρ ds) w) :=
  o_move (by
    rw [hx]
    cases b with
    | true => exact h1 rfl
    | false => exact h0 rfl)
theorem o_slen {t : TypeId} {tys : Array TypeId} {s : ByteArray} (hx : ev n ρ x = .string s) (ht : tys = #[t]) (hu : P.underlying t = some .string)
    (h : G w0 A L (fun w => runL ro P all Q os (act n (updo ρ d (.int .i64 (s.size : Int))) ds) w)) :
    G w0 A L (fun w => runL ro P all Q ({ dst := d, op := .call { callee := .builtin .len, args := #[x], argTypes := tys }, type := ty, pos := pos, after := af, guard := none } :: os) (act n ρ ds) w) :=
  o_val rfl (by intro c e; cases e) (fun w _ _ => by
    subst ht
    simp only [execOp, resolve, List.map_toArray, List.map_cons, List.map_nil, hx]
    simp [invoke, builtin, Builtin.len_, run_underlying hu, goInt]) h
/-- A text's byte. -/
def byteN (s : ByteArray) (i : Nat) : Nat := if h : i < s.size then (s[i]'h).toNat else 0
theorem o_sindex {t : TypeId} {s : ByteArray} {kd : IntKind} {m : Int} {i : Nat} (hx : ev n ρ x = .string s) (hy : ev n ρ y = .int kd m) (hm : m = (i : Int)) (hi : i < s.size) (hu : P.underlying t = some .string)
    (h : G w0 A L (fun w => runL ro P all Q os (act n (updo ρ d (.int .u8 (byteN s i : Int))) ds) w)) :
    G w0 A L (fun w => runL ro P all Q ({ dst := d, op := .index t x y, type := ty, pos := pos, after := af, guard := none } :: os) (act n ρ ds) w) :=
  o_val rfl (by intro c e; cases e) (fun w _ _ => by
    subst hm
    simp only [execOp]
    refine run_v ?_
    rw [hx, hy, run_index_string w t s kd _ hu, dif_pos ⟨by omega, by omega⟩]
    simp [byteN, hi]) h
/-- A literal that stays as it is. -/
theorem o_litP {t e : TypeId} {len : Nat} {parts : Array (Nat × Operand)} (enc : α → List Value) (xs : List α) (cs : Array Value) (hr : ∀ w, (Instr.buildSlice t len (parts.map fun (i, x) => (i, ev n ρ x))).run P w = .ok (.slice (some ⟨w.heap.size, 0, none⟩) len len) (w.alloc (.cells cs e)))
    [en : EncLen enc sz] (hcs : cs.toList = xs.flatMap enc) (hm : xs.length ≤ maxLen)
    (h : ∀ b, G w0 A (psl enc sz (some ⟨b, 0, none⟩) xs :: L) (fun w => runL ro P all Q os (act n (updo ρ d (.slice (some ⟨b, 0, none⟩) len len)) ds) w)) :
    G w0 A L (fun w => runL ro P all Q ({ dst := d, op := .buildSlice t len parts, type := ty, pos := pos, after := af, guard := none } :: os) (act n ρ ds) w) :=
  o_slice_lit (e := e) cs hr fun b => G.lit_slice (enc := enc) (sz := sz) xs hcs hm (G.freeze_slice (h b))
/-- A floating literal: what is said of it. -/
theorem fl_lit {t e : TypeId} {len : Nat} {parts : Array (Nat × Operand)} (enc : α → List Value) (xs : List α) (cs : Array Value) (hr : ∀ w, (Instr.buildSlice t len (parts.map fun (i, x) => (i, ev n ρ x))).run P w = .ok (.slice (some ⟨w.heap.size, 0, none⟩) len len) (w.alloc (.cells cs e)))
    [en : EncLen enc sz] (hcs : cs.toList = xs.flatMap enc) (hm : xs.length ≤ maxLen) {Lq : List SProp} (X : List SProp) :
    OStep w0 A ro P all n ds ρ (Lq ++ X) { dst := d, op := .buildSlice t len parts, type := ty, pos := pos, after := af, guard := none }
      (fun v M => ∃ M', Ent (sl M) (sl (Lq ++ (X ++ M'))) ∧ ∃ b, v = .slice (some ⟨b, 0, none⟩) len len ∧ M' = [psl enc sz (some ⟨b, 0, none⟩) xs]) := fun Q h =>
  o_litP enc xs cs hr hcs hm fun b => g_end (h _ _ ⟨[psl enc sz (some ⟨b, 0, none⟩) xs], sl_perm (by
    rw [← List.append_assoc]
    exact List.perm_append_comm (l₁ := [psl enc sz (some ⟨b, 0, none⟩) xs]) (l₂ := Lq ++ X)), b, rfl, rfl⟩)
/-- An owned row, given up, with what is known of its room. -/
theorem G.frzc {e : TypeId} [en : EncLen enc sz] {c : Nat} {Φ : World → Prop} (h : xs.length ≤ c → G w0 A (psl enc sz S xs :: L) Φ) : G w0 A ([osl e enc sz S c xs] ++ L) Φ :=
  fun w hw hh => G.freeze_slice (e := e) (c := c) (h (osl_room (e := e) (hh.ent (Ent.swap _ _ _)))) w hw hh
end
/-- From less a state. -/
theorem Yields.pre {P : Program} {l : Nat} {vs : List Value} {M0 M M' Mx : List SProp} (h : Yields P l vs M M' Mx) (e : Ent (sl M0) (sl M)) : Yields P l vs M0 M' Mx := fun w F hh => h w F (hh.ent ((Ent.refl F).star e))
/-- Told otherwise. -/
theorem Iter.map {P : Program} {gf : FuncId} {lb : List Value} {α β : Type} {enc : α → List Value} {enc2 : β → List Value} (g : α → β) (he : ∀ x, enc x = enc2 (g x)) {xs : List α} {J0 : List SProp} (h : Iter P gf lb enc xs J0) : Iter P gf lb enc2 (xs.map g) J0 := fun l J Jx hJ hy => by
  refine (h l (fun pre => J (pre.map g)) (fun pre => Jx (pre.map g)) hJ fun pre x hp => ?_).mono fun v L' hR => ?_
  · have := hy (pre.map g) (g x) (by obtain ⟨t, ht⟩ := hp; exact ⟨t.map g, by rw [← ht]; simp⟩)
    rw [he]
    simpa using this
  · rcases hR with h1 | ⟨pre, ⟨t, ht⟩, h1⟩
    · exact .inl h1
    · exact .inr ⟨pre.map g, ⟨t.map g, by rw [← ht]; simp⟩, h1⟩
end Go.Sl
/- An ordered set less another one, for one type of members. -/
namespace Go.Proofs.Ytljiooihhfndjaa
open Go Go.Sl
attribute [local irreducible] Code.wpIn roundPost bodyPostM runL Ret Meets Begin

/-- A set of its own, its list owned. -/
def OwnSS (p : Nat) (ys : List SymD) : SProp := ex fun r : Option Addr × Nat => sl [cellsB p #[.slice r.1 ys.length r.2, .bool false] 80, osl 26 SymD.enc 3 r.1 r.2 ys]
section
variable {w0 : World} {A : SProp} {L M : List SProp} {Φ : World → Prop}
theorem openOSS (p : Nat) (ys : List SymD) [tk : Take1 L (OwnSS p ys) M] (h : ∀ S c, G w0 A (cellsB p #[.slice S ys.length c, .bool false] 80 :: osl 26 SymD.enc 3 S c ys :: M) Φ) : G w0 A L Φ :=
  G.perm tk.perm (G.ex fun ⟨S, c⟩ => G.open_sl (h S c))
theorem shutOSS (p : Nat) (ys : List SymD) (S : Option Addr) (c : Nat) {n : Nat} (hn : ys.length = n) [tk : Take L [cellsB p #[.slice S n c, .bool false] 80, osl 26 SymD.enc 3 S c ys] M] (h : G w0 A (OwnSS p ys :: M) Φ) : G w0 A L Φ := by
  subst hn
  exact G.perm tk.perm (G.ent ((sl_append_to _ M).trans (Ent.star (show Ent _ (OwnSS p ys) from fun _ _ x => ⟨(S, c), x⟩) (Ent.refl _))) h)
end
theorem LessSS_spec (p q : Nat) (ys zs : List SymD) (hz : Srt SymD.cmp zs) (hl : ys.length ≤ 100000) (hl2 : zs.length ≤ 100000) : Ctr Try.prog 37 [.pointer (some ⟨p, 0, none⟩), .pointer (some ⟨q, 0, none⟩)] [SetASS p ys, SetASS q zs]
    (fun v M => ∃ r, v = .pointer (some ⟨r, 0, none⟩) ∧ M = [SetASS r (ys.filter fun y => !hasC SymD.cmp zs y), SetASS p ys, SetASS q zs]) := by
  refine spec_of Try.func37 rfl Try.ntmps37 rfl fun w0 F => ?_
  -- ponder/order.Less[ponder/api.Sym]
  repeat (first | refine g_endt ?_ | refine g_end ?_ | refine g_then ?_ | refine g_in_normal ?_ | refine g_then_ret ?_ | refine g_in_ret ?_ | refine g_then_exit ?_ | refine g_in_exit rfl ?_ | refine g_in_exit_ne (by decide) ?_ | refine g_seq ?_ | refine g_region ?_ | refine g_block ?_ | refine g_ret ?_ | refine g_return_n ?_ | refine g_exit ?_ | refine g_skip ?_)
  refine o_boxc #[.pointer (some ⟨q, 0, none⟩)] rfl rfl fun bq => ?_
  refine o_assign ?_
  first | refine g_endt ?_ | refine g_end ?_
  repeat (first | refine g_endt ?_ | refine g_end ?_ | refine g_then ?_ | refine g_in_normal ?_ | refine g_then_ret ?_ | refine g_in_ret ?_ | refine g_then_exit ?_ | refine g_in_exit rfl ?_ | refine g_in_exit_ne (by decide) ?_ | refine g_seq ?_ | refine g_region ?_ | refine g_block ?_ | refine g_ret ?_ | refine g_return_n ?_ | refine g_exit ?_ | refine g_skip ?_)
  refine o_build (.agg #[.slice none 0 0, .bool false]) (fun w => by kernel_rfl) ?_
  refine o_boxc #[.slice none 0 0, .bool false] rfl rfl fun r => ?_
  refine o_alloc fun br => ?_
  refine o_store (v := .pointer (some ⟨r, 0, none⟩)) rfl rfl rfl rfl rfl ?_
  first | refine g_endt ?_ | refine g_end ?_
  refine G.norm br #[.pointer (some ⟨r, 0, none⟩)] rfl ?_
  repeat (first | refine g_endt ?_ | refine g_end ?_ | refine g_then ?_ | refine g_in_normal ?_ | refine g_then_ret ?_ | refine g_in_ret ?_ | refine g_then_exit ?_ | refine g_in_exit rfl ?_ | refine g_in_exit_ne (by decide) ?_ | refine g_seq ?_ | refine g_region ?_ | refine g_block ?_ | refine g_ret ?_ | refine g_return_n ?_ | refine g_exit ?_ | refine g_skip ?_)
  refine o_move ?_
  refine o_call (AllSS_spec p) rfl rfl ?_
  rintro _ _ ⟨b2, rfl, rfl⟩
  first | refine g_endt ?_ | refine g_end ?_
  refine G.nil_slice (α := SymD) 26 SymD.enc 3 ?_
  refine shutOSS r (([] : List SymD).filter fun y => !hasC SymD.cmp zs y) none 0 (n := 0) rfl (tk := (inferInstance : Take _ [cellsB r #[.slice none 0 0, .bool false] 80, osl 26 SymD.enc 3 none 0 []] _)) ?_
  repeat (first | refine g_endt ?_ | refine g_end ?_ | refine g_then ?_ | refine g_in_normal ?_ | refine g_then_ret ?_ | refine g_in_ret ?_ | refine g_then_exit ?_ | refine g_in_exit rfl ?_ | refine g_in_exit_ne (by decide) ?_ | refine g_seq ?_ | refine g_region ?_ | refine g_block ?_ | refine g_ret ?_ | refine g_return_n ?_ | refine g_exit ?_ | refine g_skip ?_)
  refine g_range (ps := [13]) (lb := [.pointer (some ⟨b2, 0, none⟩)]) (enc := SymD.enc') (xs := ys) rfl
    (fun pre => [OwnSS r (pre.filter fun y => !hasC SymD.cmp zs y), SetASS p ys, SetASS q zs, cellsB bq #[.pointer (some ⟨q, 0, none⟩)] 46, cellsB br #[.pointer (some ⟨r, 0, none⟩)] 46, pblk b2 (.cells #[.pointer (some ⟨p, 0, none⟩)] 46 (0, 0))]) (fun _ _ => [pu False])
    (fun K => All1SS_iter p b2 ys (by omega) _) (fun _ => rfl) ?_ ?_ ?_
  · intro w0 F l rr pre x hp
    have hlen : pre.length < ys.length := by
      obtain ⟨t, ht⟩ := hp
      have := congrArg List.length ht
      simp at this
      omega
    have hfl : (pre.filter fun y => !hasC SymD.cmp zs y).length ≤ pre.length := List.length_filter_le _ _
    repeat (first | refine g_endt ?_ | refine g_end ?_ | refine g_then ?_ | refine g_in_normal ?_ | refine g_then_ret ?_ | refine g_in_ret ?_ | refine g_then_exit ?_ | refine g_in_exit rfl ?_ | refine g_in_exit_ne (by decide) ?_ | refine g_seq ?_ | refine g_region ?_ | refine g_block ?_ | refine g_ret ?_ | refine g_return_n ?_ | refine g_exit ?_ | refine g_skip ?_)
    refine o_alloc fun c => ?_
    refine o_store (v := x.val) rfl rfl rfl rfl rfl ?_
    first | refine g_endt ?_ | refine g_end ?_
    refine G.norm c x.val.cells rfl ?_
    repeat (first | refine g_endt ?_ | refine g_end ?_ | refine g_then ?_ | refine g_in_normal ?_ | refine g_then_ret ?_ | refine g_in_ret ?_ | refine g_then_exit ?_ | refine g_in_exit rfl ?_ | refine g_in_exit_ne (by decide) ?_ | refine g_seq ?_ | refine g_region ?_ | refine g_block ?_ | refine g_ret ?_ | refine g_return_n ?_ | refine g_exit ?_ | refine g_skip ?_)
    refine g_begin ?_
    repeat (first | refine g_endt ?_ | refine g_end ?_ | refine g_then ?_ | refine g_in_normal ?_ | refine g_then_ret ?_ | refine g_in_ret ?_ | refine g_then_exit ?_ | refine g_in_exit rfl ?_ | refine g_in_exit_ne (by decide) ?_ | refine g_seq ?_ | refine g_region ?_ | refine g_block ?_ | refine g_ret ?_ | refine g_return_n ?_ | refine g_exit ?_ | refine g_skip ?_)
    first | refine o_load1 rfl rfl ?_ | refine o_loadE0 rfl (by assumption) rfl ?_ | refine o_loadE1 rfl (by assumption) rfl ?_
    refine o_loadN (v := x.val) rfl rfl rfl ?_
    refine o_call (PlaceSS_spec q zs x hz (by omega)) rfl rfl ?_
    rintro _ _ ⟨k, there, rfl, rfl, hk⟩
    refine o_move ?_
    refine o_extract rfl rfl ?_
    refine o_extract rfl rfl ?_
    refine o_assign ?_
    refine o_assign ?_
    first | refine g_endt ?_ | refine g_end ?_
    have hh := hasC_of hk
    repeat (first | refine g_endt ?_ | refine g_end ?_ | refine g_then ?_ | refine g_in_normal ?_ | refine g_then_ret ?_ | refine g_in_ret ?_ | refine g_then_exit ?_ | refine g_in_exit rfl ?_ | refine g_in_exit_ne (by decide) ?_ | refine g_seq ?_ | refine g_region ?_ | refine g_block ?_ | refine g_ret ?_ | refine g_return_n ?_ | refine g_exit ?_ | refine g_skip ?_)
    refine o_move ?_
    refine o_not rfl ?_
    first | refine g_endt ?_ | refine g_end ?_
    cases there with
    | true =>
      first | refine g_seq (g_cond_f rfl (by first | rfl | (simp; done) | (simp; omega) | (simp; assumption)) ?_) | refine g_cond_f rfl (by first | rfl | (simp; done) | (simp; omega) | (simp; assumption)) ?_
      repeat (first | refine g_endt ?_ | refine g_end ?_ | refine g_then ?_ | refine g_in_normal ?_ | refine g_then_ret ?_ | refine g_in_ret ?_ | refine g_then_exit ?_ | refine g_in_exit rfl ?_ | refine g_in_exit_ne (by decide) ?_ | refine g_seq ?_ | refine g_region ?_ | refine g_block ?_ | refine g_ret ?_ | refine g_return_n ?_ | refine g_exit ?_ | refine g_skip ?_)
      have e : (pre ++ [x]).filter (fun y => !hasC SymD.cmp zs y) = pre.filter fun y => !hasC SymD.cmp zs y := by rw [List.filter_append]; simp [hh]
      exact g_next (tk := by rw [e]; infer_instance)
    | false =>
      first | refine g_seq (g_cond_t rfl (by first | rfl | (simp; done) | (simp; omega) | (simp; assumption)) ?_) | refine g_cond_t rfl (by first | rfl | (simp; done) | (simp; omega) | (simp; assumption)) ?_
      have e : (pre ++ [x]).filter (fun y => !hasC SymD.cmp zs y) = pre.filter (fun y => !hasC SymD.cmp zs y) ++ [x] := by rw [List.filter_append]; simp [hh]
      generalize pre.filter (fun y => !hasC SymD.cmp zs y) = us at e hfl ⊢
      refine openOSS r us fun S d => ?_
      repeat (first | refine g_endt ?_ | refine g_end ?_ | refine g_then ?_ | refine g_in_normal ?_ | refine g_then_ret ?_ | refine g_in_ret ?_ | refine g_then_exit ?_ | refine g_in_exit rfl ?_ | refine g_in_exit_ne (by decide) ?_ | refine g_seq ?_ | refine g_region ?_ | refine g_block ?_ | refine g_ret ?_ | refine g_return_n ?_ | refine g_exit ?_ | refine g_skip ?_)
      refine g_draw [6,7,10] [0,1,2,3,4,5,6,7,8,9,10] [cellsB br #[.pointer (some ⟨r, 0, none⟩)] 46, cellsB r #[.slice S us.length d, .bool false] 80, cellsB c x.val.cells 26] mixed rfl ?_
      first | refine ob_q rfl rfl ⟨_, fun X Q h => o_load1 rfl rfl (g_end (h _ _ ⟨rfl, rfl⟩)), ?_⟩ | refine ob_q rfl rfl ⟨_, fun X Q h => o_loadE0 rfl (by assumption) rfl (g_end (h _ _ ⟨rfl, rfl⟩)), ?_⟩ | refine ob_q rfl rfl ⟨_, fun X Q h => o_loadE1 rfl (by assumption) rfl (g_end (h _ _ ⟨rfl, rfl⟩)), ?_⟩
      first | refine ob_q rfl rfl ⟨_, fun X Q h => o_load1 rfl rfl (g_end (h _ _ ⟨rfl, rfl⟩)), ?_⟩ | refine ob_q rfl rfl ⟨_, fun X Q h => o_loadE0 rfl (by assumption) rfl (g_end (h _ _ ⟨rfl, rfl⟩)), ?_⟩ | refine ob_q rfl rfl ⟨_, fun X Q h => o_loadE1 rfl (by assumption) rfl (g_end (h _ _ ⟨rfl, rfl⟩)), ?_⟩
      refine ob_q rfl rfl ⟨_, fun X Q h => o_nil rfl (g_end (h _ _ ⟨rfl, rfl⟩)), ?_⟩
      first | refine ob_q rfl rfl ⟨_, fun X Q h => o_field rfl (g_end (h _ _ ⟨rfl, rfl⟩)), ?_⟩ | refine ob_q rfl rfl ⟨_, fun X Q h => o_fieldR rfl (by omega) (g_end (h _ _ ⟨rfl, rfl⟩)), ?_⟩
      refine ob_q rfl rfl ⟨_, fun X Q h => o_load1 (v := .slice S us.length d) rfl rfl (g_end (h _ _ ⟨rfl, rfl⟩)), ?_⟩
      refine ob_q rfl rfl ⟨_, fun X Q h => o_loadN (v := x.val) rfl rfl rfl (g_end (h _ _ ⟨rfl, rfl⟩)), ?_⟩
      refine ob_l rfl rfl fun Qz hz => o_litP (e := 26) SymD.enc [x] x.val.cells (fun w => by kernel_rfl) (by simp [SymD.enc]) (by simp [maxLen]) fun _ => ?_
      refine g_end (hz _ _ ⟨_, ob_fin, ?_⟩)
      clear hz Qz
      refine ob_l rfl rfl fun Qz hz => o_append (xs := us) (ys := [x]) (by first | rfl | (simp only [List.length_map, List.length_take, List.length_append]; first | rfl | (congr 1; omega))) rfl rfl rfl rfl (fun _ => .inr trivial) (by simp [maxLen]; omega) (by simp; omega) fun S2 d2 => ?_
      refine g_end (hz _ _ ⟨_, ob_fin, ?_⟩)
      clear hz Qz
      refine ob_q rfl rfl ⟨_, fun X Q h => o_nil rfl (g_end (h _ _ ⟨rfl, rfl⟩)), ?_⟩
      first | refine ob_q rfl rfl ⟨_, fun X Q h => o_field rfl (g_end (h _ _ ⟨rfl, rfl⟩)), ?_⟩ | refine ob_q rfl rfl ⟨_, fun X Q h => o_fieldR rfl (by omega) (g_end (h _ _ ⟨rfl, rfl⟩)), ?_⟩
      refine ob_s [cellsB br #[.pointer (some ⟨r, 0, none⟩)] 46] rfl rfl rfl fun Qz hz => o_store (v := .slice S2 (us.length + 1) d2) rfl rfl rfl rfl rfl ?_
      refine g_end (hz _ _ ⟨_, ob_fin, ?_⟩)
      clear hz Qz
      refine ob_nil ?_
      refine G.norm r #[.slice S2 (us.length + 1) d2, .bool false] rfl ?_
      rw [← e]
      refine shutOSS r ((pre ++ [x]).filter fun y => !hasC SymD.cmp zs y) S2 d2 (n := us.length + 1) (by rw [e]; simp) ?_
      repeat (first | refine g_endt ?_ | refine g_end ?_ | refine g_then ?_ | refine g_in_normal ?_ | refine g_then_ret ?_ | refine g_in_ret ?_ | refine g_then_exit ?_ | refine g_in_exit rfl ?_ | refine g_in_exit_ne (by decide) ?_ | refine g_seq ?_ | refine g_region ?_ | refine g_block ?_ | refine g_ret ?_ | refine g_return_n ?_ | refine g_exit ?_ | refine g_skip ?_)
      exact g_next
  · intro D
    refine openOSS r (ys.filter fun y => !hasC SymD.cmp zs y) fun S d => ?_
    refine shutFSS r (ys.filter fun y => !hasC SymD.cmp zs y) S d rfl ?_
    repeat (first | refine g_endt ?_ | refine g_end ?_ | refine g_then ?_ | refine g_in_normal ?_ | refine g_then_ret ?_ | refine g_in_ret ?_ | refine g_then_exit ?_ | refine g_in_exit rfl ?_ | refine g_in_exit_ne (by decide) ?_ | refine g_seq ?_ | refine g_region ?_ | refine g_block ?_ | refine g_ret ?_ | refine g_return_n ?_ | refine g_exit ?_ | refine g_skip ?_)
    refine o_load1 (v := .pointer (some ⟨r, 0, none⟩)) rfl rfl ?_
    refine o_assign ?_
    first | refine g_endt ?_ | refine g_end ?_
    repeat (first | refine g_endt ?_ | refine g_end ?_ | refine g_then ?_ | refine g_in_normal ?_ | refine g_then_ret ?_ | refine g_in_ret ?_ | refine g_then_exit ?_ | refine g_in_exit rfl ?_ | refine g_in_exit_ne (by decide) ?_ | refine g_seq ?_ | refine g_region ?_ | refine g_block ?_ | refine g_ret ?_ | refine g_return_n ?_ | refine g_exit ?_ | refine g_skip ?_)
    exact ret1 rfl (resT rfl) ⟨r, rfl, rfl⟩
  · intro D c pre hp
    exact G.pu fun h => h.elim
end Go.Proofs.Ytljiooihhfndjaa
/- What an ordered set has in common with another one, for one type of members. -/
namespace Go.Proofs.Ytljiooihhfndjaa
open Go Go.Sl
attribute [local irreducible] Code.wpIn roundPost bodyPostM runL Ret Meets Begin

theorem MeetSS_spec (p q : Nat) (ys zs : List SymD) (hz : Srt SymD.cmp zs) (hl : ys.length ≤ 100000) (hl2 : zs.length ≤ 100000) : Ctr Try.prog 36 [.pointer (some ⟨p, 0, none⟩), .pointer (some ⟨q, 0, none⟩)] [SetASS p ys, SetASS q zs]
    (fun v M => ∃ r, v = .pointer (some ⟨r, 0, none⟩) ∧ M = [SetASS r (ys.filter fun y => hasC SymD.cmp zs y), SetASS p ys, SetASS q zs]) := by
  refine spec_of Try.func36 rfl Try.ntmps36 rfl fun w0 F => ?_
  -- ponder/order.Meet[ponder/api.Sym]
  repeat (first | refine g_endt ?_ | refine g_end ?_ | refine g_then ?_ | refine g_in_normal ?_ | refine g_then_ret ?_ | refine g_in_ret ?_ | refine g_then_exit ?_ | refine g_in_exit rfl ?_ | refine g_in_exit_ne (by decide) ?_ | refine g_seq ?_ | refine g_region ?_ | refine g_block ?_ | refine g_ret ?_ | refine g_return_n ?_ | refine g_exit ?_ | refine g_skip ?_)
  refine o_boxc #[.pointer (some ⟨q, 0, none⟩)] rfl rfl fun bq => ?_
  refine o_assign ?_
  first | refine g_endt ?_ | refine g_end ?_
  repeat (first | refine g_endt ?_ | refine g_end ?_ | refine g_then ?_ | refine g_in_normal ?_ | refine g_then_ret ?_ | refine g_in_ret ?_ | refine g_then_exit ?_ | refine g_in_exit rfl ?_ | refine g_in_exit_ne (by decide) ?_ | refine g_seq ?_ | refine g_region ?_ | refine g_block ?_ | refine g_ret ?_ | refine g_return_n ?_ | refine g_exit ?_ | refine g_skip ?_)
  refine o_build (.agg #[.slice none 0 0, .bool false]) (fun w => by kernel_rfl) ?_
  refine o_boxc #[.slice none 0 0, .bool false] rfl rfl fun r => ?_
  refine o_alloc fun br => ?_
  refine o_store (v := .pointer (some ⟨r, 0, none⟩)) rfl rfl rfl rfl rfl ?_
  first | refine g_endt ?_ | refine g_end ?_
  refine G.norm br #[.pointer (some ⟨r, 0, none⟩)] rfl ?_
  repeat (first | refine g_endt ?_ | refine g_end ?_ | refine g_then ?_ | refine g_in_normal ?_ | refine g_then_ret ?_ | refine g_in_ret ?_ | refine g_then_exit ?_ | refine g_in_exit rfl ?_ | refine g_in_exit_ne (by decide) ?_ | refine g_seq ?_ | refine g_region ?_ | refine g_block ?_ | refine g_ret ?_ | refine g_return_n ?_ | refine g_exit ?_ | refine g_skip ?_)
  refine o_move ?_
  refine o_call (AllSS_spec p) rfl rfl ?_
  rintro _ _ ⟨b2, rfl, rfl⟩
  first | refine g_endt ?_ | refine g_end ?_
  refine G.nil_slice (α := SymD) 26 SymD.enc 3 ?_
  refine shutOSS r (([] : List SymD).filter fun y => hasC SymD.cmp zs y) none 0 (n := 0) rfl (tk := (inferInstance : Take _ [cellsB r #[.slice none 0 0, .bool false] 80, osl 26 SymD.enc 3 none 0 []] _)) ?_
  repeat (first | refine g_endt ?_ | refine g_end ?_ | refine g_then ?_ | refine g_in_normal ?_ | refine g_then_ret ?_ | refine g_in_ret ?_ | refine g_then_exit ?_ | refine g_in_exit rfl ?_ | refine g_in_exit_ne (by decide) ?_ | refine g_seq ?_ | refine g_region ?_ | refine g_block ?_ | refine g_ret ?_ | refine g_return_n ?_ | refine g_exit ?_ | refine g_skip ?_)
  refine g_range (ps := [13]) (lb := [.pointer (some ⟨b2, 0, none⟩)]) (enc := SymD.enc') (xs := ys) rfl
    (fun pre => [OwnSS r (pre.filter fun y => hasC SymD.cmp zs y), SetASS p ys, SetASS q zs, cellsB bq #[.pointer (some ⟨q, 0, none⟩)] 46, cellsB br #[.pointer (some ⟨r, 0, none⟩)] 46, pblk b2 (.cells #[.pointer (some ⟨p, 0, none⟩)] 46 (0, 0))]) (fun _ _ => [pu False])
    (fun K => All1SS_iter p b2 ys (by omega) _) (fun _ => rfl) ?_ ?_ ?_
  · intro w0 F l rr pre x hp
    have hlen : pre.length < ys.length := by
      obtain ⟨t, ht⟩ := hp
      have := congrArg List.length ht
      simp at this
      omega
    have hfl : (pre.filter fun y => hasC SymD.cmp zs y).length ≤ pre.length := List.length_filter_le _ _
    repeat (first | refine g_endt ?_ | refine g_end ?_ | refine g_then ?_ | refine g_in_normal ?_ | refine g_then_ret ?_ | refine g_in_ret ?_ | refine g_then_exit ?_ | refine g_in_exit rfl ?_ | refine g_in_exit_ne (by decide) ?_ | refine g_seq ?_ | refine g_region ?_ | refine g_block ?_ | refine g_ret ?_ | refine g_return_n ?_ | refine g_exit ?_ | refine g_skip ?_)
    refine o_alloc fun c => ?_
    refine o_store (v := x.val) rfl rfl rfl rfl rfl ?_
    first | refine g_endt ?_ | refine g_end ?_
    refine G.norm c x.val.cells rfl ?_
    repeat (first | refine g_endt ?_ | refine g_end ?_ | refine g_then ?_ | refine g_in_normal ?_ | refine g_then_ret ?_ | refine g_in_ret ?_ | refine g_then_exit ?_ | refine g_in_exit rfl ?_ | refine g_in_exit_ne (by decide) ?_ | refine g_seq ?_ | refine g_region ?_ | refine g_block ?_ | refine g_ret ?_ | refine g_return_n ?_ | refine g_exit ?_ | refine g_skip ?_)
    refine g_begin ?_
    repeat (first | refine g_endt ?_ | refine g_end ?_ | refine g_then ?_ | refine g_in_normal ?_ | refine g_then_ret ?_ | refine g_in_ret ?_ | refine g_then_exit ?_ | refine g_in_exit rfl ?_ | refine g_in_exit_ne (by decide) ?_ | refine g_seq ?_ | refine g_region ?_ | refine g_block ?_ | refine g_ret ?_ | refine g_return_n ?_ | refine g_exit ?_ | refine g_skip ?_)
    first | refine o_load1 rfl rfl ?_ | refine o_loadE0 rfl (by assumption) rfl ?_ | refine o_loadE1 rfl (by assumption) rfl ?_
    refine o_loadN (v := x.val) rfl rfl rfl ?_
    refine o_call (PlaceSS_spec q zs x hz (by omega)) rfl rfl ?_
    rintro _ _ ⟨k, there, rfl, rfl, hk⟩
    refine o_move ?_
    refine o_extract rfl rfl ?_
    refine o_extract rfl rfl ?_
    refine o_assign ?_
    refine o_assign ?_
    first | refine g_endt ?_ | refine g_end ?_
    have hh := hasC_of hk
    repeat (first | refine g_endt ?_ | refine g_end ?_ | refine g_then ?_ | refine g_in_normal ?_ | refine g_then_ret ?_ | refine g_in_ret ?_ | refine g_then_exit ?_ | refine g_in_exit rfl ?_ | refine g_in_exit_ne (by decide) ?_ | refine g_seq ?_ | refine g_region ?_ | refine g_block ?_ | refine g_ret ?_ | refine g_return_n ?_ | refine g_exit ?_ | refine g_skip ?_)
    refine o_move ?_
    first | refine g_endt ?_ | refine g_end ?_
    cases there with
    | true =>
      first | refine g_seq (g_cond_t rfl (by first | rfl | (simp; done) | (simp; omega) | (simp; assumption)) ?_) | refine g_cond_t rfl (by first | rfl | (simp; done) | (simp; omega) | (simp; assumption)) ?_
      have e : (pre ++ [x]).filter (fun y => hasC SymD.cmp zs y) = pre.filter (fun y => hasC SymD.cmp zs y) ++ [x] := by rw [List.filter_append]; simp [hh]
      generalize pre.filter (fun y => hasC SymD.cmp zs y) = us at e hfl ⊢
      refine openOSS r us fun S d => ?_
      repeat (first | refine g_endt ?_ | refine g_end ?_ | refine g_then ?_ | refine g_in_normal ?_ | refine g_then_ret ?_ | refine g_in_ret ?_ | refine g_then_exit ?_ | refine g_in_exit rfl ?_ | refine g_in_exit_ne (by decide) ?_ | refine g_seq ?_ | refine g_region ?_ | refine g_block ?_ | refine g_ret ?_ | refine g_return_n ?_ | refine g_exit ?_ | refine g_skip ?_)
      refine g_draw [6,7,10] [0,1,2,3,4,5,6,7,8,9,10] [cellsB br #[.pointer (some ⟨r, 0, none⟩)] 46, cellsB r #[.slice S us.length d, .bool false] 80, cellsB c x.val.cells 26] mixed rfl ?_
      first | refine ob_q rfl rfl ⟨_, fun X Q h => o_load1 rfl rfl (g_end (h _ _ ⟨rfl, rfl⟩)), ?_⟩ | refine ob_q rfl rfl ⟨_, fun X Q h => o_loadE0 rfl (by assumption) rfl (g_end (h _ _ ⟨rfl, rfl⟩)), ?_⟩ | refine ob_q rfl rfl ⟨_, fun X Q h => o_loadE1 rfl (by assumption) rfl (g_end (h _ _ ⟨rfl, rfl⟩)), ?_⟩
      first | refine ob_q rfl rfl ⟨_, fun X Q h => o_load1 rfl rfl (g_end (h _ _ ⟨rfl, rfl⟩)), ?_⟩ | refine ob_q rfl rfl ⟨_, fun X Q h => o_loadE0 rfl (by assumption) rfl (g_end (h _ _ ⟨rfl, rfl⟩)), ?_⟩ | refine ob_q rfl rfl ⟨_, fun X Q h => o_loadE1 rfl (by assumption) rfl (g_end (h _ _ ⟨rfl, rfl⟩)), ?_⟩
      refine ob_q rfl rfl ⟨_, fun X Q h => o_nil rfl (g_end (h _ _ ⟨rfl, rfl⟩)), ?_⟩
      first | refine ob_q rfl rfl ⟨_, fun X Q h => o_field rfl (g_end (h _ _ ⟨rfl, rfl⟩)), ?_⟩ | refine ob_q rfl rfl ⟨_, fun X Q h => o_fieldR rfl (by omega) (g_end (h _ _ ⟨rfl, rfl⟩)), ?_⟩
      refine ob_q rfl rfl ⟨_, fun X Q h => o_load1 (v := .slice S us.length d) rfl rfl (g_end (h _ _ ⟨rfl, rfl⟩)), ?_⟩
      refine ob_q rfl rfl ⟨_, fun X Q h => o_loadN (v := x.val) rfl rfl rfl (g_end (h _ _ ⟨rfl, rfl⟩)), ?_⟩
      refine ob_l rfl rfl fun Qz hz => o_litP (e := 26) SymD.enc [x] x.val.cells (fun w => by kernel_rfl) (by simp [SymD.enc]) (by simp [maxLen]) fun _ => ?_
      refine g_end (hz _ _ ⟨_, ob_fin, ?_⟩)
      clear hz Qz
      refine ob_l rfl rfl fun Qz hz => o_append (xs := us) (ys := [x]) (by first | rfl | (simp only [List.length_map, List.length_take, List.length_append]; first | rfl | (congr 1; omega))) rfl rfl rfl rfl (fun _ => .inr trivial) (by simp [maxLen]; omega) (by simp; omega) fun S2 d2 => ?_
      refine g_end (hz _ _ ⟨_, ob_fin, ?_⟩)
      clear hz Qz
      refine ob_q rfl rfl ⟨_, fun X Q h => o_nil rfl (g_end (h _ _ ⟨rfl, rfl⟩)), ?_⟩
      first | refine ob_q rfl rfl ⟨_, fun X Q h => o_field rfl (g_end (h _ _ ⟨rfl, rfl⟩)), ?_⟩ | refine ob_q rfl rfl ⟨_, fun X Q h => o_fieldR rfl (by omega) (g_end (h _ _ ⟨rfl, rfl⟩)), ?_⟩
      refine ob_s [cellsB br #[.pointer (some ⟨r, 0, none⟩)] 46] rfl rfl rfl fun Qz hz => o_store (v := .slice S2 (us.length + 1) d2) rfl rfl rfl rfl rfl ?_
      refine g_end (hz _ _ ⟨_, ob_fin, ?_⟩)
      clear hz Qz
      refine ob_nil ?_
      refine G.norm r #[.slice S2 (us.length + 1) d2, .bool false] rfl ?_
      rw [← e]
      refine shutOSS r ((pre ++ [x]).filter fun y => hasC SymD.cmp zs y) S2 d2 (n := us.length + 1) (by rw [e]; simp) ?_
      repeat (first | refine g_endt ?_ | refine g_end ?_ | refine g_then ?_ | refine g_in_normal ?_ | refine g_then_ret ?_ | refine g_in_ret ?_ | refine g_then_exit ?_ | refine g_in_exit rfl ?_ | refine g_in_exit_ne (by decide) ?_ | refine g_seq ?_ | refine g_region ?_ | refine g_block ?_ | refine g_ret ?_ | refine g_return_n ?_ | refine g_exit ?_ | refine g_skip ?_)
      exact g_next
    | false =>
      first | refine g_seq (g_cond_f rfl (by first | rfl | (simp; done) | (simp; omega) | (simp; assumption)) ?_) | refine g_cond_f rfl (by first | rfl | (simp; done) | (simp; omega) | (simp; assumption)) ?_
      repeat (first | refine g_endt ?_ | refine g_end ?_ | refine g_then ?_ | refine g_in_normal ?_ | refine g_then_ret ?_ | refine g_in_ret ?_ | refine g_then_exit ?_ | refine g_in_exit rfl ?_ | refine g_in_exit_ne (by decide) ?_ | refine g_seq ?_ | refine g_region ?_ | refine g_block ?_ | refine g_ret ?_ | refine g_return_n ?_ | refine g_exit ?_ | refine g_skip ?_)
      have e : (pre ++ [x]).filter (fun y => hasC SymD.cmp zs y) = pre.filter fun y => hasC SymD.cmp zs y := by rw [List.filter_append]; simp [hh]
      exact g_next (tk := by rw [e]; infer_instance)
  · intro D
    refine openOSS r (ys.filter fun y => hasC SymD.cmp zs y) fun S d => ?_
    refine shutFSS r (ys.filter fun y => hasC SymD.cmp zs y) S d rfl ?_
    repeat (first | refine g_endt ?_ | refine g_end ?_ | refine g_then ?_ | refine g_in_normal ?_ | refine g_then_ret ?_ | refine g_in_ret ?_ | refine g_then_exit ?_ | refine g_in_exit rfl ?_ | refine g_in_exit_ne (by decide) ?_ | refine g_seq ?_ | refine g_region ?_ | refine g_block ?_ | refine g_ret ?_ | refine g_return_n ?_ | refine g_exit ?_ | refine g_skip ?_)
    refine o_load1 (v := .pointer (some ⟨r, 0, none⟩)) rfl rfl ?_
    refine o_assign ?_
    first | refine g_endt ?_ | refine g_end ?_
    repeat (first | refine g_endt ?_ | refine g_end ?_ | refine g_then ?_ | refine g_in_normal ?_ | refine g_then_ret ?_ | refine g_in_ret ?_ | refine g_then_exit ?_ | refine g_in_exit rfl ?_ | refine g_in_exit_ne (by decide) ?_ | refine g_seq ?_ | refine g_region ?_ | refine g_block ?_ | refine g_ret ?_ | refine g_return_n ?_ | refine g_exit ?_ | refine g_skip ?_)
    exact ret1 rfl (resT rfl) ⟨r, rfl, rfl⟩
  · intro D c pre hp
    exact G.pu fun h => h.elim
end Go.Proofs.Ytljiooihhfndjaa
/- An ordered set's functions, for one type of members: at a place, how many. -/
namespace Go.Proofs.Ytljiooihhfndjaa
open Go Go.Sl
attribute [local irreducible] Code.wpIn roundPost bodyPostM runL Ret Meets Begin

theorem LenSS_spec (p : Nat) (ys : List SymD) : Ctr Try.prog 23 [.pointer (some ⟨p, 0, none⟩)] [SetASS p ys] (fun v M => v = .int .i64 (ys.length : Int) ∧ M = [SetASS p ys]) := by
  refine spec_of Try.func23 rfl Try.ntmps23 rfl fun w0 F => ?_
  repeat (first | refine g_endt ?_ | refine g_end ?_ | refine g_then ?_ | refine g_in_normal ?_ | refine g_then_ret ?_ | refine g_in_ret ?_ | refine g_then_exit ?_ | refine g_in_exit rfl ?_ | refine g_in_exit_ne (by decide) ?_ | refine g_seq ?_ | refine g_region ?_ | refine g_block ?_ | refine g_ret ?_ | refine g_return_n ?_ | refine g_exit ?_ | refine g_skip ?_)
  refine o_assign ?_
  first | refine g_endt ?_ | refine g_end ?_
  repeat (first | refine g_endt ?_ | refine g_end ?_ | refine g_then ?_ | refine g_in_normal ?_ | refine g_then_ret ?_ | refine g_in_ret ?_ | refine g_then_exit ?_ | refine g_in_exit rfl ?_ | refine g_in_exit_ne (by decide) ?_ | refine g_seq ?_ | refine g_region ?_ | refine g_block ?_ | refine g_ret ?_ | refine g_return_n ?_ | refine g_exit ?_ | refine g_skip ?_)
  refine o_move ?_
  refine o_peql rfl ?_
  first | refine g_endt ?_ | refine g_end ?_
  first | refine g_seq (g_cond_f rfl (rfl) ?_) | refine g_cond_f rfl (rfl) ?_
  repeat (first | refine g_endt ?_ | refine g_end ?_ | refine g_then ?_ | refine g_in_normal ?_ | refine g_then_ret ?_ | refine g_in_ret ?_ | refine g_then_exit ?_ | refine g_in_exit rfl ?_ | refine g_in_exit_ne (by decide) ?_ | refine g_seq ?_ | refine g_region ?_ | refine g_block ?_ | refine g_ret ?_ | refine g_return_n ?_ | refine g_exit ?_ | refine g_skip ?_)
  refine openSS p ys fun S c b => ?_
  refine o_move ?_
  refine o_nil rfl ?_
  refine o_field rfl ?_
  refine o_load1 (v := .slice S ys.length c) rfl rfl ?_
  refine o_len rfl rfl ?_
  refine o_assign ?_
  refine g_endt ?_
  refine shutSS p ys S c b rfl ?_
  repeat (first | refine g_endt ?_ | refine g_end ?_ | refine g_then ?_ | refine g_in_normal ?_ | refine g_then_ret ?_ | refine g_in_ret ?_ | refine g_then_exit ?_ | refine g_in_exit rfl ?_ | refine g_in_exit_ne (by decide) ?_ | refine g_seq ?_ | refine g_region ?_ | refine g_block ?_ | refine g_ret ?_ | refine g_return_n ?_ | refine g_exit ?_ | refine g_skip ?_)
  exact ret1 rfl (resT rfl) ⟨rfl, rfl⟩
end Go.Proofs.Ytljiooihhfndjaa
/- An ordered set's functions, for one type of members: the member at a place. -/
namespace Go.Proofs.Ytljiooihhfndjaa
open Go Go.Sl
attribute [local irreducible] Code.wpIn roundPost bodyPostM runL Ret Meets Begin

theorem AtSS_spec (p i : Nat) (ys : List SymD) : Ctr Try.prog 39 [.pointer (some ⟨p, 0, none⟩), .int .i64 (i : Int)] [SetASS p ys]
    (fun v M => v = .tuple #[(ys[i]?.getD SymD.zero).val, .bool (decide (i < ys.length))] ∧ M = [SetASS p ys]) := by
  refine spec_of Try.func39 rfl Try.ntmps39 rfl fun w0 F => ?_
  repeat (first | refine g_endt ?_ | refine g_end ?_ | refine g_then ?_ | refine g_in_normal ?_ | refine g_then_ret ?_ | refine g_in_ret ?_ | refine g_then_exit ?_ | refine g_in_exit rfl ?_ | refine g_in_exit_ne (by decide) ?_ | refine g_seq ?_ | refine g_region ?_ | refine g_block ?_ | refine g_ret ?_ | refine g_return_n ?_ | refine g_exit ?_ | refine g_skip ?_)
  refine o_alloc fun r => ?_
  refine o_assign ?_
  refine g_endt ?_
  repeat (first | refine g_endt ?_ | refine g_end ?_ | refine g_then ?_ | refine g_in_normal ?_ | refine g_then_ret ?_ | refine g_in_ret ?_ | refine g_then_exit ?_ | refine g_in_exit rfl ?_ | refine g_in_exit_ne (by decide) ?_ | refine g_seq ?_ | refine g_region ?_ | refine g_block ?_ | refine g_ret ?_ | refine g_return_n ?_ | refine g_exit ?_ | refine g_skip ?_)
  refine o_alloc fun z => ?_
  refine g_endt ?_
  repeat (first | refine g_endt ?_ | refine g_end ?_ | refine g_then ?_ | refine g_in_normal ?_ | refine g_then_ret ?_ | refine g_in_ret ?_ | refine g_then_exit ?_ | refine g_in_exit rfl ?_ | refine g_in_exit_ne (by decide) ?_ | refine g_seq ?_ | refine g_region ?_ | refine g_block ?_ | refine g_ret ?_ | refine g_return_n ?_ | refine g_exit ?_ | refine g_skip ?_)
  refine o_move ?_
  refine o_peql rfl ?_
  refine o_move ?_
  refine o_want rfl rfl rfl rfl rfl (o_move ?_)
  refine o_want rfl rfl rfl rfl rfl (o_lss rfl rfl ?_)
  rw [show decide ((i : Int) < 0) = false from decide_eq_false (by omega)]
  refine o_pick_f rfl rfl ?_
  refine o_move ?_
  refine openSS p ys fun S c b => ?_
  refine o_want rfl rfl rfl rfl rfl (o_move ?_)
  refine o_want rfl rfl rfl rfl rfl (o_move ?_)
  refine o_want rfl rfl rfl rfl rfl (o_nil rfl ?_)
  refine o_want rfl rfl rfl rfl rfl (o_field rfl ?_)
  refine o_want rfl rfl rfl rfl rfl (o_load1 (v := .slice S ys.length c) rfl rfl ?_)
  refine o_want rfl rfl rfl rfl rfl (o_len rfl rfl ?_)
  refine o_want rfl rfl rfl rfl rfl (o_geq rfl rfl ?_)
  refine o_pick_f rfl rfl ?_
  refine g_endt ?_
  by_cases h : i < ys.length
  · first | refine g_seq (g_cond_f rfl (by simp; omega) ?_) | refine g_cond_f rfl (by simp; omega) ?_
    obtain ⟨y, hy⟩ : ∃ y, ys[i]? = some y := ⟨_, List.getElem?_eq_getElem h⟩
    repeat (first | refine g_endt ?_ | refine g_end ?_ | refine g_then ?_ | refine g_in_normal ?_ | refine g_then_ret ?_ | refine g_in_ret ?_ | refine g_then_exit ?_ | refine g_in_exit rfl ?_ | refine g_in_exit_ne (by decide) ?_ | refine g_seq ?_ | refine g_region ?_ | refine g_block ?_ | refine g_ret ?_ | refine g_return_n ?_ | refine g_exit ?_ | refine g_skip ?_)
    refine o_move ?_
    refine o_nil rfl ?_
    refine o_field rfl ?_
    refine o_load1 (v := .slice S ys.length c) rfl rfl ?_
    refine o_move ?_
    refine o_indexR (ys := ys) (i := i) rfl rfl rfl h rfl rfl ?_
    refine o_loadE (ys := ys) rfl rfl hy ?_
    refine o_store (v := y.val) rfl rfl rfl rfl rfl ?_
    refine o_assign ?_
    refine g_endt ?_
    refine G.norm r y.val.cells rfl ?_
    refine shutSS p ys S c b rfl ?_
    repeat (first | refine g_endt ?_ | refine g_end ?_ | refine g_then ?_ | refine g_in_normal ?_ | refine g_then_ret ?_ | refine g_in_ret ?_ | refine g_then_exit ?_ | refine g_in_exit rfl ?_ | refine g_in_exit_ne (by decide) ?_ | refine g_seq ?_ | refine g_region ?_ | refine g_block ?_ | refine g_ret ?_ | refine g_return_n ?_ | refine g_exit ?_ | refine g_skip ?_)
    exact ret2 (K := [SetASS p ys]) rfl (resCN (v := y.val) rfl rfl rfl) (resT (v := .bool true) rfl) ⟨by rw [hy, decide_eq_true h]; rfl, rfl⟩
  · first | refine g_seq (g_cond_t rfl (by simp; omega) ?_) | refine g_cond_t rfl (by simp; omega) ?_
    repeat (first | refine g_endt ?_ | refine g_end ?_ | refine g_then ?_ | refine g_in_normal ?_ | refine g_then_ret ?_ | refine g_in_ret ?_ | refine g_then_exit ?_ | refine g_in_exit rfl ?_ | refine g_in_exit_ne (by decide) ?_ | refine g_seq ?_ | refine g_region ?_ | refine g_block ?_ | refine g_ret ?_ | refine g_return_n ?_ | refine g_exit ?_ | refine g_skip ?_)
    refine o_loadN (v := SymD.zero.val) rfl rfl rfl ?_
    refine o_store (v := SymD.zero.val) rfl rfl rfl rfl rfl ?_
    refine o_assign ?_
    refine g_endt ?_
    refine G.norm r SymD.zero.val.cells rfl ?_
    refine shutSS p ys S c b rfl ?_
    repeat (first | refine g_endt ?_ | refine g_end ?_ | refine g_then ?_ | refine g_in_normal ?_ | refine g_then_ret ?_ | refine g_in_ret ?_ | refine g_then_exit ?_ | refine g_in_exit rfl ?_ | refine g_in_exit_ne (by decide) ?_ | refine g_seq ?_ | refine g_region ?_ | refine g_block ?_ | refine g_ret ?_ | refine g_return_n ?_ | refine g_exit ?_ | refine g_skip ?_)
    exact ret2 (K := [SetASS p ys]) rfl (resCN (v := SymD.zero.val) rfl rfl rfl) (resT (v := .bool false) rfl) ⟨by rw [List.getElem?_eq_none (by omega), decide_eq_false h]; rfl, rfl⟩
end Go.Proofs.Ytljiooihhfndjaa
/- Things told one by one, as values; a list that grows in a variable. -/
namespace Go.Proofs.Ytljiooihhfndjaa
open Go Go.Sl
attribute [local irreducible] Code.wpIn roundPost bodyPostM runL Ret Meets Begin

theorem beqS_self (x : SymD) : x.beq x = true := (SymD.beq_iff x x).2 rfl
def encVS (x : SymD) : List Value := [SymD.val x]
/-- A list that grows, in a variable. -/
def GrowS (p : Nat) (pre : List SymD) : SProp := ex fun r : Option Addr × Nat => sl [cellsB p #[.slice r.1 pre.length r.2] 27, osl 26 encS 3 r.1 r.2 pre]
section
variable {w0 : World} {A : SProp} {L M : List SProp} {Φ : World → Prop}
theorem openGS (p : Nat) (pre : List SymD) [tk : Take1 L (GrowS p pre) M] (h : ∀ S c, G w0 A (cellsB p #[.slice S pre.length c] 27 :: osl 26 encS 3 S c pre :: M) Φ) : G w0 A L Φ :=
  G.perm tk.perm (G.ex fun ⟨S, c⟩ => G.open_sl (h S c))
theorem shutGS (p : Nat) (pre : List SymD) (S : Option Addr) (c : Nat) {n : Nat} (hn : pre.length = n) [tk : Take L [cellsB p #[.slice S n c] 27, osl 26 encS 3 S c pre] M] (h : G w0 A (GrowS p pre :: M) Φ) : G w0 A L Φ := by
  subst hn
  exact G.perm tk.perm (G.ent ((sl_append_to _ M).trans (Ent.star (show Ent _ (GrowS p pre) from fun _ _ x => ⟨(S, c), x⟩) (Ent.refl _))) h)
theorem newGS (p : Nat) [tk : Take1 L (cellsB p #[.slice none 0 0] 27) M] (h : G w0 A (GrowS p [] :: M) Φ) : G w0 A L Φ :=
  G.perm tk.perm (G.nil_slice 26 encS 3 (shutGS p [] none 0 rfl (M := M) (tk := ⟨List.Perm.swap _ _ _⟩) h))
end
end Go.Proofs.Ytljiooihhfndjaa
/- Things told one by one, as values; a list that grows in a variable. -/
namespace Go.Proofs.Ytljiooihhfndjaa
open Go Go.Sl
attribute [local irreducible] Code.wpIn roundPost bodyPostM runL Ret Meets Begin

def encVP (x : PrefD) : List Value := [PrefD.val x]
/-- A list that grows, in a variable. -/
def GrowP (p : Nat) (pre : List PrefD) : SProp := ex fun r : Option Addr × Nat => sl [cellsB p #[.slice r.1 pre.length r.2] 22, osl 35 encP 16 r.1 r.2 pre]
section
variable {w0 : World} {A : SProp} {L M : List SProp} {Φ : World → Prop}
theorem openGP (p : Nat) (pre : List PrefD) [tk : Take1 L (GrowP p pre) M] (h : ∀ S c, G w0 A (cellsB p #[.slice S pre.length c] 22 :: osl 35 encP 16 S c pre :: M) Φ) : G w0 A L Φ :=
  G.perm tk.perm (G.ex fun ⟨S, c⟩ => G.open_sl (h S c))
theorem shutGP (p : Nat) (pre : List PrefD) (S : Option Addr) (c : Nat) {n : Nat} (hn : pre.length = n) [tk : Take L [cellsB p #[.slice S n c] 22, osl 35 encP 16 S c pre] M] (h : G w0 A (GrowP p pre :: M) Φ) : G w0 A L Φ := by
  subst hn
  exact G.perm tk.perm (G.ent ((sl_append_to _ M).trans (Ent.star (show Ent _ (GrowP p pre) from fun _ _ x => ⟨(S, c), x⟩) (Ent.refl _))) h)
theorem newGP (p : Nat) [tk : Take1 L (cellsB p #[.slice none 0 0] 22) M] (h : G w0 A (GrowP p [] :: M) Φ) : G w0 A L Φ :=
  G.perm tk.perm (G.nil_slice 35 encP 16 (shutGP p [] none 0 rfl (M := M) (tk := ⟨List.Perm.swap _ _ _⟩) h))
end
end Go.Proofs.Ytljiooihhfndjaa
/- The sets that a decision asks. -/
namespace Go.Proofs.Ytljiooihhfndjaa
open Go Go.Sl
attribute [local irreducible] Code.wpIn roundPost bodyPostM runL Ret Meets Begin

theorem pre_len {α : Type} {pre xs : List α} {x : α} (hp : (pre ++ [x]) <+: xs) : pre.length < xs.length := by
  obtain ⟨t, ht⟩ := hp
  have := congrArg List.length ht
  simp at this
  omega

theorem with_spec (gf : FuncId) (lb : List Value) (xs : List PrefD) (hl : xs.length ≤ 100000) (k : Int) (Ks : List SProp) [En Try.prog gf] (hit : ∀ K, Iter Try.prog gf lb encVP xs (K ++ Ks)) :
    Ctr Try.prog 28 [.func (.func gf) #[] lb.toArray, .int .i64 k] Ks (fun v M => ∃ p, v = .pointer (some ⟨p, 0, none⟩) ∧ M = SetASS p (valsP xs k) :: Ks) := by
  refine spec_of Try.func28 rfl Try.ntmps28 rfl fun w0 F => ?_
  -- ponder/pick.with
  repeat (first | refine g_endt ?_ | refine g_end ?_ | refine g_then ?_ | refine g_in_normal ?_ | refine g_then_ret ?_ | refine g_in_ret ?_ | refine g_then_exit ?_ | refine g_in_exit rfl ?_ | refine g_in_exit_ne (by decide) ?_ | refine g_seq ?_ | refine g_region ?_ | refine g_block ?_ | refine g_ret ?_ | refine g_return_n ?_ | refine g_exit ?_ | refine g_skip ?_)
  refine o_boxc #[.int .i64 k] rfl rfl fun bk => ?_
  refine o_assign ?_
  first | refine g_endt ?_ | refine g_end ?_
  repeat (first | refine g_endt ?_ | refine g_end ?_ | refine g_then ?_ | refine g_in_normal ?_ | refine g_then_ret ?_ | refine g_in_ret ?_ | refine g_then_exit ?_ | refine g_in_exit rfl ?_ | refine g_in_exit_ne (by decide) ?_ | refine g_seq ?_ | refine g_region ?_ | refine g_block ?_ | refine g_ret ?_ | refine g_return_n ?_ | refine g_exit ?_ | refine g_skip ?_)
  refine o_call (NewSS_spec) rfl rfl ?_
  rintro _ _ ⟨p, rfl, rfl⟩
  refine o_alloc fun c => ?_
  refine o_store (v := .pointer (some ⟨p, 0, none⟩)) rfl rfl rfl rfl rfl ?_
  first | refine g_endt ?_ | refine g_end ?_
  refine G.norm c #[.pointer (some ⟨p, 0, none⟩)] rfl ?_
  repeat (first | refine g_endt ?_ | refine g_end ?_ | refine g_then ?_ | refine g_in_normal ?_ | refine g_then_ret ?_ | refine g_in_ret ?_ | refine g_then_exit ?_ | refine g_in_exit rfl ?_ | refine g_in_exit_ne (by decide) ?_ | refine g_seq ?_ | refine g_region ?_ | refine g_block ?_ | refine g_ret ?_ | refine g_return_n ?_ | refine g_exit ?_ | refine g_skip ?_)
  refine o_move ?_
  first | refine g_endt ?_ | refine g_end ?_
  repeat (first | refine g_endt ?_ | refine g_end ?_ | refine g_then ?_ | refine g_in_normal ?_ | refine g_then_ret ?_ | refine g_in_ret ?_ | refine g_then_exit ?_ | refine g_in_exit rfl ?_ | refine g_in_exit_ne (by decide) ?_ | refine g_seq ?_ | refine g_region ?_ | refine g_block ?_ | refine g_ret ?_ | refine g_return_n ?_ | refine g_exit ?_ | refine g_skip ?_)
  refine g_range (ps := [9]) (enc := encVP) (xs := xs) rfl (fun pre => SetASS p (valsP pre k) :: cellsB c #[.pointer (some ⟨p, 0, none⟩)] 46 :: cellsB bk #[.int .i64 k] 3 :: Ks) (fun _ _ => [pu False])
    (fun K => hit [K, SetASS p [], cellsB c #[.pointer (some ⟨p, 0, none⟩)] 46, cellsB bk #[.int .i64 k] 3]) (fun _ => rfl) (tk := (inferInstance : Take _ (SetASS p [] :: cellsB c #[.pointer (some ⟨p, 0, none⟩)] 46 :: cellsB bk #[.int .i64 k] 3 :: Ks) _)) ?_ ?_ ?_
  · intro w0 F l r pre x hp
    have hlen := pre_len hp
    have hvl := valsP_len pre k
    repeat (first | refine g_endt ?_ | refine g_end ?_ | refine g_then ?_ | refine g_in_normal ?_ | refine g_then_ret ?_ | refine g_in_ret ?_ | refine g_then_exit ?_ | refine g_in_exit rfl ?_ | refine g_in_exit_ne (by decide) ?_ | refine g_seq ?_ | refine g_region ?_ | refine g_block ?_ | refine g_ret ?_ | refine g_return_n ?_ | refine g_exit ?_ | refine g_skip ?_)
    refine o_alloc fun d => ?_
    refine o_store (v := x.val) rfl rfl rfl rfl rfl ?_
    first | refine g_endt ?_ | refine g_end ?_
    refine G.norm d x.val.cells rfl ?_
    repeat (first | refine g_endt ?_ | refine g_end ?_ | refine g_then ?_ | refine g_in_normal ?_ | refine g_then_ret ?_ | refine g_in_ret ?_ | refine g_then_exit ?_ | refine g_in_exit rfl ?_ | refine g_in_exit_ne (by decide) ?_ | refine g_seq ?_ | refine g_region ?_ | refine g_block ?_ | refine g_ret ?_ | refine g_return_n ?_ | refine g_exit ?_ | refine g_skip ?_)
    refine g_begin ?_
    repeat (first | refine g_endt ?_ | refine g_end ?_ | refine g_then ?_ | refine g_in_normal ?_ | refine g_then_ret ?_ | refine g_in_ret ?_ | refine g_then_exit ?_ | refine g_in_exit rfl ?_ | refine g_in_exit_ne (by decide) ?_ | refine g_seq ?_ | refine g_region ?_ | refine g_block ?_ | refine g_ret ?_ | refine g_return_n ?_ | refine g_exit ?_ | refine g_skip ?_)
    first | refine o_field rfl ?_ | refine o_fieldR rfl (by omega) ?_
    refine o_load1 (v := .int .i64 x.kind) rfl rfl ?_
    refine o_load1 (v := .int .i64 k) rfl rfl ?_
    refine o_eql rfl rfl ?_
    first | refine g_endt ?_ | refine g_end ?_
    by_cases hk : x.kind = k
    · first | refine g_seq (g_cond_t rfl (by simpa using hk) ?_) | refine g_cond_t rfl (by simpa using hk) ?_
      repeat (first | refine g_endt ?_ | refine g_end ?_ | refine g_then ?_ | refine g_in_normal ?_ | refine g_then_ret ?_ | refine g_in_ret ?_ | refine g_then_exit ?_ | refine g_in_exit rfl ?_ | refine g_in_exit_ne (by decide) ?_ | refine g_seq ?_ | refine g_region ?_ | refine g_block ?_ | refine g_ret ?_ | refine g_return_n ?_ | refine g_exit ?_ | refine g_skip ?_)
      refine o_load1 (v := .pointer (some ⟨p, 0, none⟩)) rfl rfl ?_
      first | refine o_field rfl ?_ | refine o_fieldR rfl (by omega) ?_
      refine o_loadN (v := x.value.val) rfl rfl rfl ?_
      refine o_call (PutCSS_spec p (valsP pre k) x.value (valsP_srt pre k) (by omega)) rfl rfl ?_
      rintro _ _ ⟨rfl, rfl⟩
      first | refine g_endt ?_ | refine g_end ?_
      rw [show insC SymD.cmp (valsP pre k) x.value = valsP (pre ++ [x]) k by rw [valsP_snoc, if_pos hk]]
      repeat (first | refine g_endt ?_ | refine g_end ?_ | refine g_then ?_ | refine g_in_normal ?_ | refine g_then_ret ?_ | refine g_in_ret ?_ | refine g_then_exit ?_ | refine g_in_exit rfl ?_ | refine g_in_exit_ne (by decide) ?_ | refine g_seq ?_ | refine g_region ?_ | refine g_block ?_ | refine g_ret ?_ | refine g_return_n ?_ | refine g_exit ?_ | refine g_skip ?_)
      exact g_next
    · first | refine g_seq (g_cond_f rfl (by simpa using hk) ?_) | refine g_cond_f rfl (by simpa using hk) ?_
      rw [show valsP pre k = valsP (pre ++ [x]) k by rw [valsP_snoc, if_neg hk]]
      repeat (first | refine g_endt ?_ | refine g_end ?_ | refine g_then ?_ | refine g_in_normal ?_ | refine g_then_ret ?_ | refine g_in_ret ?_ | refine g_then_exit ?_ | refine g_in_exit rfl ?_ | refine g_in_exit_ne (by decide) ?_ | refine g_seq ?_ | refine g_region ?_ | refine g_block ?_ | refine g_ret ?_ | refine g_return_n ?_ | refine g_exit ?_ | refine g_skip ?_)
      exact g_next
  · intro D
    repeat (first | refine g_endt ?_ | refine g_end ?_ | refine g_then ?_ | refine g_in_normal ?_ | refine g_then_ret ?_ | refine g_in_ret ?_ | refine g_then_exit ?_ | refine g_in_exit rfl ?_ | refine g_in_exit_ne (by decide) ?_ | refine g_seq ?_ | refine g_region ?_ | refine g_block ?_ | refine g_ret ?_ | refine g_return_n ?_ | refine g_exit ?_ | refine g_skip ?_)
    refine o_load1 (v := .pointer (some ⟨p, 0, none⟩)) rfl rfl ?_
    refine o_assign ?_
    first | refine g_endt ?_ | refine g_end ?_
    repeat (first | refine g_endt ?_ | refine g_end ?_ | refine g_then ?_ | refine g_in_normal ?_ | refine g_then_ret ?_ | refine g_in_ret ?_ | refine g_then_exit ?_ | refine g_in_exit rfl ?_ | refine g_in_exit_ne (by decide) ?_ | refine g_seq ?_ | refine g_region ?_ | refine g_block ?_ | refine g_ret ?_ | refine g_return_n ?_ | refine g_exit ?_ | refine g_skip ?_)
    exact ret1 (K := SetASS p (valsP xs k) :: Ks) rfl (resT rfl) ⟨p, rfl, rfl⟩
  · intro D c pre hp
    exact G.pu fun h => h.elim
theorem betters_spec (gf : FuncId) (lb : List Value) (xs : List PrefD) (hl : xs.length ≤ 100000) (Ks : List SProp) [En Try.prog gf] (hit : ∀ K, Iter Try.prog gf lb encVP xs (K ++ Ks)) :
    Ctr Try.prog 32 [.func (.func gf) #[] lb.toArray] Ks (fun v M => ∃ p, v = .pointer (some ⟨p, 0, none⟩) ∧ M = SetAPP p (betP xs) :: Ks) := by
  refine spec_of Try.func32 rfl Try.ntmps32 rfl fun w0 F => ?_
  -- ponder/pick.betters
  repeat (first | refine g_endt ?_ | refine g_end ?_ | refine g_then ?_ | refine g_in_normal ?_ | refine g_then_ret ?_ | refine g_in_ret ?_ | refine g_then_exit ?_ | refine g_in_exit rfl ?_ | refine g_in_exit_ne (by decide) ?_ | refine g_seq ?_ | refine g_region ?_ | refine g_block ?_ | refine g_ret ?_ | refine g_return_n ?_ | refine g_exit ?_ | refine g_skip ?_)
  refine o_assign ?_
  first | refine g_endt ?_ | refine g_end ?_
  repeat (first | refine g_endt ?_ | refine g_end ?_ | refine g_then ?_ | refine g_in_normal ?_ | refine g_then_ret ?_ | refine g_in_ret ?_ | refine g_then_exit ?_ | refine g_in_exit rfl ?_ | refine g_in_exit_ne (by decide) ?_ | refine g_seq ?_ | refine g_region ?_ | refine g_block ?_ | refine g_ret ?_ | refine g_return_n ?_ | refine g_exit ?_ | refine g_skip ?_)
  refine o_call (NewPP_spec) rfl rfl ?_
  rintro _ _ ⟨p, rfl, rfl⟩
  refine o_alloc fun c => ?_
  refine o_store (v := .pointer (some ⟨p, 0, none⟩)) rfl rfl rfl rfl rfl ?_
  first | refine g_endt ?_ | refine g_end ?_
  refine G.norm c #[.pointer (some ⟨p, 0, none⟩)] rfl ?_
  repeat (first | refine g_endt ?_ | refine g_end ?_ | refine g_then ?_ | refine g_in_normal ?_ | refine g_then_ret ?_ | refine g_in_ret ?_ | refine g_then_exit ?_ | refine g_in_exit rfl ?_ | refine g_in_exit_ne (by decide) ?_ | refine g_seq ?_ | refine g_region ?_ | refine g_block ?_ | refine g_ret ?_ | refine g_return_n ?_ | refine g_exit ?_ | refine g_skip ?_)
  refine o_move ?_
  first | refine g_endt ?_ | refine g_end ?_
  repeat (first | refine g_endt ?_ | refine g_end ?_ | refine g_then ?_ | refine g_in_normal ?_ | refine g_then_ret ?_ | refine g_in_ret ?_ | refine g_then_exit ?_ | refine g_in_exit rfl ?_ | refine g_in_exit_ne (by decide) ?_ | refine g_seq ?_ | refine g_region ?_ | refine g_block ?_ | refine g_ret ?_ | refine g_return_n ?_ | refine g_exit ?_ | refine g_skip ?_)
  refine g_range (ps := [7]) (enc := encVP) (xs := xs) rfl (fun pre => SetAPP p (betP pre) :: cellsB c #[.pointer (some ⟨p, 0, none⟩)] 61 :: Ks) (fun _ _ => [pu False])
    (fun K => hit [K, SetAPP p [], cellsB c #[.pointer (some ⟨p, 0, none⟩)] 61]) (fun _ => rfl) (tk := (inferInstance : Take _ (SetAPP p [] :: cellsB c #[.pointer (some ⟨p, 0, none⟩)] 61 :: Ks) _)) ?_ ?_ ?_
  · intro w0 F l r pre x hp
    have hlen := pre_len hp
    have hvl := betP_len pre
    have hsr := betP_srt pre
    have hsn := betP_snoc pre x
    repeat (first | refine g_endt ?_ | refine g_end ?_ | refine g_then ?_ | refine g_in_normal ?_ | refine g_then_ret ?_ | refine g_in_ret ?_ | refine g_then_exit ?_ | refine g_in_exit rfl ?_ | refine g_in_exit_ne (by decide) ?_ | refine g_seq ?_ | refine g_region ?_ | refine g_block ?_ | refine g_ret ?_ | refine g_return_n ?_ | refine g_exit ?_ | refine g_skip ?_)
    refine o_alloc fun d => ?_
    refine o_store (v := x.val) rfl rfl rfl rfl rfl ?_
    first | refine g_endt ?_ | refine g_end ?_
    refine G.norm d x.val.cells rfl ?_
    repeat (first | refine g_endt ?_ | refine g_end ?_ | refine g_then ?_ | refine g_in_normal ?_ | refine g_then_ret ?_ | refine g_in_ret ?_ | refine g_then_exit ?_ | refine g_in_exit rfl ?_ | refine g_in_exit_ne (by decide) ?_ | refine g_seq ?_ | refine g_region ?_ | refine g_block ?_ | refine g_ret ?_ | refine g_return_n ?_ | refine g_exit ?_ | refine g_skip ?_)
    refine g_begin ?_
    repeat (first | refine g_endt ?_ | refine g_end ?_ | refine g_then ?_ | refine g_in_normal ?_ | refine g_then_ret ?_ | refine g_in_ret ?_ | refine g_then_exit ?_ | refine g_in_exit rfl ?_ | refine g_in_exit_ne (by decide) ?_ | refine g_seq ?_ | refine g_region ?_ | refine g_block ?_ | refine g_ret ?_ | refine g_return_n ?_ | refine g_exit ?_ | refine g_skip ?_)
    first | refine o_field rfl ?_ | refine o_fieldR rfl (by omega) ?_
    refine o_load1 (v := .int .i64 x.kind) rfl rfl ?_
    first | refine g_endt ?_ | refine g_end ?_
    repeat (first | refine g_endt ?_ | refine g_end ?_ | refine g_then ?_ | refine g_in_normal ?_ | refine g_then_ret ?_ | refine g_in_ret ?_ | refine g_then_exit ?_ | refine g_in_exit rfl ?_ | refine g_in_exit_ne (by decide) ?_ | refine g_seq ?_ | refine g_region ?_ | refine g_block ?_ | refine g_ret ?_ | refine g_return_n ?_ | refine g_exit ?_ | refine g_skip ?_)
    refine o_eql rfl rfl ?_
    refine o_assign ?_
    first | refine g_endt ?_ | refine g_end ?_
    by_cases hk : x.kind = 8
    · first | refine g_seq (g_cond_t rfl (by simpa using hk) ?_) | refine g_cond_t rfl (by simpa using hk) ?_
      repeat (first | refine g_endt ?_ | refine g_end ?_ | refine g_then ?_ | refine g_in_normal ?_ | refine g_then_ret ?_ | refine g_in_ret ?_ | refine g_then_exit ?_ | refine g_in_exit rfl ?_ | refine g_in_exit_ne (by decide) ?_ | refine g_seq ?_ | refine g_region ?_ | refine g_block ?_ | refine g_ret ?_ | refine g_return_n ?_ | refine g_exit ?_ | refine g_skip ?_)
      refine o_load1 (v := .pointer (some ⟨p, 0, none⟩)) rfl rfl ?_
      first | refine o_field rfl ?_ | refine o_fieldR rfl (by omega) ?_
      refine o_loadN (v := x.value.val) rfl rfl rfl ?_
      first | refine o_field rfl ?_ | refine o_fieldR rfl (by omega) ?_
      refine o_loadN (v := x.other.val) rfl rfl rfl ?_
      refine o_build ((PairD.mk x.value x.other).val) (fun w => by kernel_rfl) ?_
      refine o_call (PutCPP_spec p (betP pre) ⟨x.value, x.other⟩ hsr (by omega)) rfl rfl ?_
      rintro _ _ ⟨rfl, rfl⟩
      first | refine g_endt ?_ | refine g_end ?_
      rw [show insC PairD.cmp (betP pre) ⟨x.value, x.other⟩ = betP (pre ++ [x]) by rw [hsn, betStep, if_pos hk]]
      repeat (first | refine g_endt ?_ | refine g_end ?_ | refine g_then ?_ | refine g_in_normal ?_ | refine g_then_ret ?_ | refine g_in_ret ?_ | refine g_then_exit ?_ | refine g_in_exit rfl ?_ | refine g_in_exit_ne (by decide) ?_ | refine g_seq ?_ | refine g_region ?_ | refine g_block ?_ | refine g_ret ?_ | refine g_return_n ?_ | refine g_exit ?_ | refine g_skip ?_)
      exact g_next
    · first | refine g_seq (g_cond_f rfl (by simpa using hk) ?_) | refine g_cond_f rfl (by simpa using hk) ?_
      repeat (first | refine g_endt ?_ | refine g_end ?_ | refine g_then ?_ | refine g_in_normal ?_ | refine g_then_ret ?_ | refine g_in_ret ?_ | refine g_then_exit ?_ | refine g_in_exit rfl ?_ | refine g_in_exit_ne (by decide) ?_ | refine g_seq ?_ | refine g_region ?_ | refine g_block ?_ | refine g_ret ?_ | refine g_return_n ?_ | refine g_exit ?_ | refine g_skip ?_)
      refine o_eql rfl rfl ?_
      refine o_assign ?_
      first | refine g_endt ?_ | refine g_end ?_
      by_cases hk9 : x.kind = 9
      · first | refine g_seq (g_cond_t rfl (by simpa using hk9) ?_) | refine g_cond_t rfl (by simpa using hk9) ?_
        repeat (first | refine g_endt ?_ | refine g_end ?_ | refine g_then ?_ | refine g_in_normal ?_ | refine g_then_ret ?_ | refine g_in_ret ?_ | refine g_then_exit ?_ | refine g_in_exit rfl ?_ | refine g_in_exit_ne (by decide) ?_ | refine g_seq ?_ | refine g_region ?_ | refine g_block ?_ | refine g_ret ?_ | refine g_return_n ?_ | refine g_exit ?_ | refine g_skip ?_)
        refine o_load1 (v := .pointer (some ⟨p, 0, none⟩)) rfl rfl ?_
        first | refine o_field rfl ?_ | refine o_fieldR rfl (by omega) ?_
        refine o_loadN (v := x.other.val) rfl rfl rfl ?_
        first | refine o_field rfl ?_ | refine o_fieldR rfl (by omega) ?_
        refine o_loadN (v := x.value.val) rfl rfl rfl ?_
        refine o_build ((PairD.mk x.other x.value).val) (fun w => by kernel_rfl) ?_
        refine o_call (PutCPP_spec p (betP pre) ⟨x.other, x.value⟩ hsr (by omega)) rfl rfl ?_
        rintro _ _ ⟨rfl, rfl⟩
        first | refine g_endt ?_ | refine g_end ?_
        rw [show insC PairD.cmp (betP pre) ⟨x.other, x.value⟩ = betP (pre ++ [x]) by rw [hsn, betStep, if_neg hk, if_pos hk9]]
        repeat (first | refine g_endt ?_ | refine g_end ?_ | refine g_then ?_ | refine g_in_normal ?_ | refine g_then_ret ?_ | refine g_in_ret ?_ | refine g_then_exit ?_ | refine g_in_exit rfl ?_ | refine g_in_exit_ne (by decide) ?_ | refine g_seq ?_ | refine g_region ?_ | refine g_block ?_ | refine g_ret ?_ | refine g_return_n ?_ | refine g_exit ?_ | refine g_skip ?_)
        exact g_next
      · first | refine g_seq (g_cond_f rfl (by simpa using hk9) ?_) | refine g_cond_f rfl (by simpa using hk9) ?_
        rw [show betP pre = betP (pre ++ [x]) by rw [hsn, betStep, if_neg hk, if_neg hk9]]
        repeat (first | refine g_endt ?_ | refine g_end ?_ | refine g_then ?_ | refine g_in_normal ?_ | refine g_then_ret ?_ | refine g_in_ret ?_ | refine g_then_exit ?_ | refine g_in_exit rfl ?_ | refine g_in_exit_ne (by decide) ?_ | refine g_seq ?_ | refine g_region ?_ | refine g_block ?_ | refine g_ret ?_ | refine g_return_n ?_ | refine g_exit ?_ | refine g_skip ?_)
        exact g_next
  · intro D
    repeat (first | refine g_endt ?_ | refine g_end ?_ | refine g_then ?_ | refine g_in_normal ?_ | refine g_then_ret ?_ | refine g_in_ret ?_ | refine g_then_exit ?_ | refine g_in_exit rfl ?_ | refine g_in_exit_ne (by decide) ?_ | refine g_seq ?_ | refine g_region ?_ | refine g_block ?_ | refine g_ret ?_ | refine g_return_n ?_ | refine g_exit ?_ | refine g_skip ?_)
    refine o_load1 (v := .pointer (some ⟨p, 0, none⟩)) rfl rfl ?_
    refine o_assign ?_
    first | refine g_endt ?_ | refine g_end ?_
    repeat (first | refine g_endt ?_ | refine g_end ?_ | refine g_then ?_ | refine g_in_normal ?_ | refine g_then_ret ?_ | refine g_in_ret ?_ | refine g_then_exit ?_ | refine g_in_exit rfl ?_ | refine g_in_exit_ne (by decide) ?_ | refine g_seq ?_ | refine g_region ?_ | refine g_block ?_ | refine g_ret ?_ | refine g_return_n ?_ | refine g_exit ?_ | refine g_skip ?_)
    exact ret1 (K := SetAPP p (betP xs) :: Ks) rfl (resT rfl) ⟨p, rfl, rfl⟩
  · intro D c pre hp
    exact G.pu fun h => h.elim
theorem alikes_spec (gf : FuncId) (lb : List Value) (xs : List PrefD) (hl : xs.length ≤ 100000) (Ks : List SProp) [En Try.prog gf] (hit : ∀ K, Iter Try.prog gf lb encVP xs (K ++ Ks)) :
    Ctr Try.prog 38 [.func (.func gf) #[] lb.toArray] Ks (fun v M => ∃ p, v = .pointer (some ⟨p, 0, none⟩) ∧ M = SetAPP p (likP xs) :: Ks) := by
  refine spec_of Try.func38 rfl Try.ntmps38 rfl fun w0 F => ?_
  -- ponder/pick.alikes
  repeat (first | refine g_endt ?_ | refine g_end ?_ | refine g_then ?_ | refine g_in_normal ?_ | refine g_then_ret ?_ | refine g_in_ret ?_ | refine g_then_exit ?_ | refine g_in_exit rfl ?_ | refine g_in_exit_ne (by decide) ?_ | refine g_seq ?_ | refine g_region ?_ | refine g_block ?_ | refine g_ret ?_ | refine g_return_n ?_ | refine g_exit ?_ | refine g_skip ?_)
  refine o_assign ?_
  first | refine g_endt ?_ | refine g_end ?_
  repeat (first | refine g_endt ?_ | refine g_end ?_ | refine g_then ?_ | refine g_in_normal ?_ | refine g_then_ret ?_ | refine g_in_ret ?_ | refine g_then_exit ?_ | refine g_in_exit rfl ?_ | refine g_in_exit_ne (by decide) ?_ | refine g_seq ?_ | refine g_region ?_ | refine g_block ?_ | refine g_ret ?_ | refine g_return_n ?_ | refine g_exit ?_ | refine g_skip ?_)
  refine o_call (NewPP_spec) rfl rfl ?_
  rintro _ _ ⟨p, rfl, rfl⟩
  refine o_alloc fun c => ?_
  refine o_store (v := .pointer (some ⟨p, 0, none⟩)) rfl rfl rfl rfl rfl ?_
  first | refine g_endt ?_ | refine g_end ?_
  refine G.norm c #[.pointer (some ⟨p, 0, none⟩)] rfl ?_
  repeat (first | refine g_endt ?_ | refine g_end ?_ | refine g_then ?_ | refine g_in_normal ?_ | refine g_then_ret ?_ | refine g_in_ret ?_ | refine g_then_exit ?_ | refine g_in_exit rfl ?_ | refine g_in_exit_ne (by decide) ?_ | refine g_seq ?_ | refine g_region ?_ | refine g_block ?_ | refine g_ret ?_ | refine g_return_n ?_ | refine g_exit ?_ | refine g_skip ?_)
  refine o_move ?_
  first | refine g_endt ?_ | refine g_end ?_
  repeat (first | refine g_endt ?_ | refine g_end ?_ | refine g_then ?_ | refine g_in_normal ?_ | refine g_then_ret ?_ | refine g_in_ret ?_ | refine g_then_exit ?_ | refine g_in_exit rfl ?_ | refine g_in_exit_ne (by decide) ?_ | refine g_seq ?_ | refine g_region ?_ | refine g_block ?_ | refine g_ret ?_ | refine g_return_n ?_ | refine g_exit ?_ | refine g_skip ?_)
  refine g_range (ps := [7]) (enc := encVP) (xs := xs) rfl (fun pre => SetAPP p (likP pre) :: cellsB c #[.pointer (some ⟨p, 0, none⟩)] 61 :: Ks) (fun _ _ => [pu False])
    (fun K => hit [K, SetAPP p [], cellsB c #[.pointer (some ⟨p, 0, none⟩)] 61]) (fun _ => rfl) (tk := (inferInstance : Take _ (SetAPP p [] :: cellsB c #[.pointer (some ⟨p, 0, none⟩)] 61 :: Ks) _)) ?_ ?_ ?_
  · intro w0 F l r pre x hp
    have hlen := pre_len hp
    have hvl := likP_len pre
    have hsr := likP_srt pre
    have hsn := likP_snoc pre x
    repeat (first | refine g_endt ?_ | refine g_end ?_ | refine g_then ?_ | refine g_in_normal ?_ | refine g_then_ret ?_ | refine g_in_ret ?_ | refine g_then_exit ?_ | refine g_in_exit rfl ?_ | refine g_in_exit_ne (by decide) ?_ | refine g_seq ?_ | refine g_region ?_ | refine g_block ?_ | refine g_ret ?_ | refine g_return_n ?_ | refine g_exit ?_ | refine g_skip ?_)
    refine o_alloc fun d => ?_
    refine o_store (v := x.val) rfl rfl rfl rfl rfl ?_
    first | refine g_endt ?_ | refine g_end ?_
    refine G.norm d x.val.cells rfl ?_
    repeat (first | refine g_endt ?_ | refine g_end ?_ | refine g_then ?_ | refine g_in_normal ?_ | refine g_then_ret ?_ | refine g_in_ret ?_ | refine g_then_exit ?_ | refine g_in_exit rfl ?_ | refine g_in_exit_ne (by decide) ?_ | refine g_seq ?_ | refine g_region ?_ | refine g_block ?_ | refine g_ret ?_ | refine g_return_n ?_ | refine g_exit ?_ | refine g_skip ?_)
    refine g_begin ?_
    have hsr2 := hsr.insC linPair (⟨x.value, x.other⟩ : PairD)
    have hl2 := length_insC_le (f := PairD.cmp) (likP pre) ⟨x.value, x.other⟩
    repeat (first | refine g_endt ?_ | refine g_end ?_ | refine g_then ?_ | refine g_in_normal ?_ | refine g_then_ret ?_ | refine g_in_ret ?_ | refine g_then_exit ?_ | refine g_in_exit rfl ?_ | refine g_in_exit_ne (by decide) ?_ | refine g_seq ?_ | refine g_region ?_ | refine g_block ?_ | refine g_ret ?_ | refine g_return_n ?_ | refine g_exit ?_ | refine g_skip ?_)
    first | refine o_field rfl ?_ | refine o_fieldR rfl (by omega) ?_
    refine o_load1 (v := .int .i64 x.kind) rfl rfl ?_
    refine o_eql rfl rfl ?_
    first | refine g_endt ?_ | refine g_end ?_
    by_cases hk : x.kind = 10
    · first | refine g_seq (g_cond_t rfl (by simpa using hk) ?_) | refine g_cond_t rfl (by simpa using hk) ?_
      repeat (first | refine g_endt ?_ | refine g_end ?_ | refine g_then ?_ | refine g_in_normal ?_ | refine g_then_ret ?_ | refine g_in_ret ?_ | refine g_then_exit ?_ | refine g_in_exit rfl ?_ | refine g_in_exit_ne (by decide) ?_ | refine g_seq ?_ | refine g_region ?_ | refine g_block ?_ | refine g_ret ?_ | refine g_return_n ?_ | refine g_exit ?_ | refine g_skip ?_)
      refine o_load1 (v := .pointer (some ⟨p, 0, none⟩)) rfl rfl ?_
      first | refine o_field rfl ?_ | refine o_fieldR rfl (by omega) ?_
      refine o_loadN (v := x.value.val) rfl rfl rfl ?_
      first | refine o_field rfl ?_ | refine o_fieldR rfl (by omega) ?_
      refine o_loadN (v := x.other.val) rfl rfl rfl ?_
      refine o_build ((PairD.mk x.value x.other).val) (fun w => by kernel_rfl) ?_
      refine o_call (PutCPP_spec p (likP pre) ⟨x.value, x.other⟩ hsr (by omega)) rfl rfl ?_
      rintro _ _ ⟨rfl, rfl⟩
      first | refine g_endt ?_ | refine g_end ?_
      repeat (first | refine g_endt ?_ | refine g_end ?_ | refine g_then ?_ | refine g_in_normal ?_ | refine g_then_ret ?_ | refine g_in_ret ?_ | refine g_then_exit ?_ | refine g_in_exit rfl ?_ | refine g_in_exit_ne (by decide) ?_ | refine g_seq ?_ | refine g_region ?_ | refine g_block ?_ | refine g_ret ?_ | refine g_return_n ?_ | refine g_exit ?_ | refine g_skip ?_)
      refine o_load1 (v := .pointer (some ⟨p, 0, none⟩)) rfl rfl ?_
      first | refine o_field rfl ?_ | refine o_fieldR rfl (by omega) ?_
      refine o_loadN (v := x.other.val) rfl rfl rfl ?_
      first | refine o_field rfl ?_ | refine o_fieldR rfl (by omega) ?_
      refine o_loadN (v := x.value.val) rfl rfl rfl ?_
      refine o_build ((PairD.mk x.other x.value).val) (fun w => by kernel_rfl) ?_
      refine o_call (PutCPP_spec p (insC PairD.cmp (likP pre) ⟨x.value, x.other⟩) ⟨x.other, x.value⟩ hsr2 (by omega)) rfl rfl ?_
      rintro _ _ ⟨rfl, rfl⟩
      first | refine g_endt ?_ | refine g_end ?_
      rw [show insC PairD.cmp (insC PairD.cmp (likP pre) ⟨x.value, x.other⟩) ⟨x.other, x.value⟩ = likP (pre ++ [x]) by rw [hsn, likStep, if_pos hk]]
      repeat (first | refine g_endt ?_ | refine g_end ?_ | refine g_then ?_ | refine g_in_normal ?_ | refine g_then_ret ?_ | refine g_in_ret ?_ | refine g_then_exit ?_ | refine g_in_exit rfl ?_ | refine g_in_exit_ne (by decide) ?_ | refine g_seq ?_ | refine g_region ?_ | refine g_block ?_ | refine g_ret ?_ | refine g_return_n ?_ | refine g_exit ?_ | refine g_skip ?_)
      exact g_next
    · first | refine g_seq (g_cond_f rfl (by simpa using hk) ?_) | refine g_cond_f rfl (by simpa using hk) ?_
      rw [show likP pre = likP (pre ++ [x]) by rw [hsn, likStep, if_neg hk]]
      repeat (first | refine g_endt ?_ | refine g_end ?_ | refine g_then ?_ | refine g_in_normal ?_ | refine g_then_ret ?_ | refine g_in_ret ?_ | refine g_then_exit ?_ | refine g_in_exit rfl ?_ | refine g_in_exit_ne (by decide) ?_ | refine g_seq ?_ | refine g_region ?_ | refine g_block ?_ | refine g_ret ?_ | refine g_return_n ?_ | refine g_exit ?_ | refine g_skip ?_)
      exact g_next
  · intro D
    repeat (first | refine g_endt ?_ | refine g_end ?_ | refine g_then ?_ | refine g_in_normal ?_ | refine g_then_ret ?_ | refine g_in_ret ?_ | refine g_then_exit ?_ | refine g_in_exit rfl ?_ | refine g_in_exit_ne (by decide) ?_ | refine g_seq ?_ | refine g_region ?_ | refine g_block ?_ | refine g_ret ?_ | refine g_return_n ?_ | refine g_exit ?_ | refine g_skip ?_)
    refine o_load1 (v := .pointer (some ⟨p, 0, none⟩)) rfl rfl ?_
    refine o_assign ?_
    first | refine g_endt ?_ | refine g_end ?_
    repeat (first | refine g_endt ?_ | refine g_end ?_ | refine g_then ?_ | refine g_in_normal ?_ | refine g_then_ret ?_ | refine g_in_ret ?_ | refine g_then_exit ?_ | refine g_in_exit rfl ?_ | refine g_in_exit_ne (by decide) ?_ | refine g_seq ?_ | refine g_region ?_ | refine g_block ?_ | refine g_ret ?_ | refine g_return_n ?_ | refine g_exit ?_ | refine g_skip ?_)
    exact ret1 (K := SetAPP p (likP xs) :: Ks) rfl (resT rfl) ⟨p, rfl, rfl⟩
  · intro D c pre hp
    exact G.pu fun h => h.elim
theorem hasSS_spec (p : Nat) (ys : List SymD) (x : SymD) (hs : Srt SymD.cmp ys) (hl : ys.length ≤ 1000000000) : Ctr Try.prog 29 [.pointer (some ⟨p, 0, none⟩), x.val] [SetASS p ys] (fun v M => v = .bool (hasC SymD.cmp ys x) ∧ M = [SetASS p ys]) := by
  refine spec_of Try.func29 rfl Try.ntmps29 rfl fun w0 F => ?_
  -- ponder/pick.has[ponder/api.Sym]
  repeat (first | refine g_endt ?_ | refine g_end ?_ | refine g_then ?_ | refine g_in_normal ?_ | refine g_then_ret ?_ | refine g_in_ret ?_ | refine g_then_exit ?_ | refine g_in_exit rfl ?_ | refine g_in_exit_ne (by decide) ?_ | refine g_seq ?_ | refine g_region ?_ | refine g_block ?_ | refine g_ret ?_ | refine g_return_n ?_ | refine g_exit ?_ | refine g_skip ?_)
  refine o_boxc x.val.cells rfl rfl fun q => ?_
  refine o_assign ?_
  first | refine g_endt ?_ | refine g_end ?_
  repeat (first | refine g_endt ?_ | refine g_end ?_ | refine g_then ?_ | refine g_in_normal ?_ | refine g_then_ret ?_ | refine g_in_ret ?_ | refine g_then_exit ?_ | refine g_in_exit rfl ?_ | refine g_in_exit_ne (by decide) ?_ | refine g_seq ?_ | refine g_region ?_ | refine g_block ?_ | refine g_ret ?_ | refine g_return_n ?_ | refine g_exit ?_ | refine g_skip ?_)
  refine o_move ?_
  refine o_loadN (v := x.val) rfl rfl rfl ?_
  refine o_call (PlaceCSS_spec p ys x hs hl) rfl rfl ?_
  rintro _ _ ⟨k, rfl, rfl⟩
  refine o_move ?_
  refine o_extract rfl rfl ?_
  refine o_extract rfl rfl ?_
  refine o_assign ?_
  refine o_assign ?_
  first | refine g_endt ?_ | refine g_end ?_
  repeat (first | refine g_endt ?_ | refine g_end ?_ | refine g_then ?_ | refine g_in_normal ?_ | refine g_then_ret ?_ | refine g_in_ret ?_ | refine g_then_exit ?_ | refine g_in_exit rfl ?_ | refine g_in_exit_ne (by decide) ?_ | refine g_seq ?_ | refine g_region ?_ | refine g_block ?_ | refine g_ret ?_ | refine g_return_n ?_ | refine g_exit ?_ | refine g_skip ?_)
  refine o_move ?_
  refine o_assign ?_
  first | refine g_endt ?_ | refine g_end ?_
  repeat (first | refine g_endt ?_ | refine g_end ?_ | refine g_then ?_ | refine g_in_normal ?_ | refine g_then_ret ?_ | refine g_in_ret ?_ | refine g_then_exit ?_ | refine g_in_exit rfl ?_ | refine g_in_exit_ne (by decide) ?_ | refine g_seq ?_ | refine g_region ?_ | refine g_block ?_ | refine g_ret ?_ | refine g_return_n ?_ | refine g_exit ?_ | refine g_skip ?_)
  exact ret1 (K := [SetASS p ys]) rfl (resT rfl) ⟨rfl, rfl⟩
theorem hasPP_spec (p : Nat) (ys : List PairD) (x : PairD) (hs : Srt PairD.cmp ys) (hl : ys.length ≤ 1000000000) : Ctr Try.prog 34 [.pointer (some ⟨p, 0, none⟩), x.val] [SetAPP p ys] (fun v M => v = .bool (hasC PairD.cmp ys x) ∧ M = [SetAPP p ys]) := by
  refine spec_of Try.func34 rfl Try.ntmps34 rfl fun w0 F => ?_
  -- ponder/pick.has[ponder/pick.pair]
  repeat (first | refine g_endt ?_ | refine g_end ?_ | refine g_then ?_ | refine g_in_normal ?_ | refine g_then_ret ?_ | refine g_in_ret ?_ | refine g_then_exit ?_ | refine g_in_exit rfl ?_ | refine g_in_exit_ne (by decide) ?_ | refine g_seq ?_ | refine g_region ?_ | refine g_block ?_ | refine g_ret ?_ | refine g_return_n ?_ | refine g_exit ?_ | refine g_skip ?_)
  refine o_boxc x.val.cells rfl rfl fun q => ?_
  refine o_assign ?_
  first | refine g_endt ?_ | refine g_end ?_
  repeat (first | refine g_endt ?_ | refine g_end ?_ | refine g_then ?_ | refine g_in_normal ?_ | refine g_then_ret ?_ | refine g_in_ret ?_ | refine g_then_exit ?_ | refine g_in_exit rfl ?_ | refine g_in_exit_ne (by decide) ?_ | refine g_seq ?_ | refine g_region ?_ | refine g_block ?_ | refine g_ret ?_ | refine g_return_n ?_ | refine g_exit ?_ | refine g_skip ?_)
  refine o_move ?_
  refine o_loadN (v := x.val) rfl rfl rfl ?_
  refine o_call (PlaceCPP_spec p ys x hs hl) rfl rfl ?_
  rintro _ _ ⟨k, rfl, rfl⟩
  refine o_move ?_
  refine o_extract rfl rfl ?_
  refine o_extract rfl rfl ?_
  refine o_assign ?_
  refine o_assign ?_
  first | refine g_endt ?_ | refine g_end ?_
  repeat (first | refine g_endt ?_ | refine g_end ?_ | refine g_then ?_ | refine g_in_normal ?_ | refine g_then_ret ?_ | refine g_in_ret ?_ | refine g_then_exit ?_ | refine g_in_exit rfl ?_ | refine g_in_exit_ne (by decide) ?_ | refine g_seq ?_ | refine g_region ?_ | refine g_block ?_ | refine g_ret ?_ | refine g_return_n ?_ | refine g_exit ?_ | refine g_skip ?_)
  refine o_move ?_
  refine o_assign ?_
  first | refine g_endt ?_ | refine g_end ?_
  repeat (first | refine g_endt ?_ | refine g_end ?_ | refine g_then ?_ | refine g_in_normal ?_ | refine g_then_ret ?_ | refine g_in_ret ?_ | refine g_then_exit ?_ | refine g_in_exit rfl ?_ | refine g_in_exit_ne (by decide) ?_ | refine g_seq ?_ | refine g_region ?_ | refine g_block ?_ | refine g_ret ?_ | refine g_return_n ?_ | refine g_exit ?_ | refine g_skip ?_)
  exact ret1 (K := [SetAPP p ys]) rfl (resT rfl) ⟨rfl, rfl⟩
theorem list_spec (p : Nat) (ys : List SymD) (hl : ys.length ≤ 100000) : Ctr Try.prog 31 [.pointer (some ⟨p, 0, none⟩)] [SetASS p ys] (fun v M => ∃ S c, v = .slice S ys.length c ∧ M = [osl 26 encS 3 S c ys]) := by
  refine spec_of Try.func31 rfl Try.ntmps31 rfl fun w0 F => ?_
  -- ponder/pick.list
  repeat (first | refine g_endt ?_ | refine g_end ?_ | refine g_then ?_ | refine g_in_normal ?_ | refine g_then_ret ?_ | refine g_in_ret ?_ | refine g_then_exit ?_ | refine g_in_exit rfl ?_ | refine g_in_exit_ne (by decide) ?_ | refine g_seq ?_ | refine g_region ?_ | refine g_block ?_ | refine g_ret ?_ | refine g_return_n ?_ | refine g_exit ?_ | refine g_skip ?_)
  refine o_assign ?_
  first | refine g_endt ?_ | refine g_end ?_
  repeat (first | refine g_endt ?_ | refine g_end ?_ | refine g_then ?_ | refine g_in_normal ?_ | refine g_then_ret ?_ | refine g_in_ret ?_ | refine g_then_exit ?_ | refine g_in_exit rfl ?_ | refine g_in_exit_ne (by decide) ?_ | refine g_seq ?_ | refine g_region ?_ | refine g_block ?_ | refine g_ret ?_ | refine g_return_n ?_ | refine g_exit ?_ | refine g_skip ?_)
  refine o_alloc fun r => ?_
  first | refine g_endt ?_ | refine g_end ?_
  refine G.norm r #[.slice none 0 0] rfl ?_
  refine newGS r ?_
  repeat (first | refine g_endt ?_ | refine g_end ?_ | refine g_then ?_ | refine g_in_normal ?_ | refine g_then_ret ?_ | refine g_in_ret ?_ | refine g_then_exit ?_ | refine g_in_exit rfl ?_ | refine g_in_exit_ne (by decide) ?_ | refine g_seq ?_ | refine g_region ?_ | refine g_block ?_ | refine g_ret ?_ | refine g_return_n ?_ | refine g_exit ?_ | refine g_skip ?_)
  refine o_move ?_
  refine o_call (AllSS_spec p) rfl rfl ?_
  rintro _ _ ⟨b, rfl, rfl⟩
  first | refine g_endt ?_ | refine g_end ?_
  repeat (first | refine g_endt ?_ | refine g_end ?_ | refine g_then ?_ | refine g_in_normal ?_ | refine g_then_ret ?_ | refine g_in_ret ?_ | refine g_then_exit ?_ | refine g_in_exit rfl ?_ | refine g_in_exit_ne (by decide) ?_ | refine g_seq ?_ | refine g_region ?_ | refine g_block ?_ | refine g_ret ?_ | refine g_return_n ?_ | refine g_exit ?_ | refine g_skip ?_)
  refine g_range (ps := [7]) (lb := [.pointer (some ⟨b, 0, none⟩)]) (enc := SymD.enc') (xs := ys) rfl (fun pre => [GrowS r pre, SetASS p ys, pblk b (.cells #[.pointer (some ⟨p, 0, none⟩)] 46 (0, 0))]) (fun _ _ => [pu False])
    (fun K => All1SS_iter p b ys (by omega) _) (fun _ => rfl) ?_ ?_ ?_
  · intro w0 F l rr pre x hp
    have hlen := pre_len hp
    refine openGS r pre fun S e => ?_
    repeat (first | refine g_endt ?_ | refine g_end ?_ | refine g_then ?_ | refine g_in_normal ?_ | refine g_then_ret ?_ | refine g_in_ret ?_ | refine g_then_exit ?_ | refine g_in_exit rfl ?_ | refine g_in_exit_ne (by decide) ?_ | refine g_seq ?_ | refine g_region ?_ | refine g_block ?_ | refine g_ret ?_ | refine g_return_n ?_ | refine g_exit ?_ | refine g_skip ?_)
    refine o_alloc fun c => ?_
    refine o_store (v := x.val) rfl rfl rfl rfl rfl ?_
    first | refine g_endt ?_ | refine g_end ?_
    refine G.norm c x.val.cells rfl ?_
    repeat (first | refine g_endt ?_ | refine g_end ?_ | refine g_then ?_ | refine g_in_normal ?_ | refine g_then_ret ?_ | refine g_in_ret ?_ | refine g_then_exit ?_ | refine g_in_exit rfl ?_ | refine g_in_exit_ne (by decide) ?_ | refine g_seq ?_ | refine g_region ?_ | refine g_block ?_ | refine g_ret ?_ | refine g_return_n ?_ | refine g_exit ?_ | refine g_skip ?_)
    refine g_begin ?_
    repeat (first | refine g_endt ?_ | refine g_end ?_ | refine g_then ?_ | refine g_in_normal ?_ | refine g_then_ret ?_ | refine g_in_ret ?_ | refine g_then_exit ?_ | refine g_in_exit rfl ?_ | refine g_in_exit_ne (by decide) ?_ | refine g_seq ?_ | refine g_region ?_ | refine g_block ?_ | refine g_ret ?_ | refine g_return_n ?_ | refine g_exit ?_ | refine g_skip ?_)
    first | refine o_load1 rfl rfl ?_ | refine o_loadE0 rfl (by assumption) rfl ?_ | refine o_loadE1 rfl (by assumption) rfl ?_
    refine o_loadN (v := x.val) rfl rfl rfl ?_
    refine o_litP (e := 26) encS [x] (x).val.cells (fun w => by kernel_rfl) (by simp [encS]) (by simp [maxLen]) fun _ => ?_
    refine o_append (xs := pre) (ys := [x]) (by first | rfl | (simp only [List.length_map, List.length_take, List.length_append]; first | rfl | (congr 1; omega))) rfl rfl rfl rfl (fun _ => .inr trivial) (by simp [maxLen]; omega) (by simp; omega) fun S2 e2 => ?_
    refine o_store (v := .slice S2 (pre.length + 1) e2) rfl rfl rfl rfl rfl ?_
    first | refine g_endt ?_ | refine g_end ?_
    refine G.norm r #[.slice S2 (pre.length + 1) e2] rfl ?_
    refine shutGS r (pre ++ [x]) S2 e2 (n := pre.length + 1) (by simp) ?_
    repeat (first | refine g_endt ?_ | refine g_end ?_ | refine g_then ?_ | refine g_in_normal ?_ | refine g_then_ret ?_ | refine g_in_ret ?_ | refine g_then_exit ?_ | refine g_in_exit rfl ?_ | refine g_in_exit_ne (by decide) ?_ | refine g_seq ?_ | refine g_region ?_ | refine g_block ?_ | refine g_ret ?_ | refine g_return_n ?_ | refine g_exit ?_ | refine g_skip ?_)
    exact g_next
  · intro D
    refine openGS r ys fun S e => ?_
    repeat (first | refine g_endt ?_ | refine g_end ?_ | refine g_then ?_ | refine g_in_normal ?_ | refine g_then_ret ?_ | refine g_in_ret ?_ | refine g_then_exit ?_ | refine g_in_exit rfl ?_ | refine g_in_exit_ne (by decide) ?_ | refine g_seq ?_ | refine g_region ?_ | refine g_block ?_ | refine g_ret ?_ | refine g_return_n ?_ | refine g_exit ?_ | refine g_skip ?_)
    first | refine o_load1 rfl rfl ?_ | refine o_loadE0 rfl (by assumption) rfl ?_ | refine o_loadE1 rfl (by assumption) rfl ?_
    refine o_assign ?_
    first | refine g_endt ?_ | refine g_end ?_
    repeat (first | refine g_endt ?_ | refine g_end ?_ | refine g_then ?_ | refine g_in_normal ?_ | refine g_then_ret ?_ | refine g_in_ret ?_ | refine g_then_exit ?_ | refine g_in_exit rfl ?_ | refine g_in_exit_ne (by decide) ?_ | refine g_seq ?_ | refine g_region ?_ | refine g_block ?_ | refine g_ret ?_ | refine g_return_n ?_ | refine g_exit ?_ | refine g_skip ?_)
    exact ret1 (K := [osl 26 encS 3 S e ys]) rfl (resT rfl) ⟨S, e, rfl, rfl⟩
  · intro D c pre hp
    exact G.pu fun h => h.elim
theorem first_spec (p : Nat) (ys : List SymD) : Ctr Try.prog 30 [.pointer (some ⟨p, 0, none⟩)] [SetASS p ys] (fun v M => v = (hd ys).val ∧ M = [SetASS p ys]) := by
  refine spec_of Try.func30 rfl Try.ntmps30 rfl fun w0 F => ?_
  -- ponder/pick.first
  repeat (first | refine g_endt ?_ | refine g_end ?_ | refine g_then ?_ | refine g_in_normal ?_ | refine g_then_ret ?_ | refine g_in_ret ?_ | refine g_then_exit ?_ | refine g_in_exit rfl ?_ | refine g_in_exit_ne (by decide) ?_ | refine g_seq ?_ | refine g_region ?_ | refine g_block ?_ | refine g_ret ?_ | refine g_return_n ?_ | refine g_exit ?_ | refine g_skip ?_)
  refine o_alloc fun r => ?_
  first | refine g_endt ?_ | refine g_end ?_
  repeat (first | refine g_endt ?_ | refine g_end ?_ | refine g_then ?_ | refine g_in_normal ?_ | refine g_then_ret ?_ | refine g_in_ret ?_ | refine g_then_exit ?_ | refine g_in_exit rfl ?_ | refine g_in_exit_ne (by decide) ?_ | refine g_seq ?_ | refine g_region ?_ | refine g_block ?_ | refine g_ret ?_ | refine g_return_n ?_ | refine g_exit ?_ | refine g_skip ?_)
  refine o_move ?_
  refine o_call (AtSS_spec p 0 ys) rfl rfl ?_
  rintro _ _ ⟨rfl, rfl⟩
  refine o_move ?_
  refine o_extract rfl rfl ?_
  refine o_extract rfl rfl ?_
  refine o_alloc fun c => ?_
  refine o_store (v := (hd ys).val) rfl rfl rfl rfl rfl ?_
  refine o_assign ?_
  first | refine g_endt ?_ | refine g_end ?_
  refine G.norm c (hd ys).val.cells rfl ?_
  repeat (first | refine g_endt ?_ | refine g_end ?_ | refine g_then ?_ | refine g_in_normal ?_ | refine g_then_ret ?_ | refine g_in_ret ?_ | refine g_then_exit ?_ | refine g_in_exit rfl ?_ | refine g_in_exit_ne (by decide) ?_ | refine g_seq ?_ | refine g_region ?_ | refine g_block ?_ | refine g_ret ?_ | refine g_return_n ?_ | refine g_exit ?_ | refine g_skip ?_)
  refine o_loadN (v := (hd ys).val) rfl rfl rfl ?_
  refine o_store (v := (hd ys).val) rfl rfl rfl rfl rfl ?_
  first | refine g_endt ?_ | refine g_end ?_
  refine G.norm r (hd ys).val.cells rfl ?_
  repeat (first | refine g_endt ?_ | refine g_end ?_ | refine g_then ?_ | refine g_in_normal ?_ | refine g_then_ret ?_ | refine g_in_ret ?_ | refine g_then_exit ?_ | refine g_in_exit rfl ?_ | refine g_in_exit_ne (by decide) ?_ | refine g_seq ?_ | refine g_region ?_ | refine g_block ?_ | refine g_ret ?_ | refine g_return_n ?_ | refine g_exit ?_ | refine g_skip ?_)
  exact ret1 (K := [SetASS p ys]) rfl (resCN (v := (hd ys).val) rfl rfl rfl) ⟨rfl, rfl⟩
theorem candP_len (xs : List PrefD) : (candP xs).length ≤ xs.length :=
  Nat.le_trans (List.length_filter_le _ _) (Nat.le_trans (List.length_filter_le _ _) (valsP_len xs 1))
theorem candP_srt (xs : List PrefD) : Srt SymD.cmp (candP xs) := ((valsP_srt xs 1).filter _).filter _
theorem Candidates_spec (gf : FuncId) (lb : List Value) (xs : List PrefD) (hl : xs.length ≤ 100000) (Ks : List SProp) [En Try.prog gf] (hit : ∀ K, Iter Try.prog gf lb encVP xs (K ++ Ks)) :
    Ctr Try.prog 19 [.func (.func gf) #[] lb.toArray] Ks (fun v M => ∃ p, v = .pointer (some ⟨p, 0, none⟩) ∧ M = SetASS p (candP xs) :: Ks) := by
  have h1 := valsP_len xs 1
  have h2 := valsP_len xs 2
  have h4 := valsP_len xs 4
  have hf : ((valsP xs 1).filter fun v => !hasC SymD.cmp (valsP xs 2) v).length ≤ (valsP xs 1).length := List.length_filter_le _ _
  refine spec_of Try.func19 rfl Try.ntmps19 rfl fun w0 F => ?_
  -- ponder/pick.Candidates
  repeat (first | refine g_endt ?_ | refine g_end ?_ | refine g_then ?_ | refine g_in_normal ?_ | refine g_then_ret ?_ | refine g_in_ret ?_ | refine g_then_exit ?_ | refine g_in_exit rfl ?_ | refine g_in_exit_ne (by decide) ?_ | refine g_seq ?_ | refine g_region ?_ | refine g_block ?_ | refine g_ret ?_ | refine g_return_n ?_ | refine g_exit ?_ | refine g_skip ?_)
  refine o_assign ?_
  first | refine g_endt ?_ | refine g_end ?_
  repeat (first | refine g_endt ?_ | refine g_end ?_ | refine g_then ?_ | refine g_in_normal ?_ | refine g_then_ret ?_ | refine g_in_ret ?_ | refine g_then_exit ?_ | refine g_in_exit rfl ?_ | refine g_in_exit_ne (by decide) ?_ | refine g_seq ?_ | refine g_region ?_ | refine g_block ?_ | refine g_ret ?_ | refine g_return_n ?_ | refine g_exit ?_ | refine g_skip ?_)
  refine o_move ?_
  refine o_call (with_spec gf lb xs hl 1 Ks hit) rfl rfl ?_
  rintro _ _ ⟨p1, rfl, rfl⟩
  refine o_move ?_
  refine o_call (with_spec gf lb xs hl 2 Ks hit) rfl rfl ?_
  rintro _ _ ⟨p2, rfl, rfl⟩
  refine o_call (LessSS_spec p1 p2 (valsP xs 1) (valsP xs 2) (valsP_srt xs 2) (by omega) (by omega)) rfl rfl ?_
  rintro _ _ ⟨p3, rfl, rfl⟩
  refine o_move ?_
  refine o_call (with_spec gf lb xs hl 4 Ks hit) rfl rfl ?_
  rintro _ _ ⟨p4, rfl, rfl⟩
  refine o_call (LessSS_spec p3 p4 ((valsP xs 1).filter fun v => !hasC SymD.cmp (valsP xs 2) v) (valsP xs 4) (valsP_srt xs 4) (by omega) (by omega)) rfl rfl ?_
  rintro _ _ ⟨p5, rfl, rfl⟩
  refine o_assign ?_
  first | refine g_endt ?_ | refine g_end ?_
  have e : (((valsP xs 1).filter fun v => !hasC SymD.cmp (valsP xs 2) v).filter fun v => !hasC SymD.cmp (valsP xs 4) v) = candP xs := by
    simp only [hasC_vals]; rfl
  rw [e]
  repeat (first | refine g_endt ?_ | refine g_end ?_ | refine g_then ?_ | refine g_in_normal ?_ | refine g_then_ret ?_ | refine g_in_ret ?_ | refine g_then_exit ?_ | refine g_in_exit rfl ?_ | refine g_in_exit_ne (by decide) ?_ | refine g_seq ?_ | refine g_region ?_ | refine g_block ?_ | refine g_ret ?_ | refine g_return_n ?_ | refine g_exit ?_ | refine g_skip ?_)
  exact ret1 (K := SetASS p5 (candP xs) :: Ks) rfl (resT rfl) ⟨p5, rfl, rfl⟩
end Go.Proofs.Ytljiooihhfndjaa
/- Numbers within bounds. -/
namespace Go.Proofs.Ytljiooihhfndjaa
open Go Go.Sl
attribute [local irreducible] Code.wpIn roundPost bodyPostM runL Ret Meets Begin

theorem within_tmod (a : Int) (n : Nat) (hn : 0 < n) : (if a.tmod n < 0 then a.tmod n + n else a.tmod n) = ((a % (n : Int)).toNat : Int) ∧ -(n : Int) < a.tmod n ∧ a.tmod n < n := by
  have h0 : 0 ≤ a % (n : Int) := Int.emod_nonneg _ (by omega)
  have h1 : a % (n : Int) < n := Int.emod_lt_of_pos _ (by omega)
  rw [Int.toNat_of_nonneg h0, Int.tmod_eq_emod]
  by_cases hc : 0 ≤ a ∨ (n : Int) ∣ a
  · rw [if_pos hc]
    exact ⟨by rw [if_neg (by omega)]; omega, by omega, by omega⟩
  · rw [if_neg hc]
    simp only [Int.natAbs_natCast]
    have h3 : a % (n : Int) ≠ 0 := fun e => hc (.inr (Int.dvd_of_emod_eq_zero e))
    exact ⟨by rw [if_pos (by omega)]; omega, by omega, by omega⟩
theorem Within_spec (a : Int) (n : Nat) (hn : 0 < n) (hn2 : n ≤ 1000000000) : Ctr Try.prog 15 [.int .i64 a, .int .i64 (n : Int)] [] (fun v M => v = .int .i64 ((a % (n : Int)).toNat : Int) ∧ M = []) := by
  obtain ⟨h1, h2, h3⟩ := within_tmod a n hn
  refine spec_of Try.func15 rfl Try.ntmps15 rfl fun w0 F => ?_
  -- ponder/ponderkeep.Within
  repeat (first | refine g_endt ?_ | refine g_end ?_ | refine g_then ?_ | refine g_in_normal ?_ | refine g_then_ret ?_ | refine g_in_ret ?_ | refine g_then_exit ?_ | refine g_in_exit rfl ?_ | refine g_in_exit_ne (by decide) ?_ | refine g_seq ?_ | refine g_region ?_ | refine g_block ?_ | refine g_ret ?_ | refine g_return_n ?_ | refine g_exit ?_ | refine g_skip ?_)
  refine o_assign ?_
  first | refine g_endt ?_ | refine g_end ?_
  repeat (first | refine g_endt ?_ | refine g_end ?_ | refine g_then ?_ | refine g_in_normal ?_ | refine g_then_ret ?_ | refine g_in_ret ?_ | refine g_then_exit ?_ | refine g_in_exit rfl ?_ | refine g_in_exit_ne (by decide) ?_ | refine g_seq ?_ | refine g_region ?_ | refine g_block ?_ | refine g_ret ?_ | refine g_return_n ?_ | refine g_exit ?_ | refine g_skip ?_)
  refine o_move ?_
  refine o_lss rfl rfl ?_
  first | refine g_endt ?_ | refine g_end ?_
  first | refine g_seq (g_cond_f rfl (by simp; omega) ?_) | refine g_cond_f rfl (by simp; omega) ?_
  repeat (first | refine g_endt ?_ | refine g_end ?_ | refine g_then ?_ | refine g_in_normal ?_ | refine g_then_ret ?_ | refine g_in_ret ?_ | refine g_then_exit ?_ | refine g_in_exit rfl ?_ | refine g_in_exit_ne (by decide) ?_ | refine g_seq ?_ | refine g_region ?_ | refine g_block ?_ | refine g_ret ?_ | refine g_return_n ?_ | refine g_exit ?_ | refine g_skip ?_)
  refine o_move ?_
  refine o_move ?_
  refine o_rem rfl rfl (by omega) ?_
  refine o_assign ?_
  first | refine g_endt ?_ | refine g_end ?_
  generalize a.tmod n = t at h1 h2 h3 ⊢
  repeat (first | refine g_endt ?_ | refine g_end ?_ | refine g_then ?_ | refine g_in_normal ?_ | refine g_then_ret ?_ | refine g_in_ret ?_ | refine g_then_exit ?_ | refine g_in_exit rfl ?_ | refine g_in_exit_ne (by decide) ?_ | refine g_seq ?_ | refine g_region ?_ | refine g_block ?_ | refine g_ret ?_ | refine g_return_n ?_ | refine g_exit ?_ | refine g_skip ?_)
  refine o_move ?_
  refine o_lss rfl rfl ?_
  first | refine g_endt ?_ | refine g_end ?_
  by_cases h : t < 0
  · first | refine g_seq (g_cond_t rfl (by simpa using h) ?_) | refine g_cond_t rfl (by simpa using h) ?_
    rw [if_pos h] at h1
    repeat (first | refine g_endt ?_ | refine g_end ?_ | refine g_then ?_ | refine g_in_normal ?_ | refine g_then_ret ?_ | refine g_in_ret ?_ | refine g_then_exit ?_ | refine g_in_exit rfl ?_ | refine g_in_exit_ne (by decide) ?_ | refine g_seq ?_ | refine g_region ?_ | refine g_block ?_ | refine g_ret ?_ | refine g_return_n ?_ | refine g_exit ?_ | refine g_skip ?_)
    refine o_move ?_
    refine o_move ?_
    refine o_add (c := ((a % (n : Int)).toNat : Int)) rfl rfl h1 (by omega) (by omega) ?_
    refine o_assign ?_
    first | refine g_endt ?_ | refine g_end ?_
    repeat (first | refine g_endt ?_ | refine g_end ?_ | refine g_then ?_ | refine g_in_normal ?_ | refine g_then_ret ?_ | refine g_in_ret ?_ | refine g_then_exit ?_ | refine g_in_exit rfl ?_ | refine g_in_exit_ne (by decide) ?_ | refine g_seq ?_ | refine g_region ?_ | refine g_block ?_ | refine g_ret ?_ | refine g_return_n ?_ | refine g_exit ?_ | refine g_skip ?_)
    refine o_move ?_
    refine o_assign ?_
    first | refine g_endt ?_ | refine g_end ?_
    repeat (first | refine g_endt ?_ | refine g_end ?_ | refine g_then ?_ | refine g_in_normal ?_ | refine g_then_ret ?_ | refine g_in_ret ?_ | refine g_then_exit ?_ | refine g_in_exit rfl ?_ | refine g_in_exit_ne (by decide) ?_ | refine g_seq ?_ | refine g_region ?_ | refine g_block ?_ | refine g_ret ?_ | refine g_return_n ?_ | refine g_exit ?_ | refine g_skip ?_)
    exact ret1 rfl (resT rfl) ⟨rfl, rfl⟩
  · first | refine g_seq (g_cond_f rfl (by simpa using h) ?_) | refine g_cond_f rfl (by simpa using h) ?_
    rw [if_neg h] at h1
    repeat (first | refine g_endt ?_ | refine g_end ?_ | refine g_then ?_ | refine g_in_normal ?_ | refine g_then_ret ?_ | refine g_in_ret ?_ | refine g_then_exit ?_ | refine g_in_exit rfl ?_ | refine g_in_exit_ne (by decide) ?_ | refine g_seq ?_ | refine g_region ?_ | refine g_block ?_ | refine g_ret ?_ | refine g_return_n ?_ | refine g_exit ?_ | refine g_skip ?_)
    refine o_move ?_
    refine o_assign ?_
    first | refine g_endt ?_ | refine g_end ?_
    repeat (first | refine g_endt ?_ | refine g_end ?_ | refine g_then ?_ | refine g_in_normal ?_ | refine g_then_ret ?_ | refine g_in_ret ?_ | refine g_then_exit ?_ | refine g_in_exit rfl ?_ | refine g_in_exit_ne (by decide) ?_ | refine g_seq ?_ | refine g_region ?_ | refine g_block ?_ | refine g_ret ?_ | refine g_return_n ?_ | refine g_exit ?_ | refine g_skip ?_)
    rw [h1]
    exact ret1 rfl (resT rfl) ⟨rfl, rfl⟩
end Go.Proofs.Ytljiooihhfndjaa
/- What a decision comes to: the walk. -/
namespace Go.Proofs.Ytljiooihhfndjaa
open Go Go.Sl
attribute [local irreducible] Code.wpIn roundPost bodyPostM runL Ret Meets Begin

def chV (k : Int) (v : SymD) (S : Option Addr) (n c : Nat) (d : Bool) : Value := .agg #[.int .i64 k, .int .i64 v.kind, .string v.text, .int .i64 v.n, .slice S n c, .bool d]
abbrev cS (c p : Nat) : SProp := cellsB c #[.pointer (some ⟨p, 0, none⟩)] 46
abbrev cP (c p : Nat) : SProp := cellsB c #[.pointer (some ⟨p, 0, none⟩)] 61
abbrev cY (c : Nat) (s : SymD) : SProp := cellsB c s.val.cells 26
abbrev cCh (r : Nat) (v : Value) : SProp := cellsB r v.cells 29
abbrev pS (b p : Nat) : SProp := pblk b (.cells #[.pointer (some ⟨p, 0, none⟩)] 46 (0, 0))
/-! ### Plain -/
def clP (l : List PrefD) (c pre : List SymD) : List SymD := pre.filter fun a => c.any fun b => !a.beq b && (bett l b a && bett l a b)
def lfP (l : List PrefD) (c pre : List SymD) : List SymD := pre.filter fun a => !(c.any fun b => !a.beq b && bett l b a)
def anyC (l : List PrefD) (a : SymD) (q : List SymD) : Bool := q.any fun b => !a.beq b && (bett l b a && bett l a b)
def anyB (l : List PrefD) (a : SymD) (q : List SymD) : Bool := q.any fun b => !a.beq b && bett l b a
theorem anyC_snoc (l : List PrefD) (a b : SymD) (q : List SymD) : anyC l a (q ++ [b]) = (anyC l a q || (!a.beq b && (bett l b a && bett l a b))) := by simp [anyC]
theorem anyB_snoc (l : List PrefD) (a b : SymD) (q : List SymD) : anyB l a (q ++ [b]) = (anyB l a q || (!a.beq b && bett l b a)) := by simp [anyB]
def optS (b : Bool) (a : SymD) : List SymD := if b then [a] else []
theorem clP_snoc (l : List PrefD) (c pre : List SymD) (a : SymD) : clP l c (pre ++ [a]) = clP l c pre ++ optS (anyC l a c) a := by
  unfold clP
  rw [List.filter_append, List.filter_cons, List.filter_nil]
  rfl
theorem lfP_snoc (l : List PrefD) (c pre : List SymD) (a : SymD) : lfP l c (pre ++ [a]) = lfP l c pre ++ optS (!anyB l a c) a := by
  unfold lfP
  rw [List.filter_append, List.filter_cons, List.filter_nil]
  rfl
theorem tw_all {α : Type} {p : α → Bool} : ∀ {l : List α}, (∀ z ∈ l, p z = true) → l.takeWhile p = l ∧ l.dropWhile p = []
  | [], _ => ⟨rfl, rfl⟩
  | x :: l, h => by
    obtain ⟨a, b⟩ := tw_all fun z hz => h z (List.mem_cons_of_mem _ hz)
    rw [List.takeWhile_cons, List.dropWhile_cons, if_pos (h x List.mem_cons_self), if_pos (h x List.mem_cons_self), a, b]
    exact ⟨rfl, rfl⟩
theorem insC_last {l : List SymD} {a : SymD} (h : ∀ z ∈ l, z.cmp a < 0) : insC SymD.cmp l a = l ++ [a] := by
  unfold insC
  have h1 : (l.any fun y => decide (y.cmp a = 0)) = false := List.any_eq_false.2 fun y hy => by have := h y hy; simp; omega
  obtain ⟨h2, h3⟩ := tw_all (p := fun y : SymD => decide (y.cmp a < 0)) (l := l) fun y hy => decide_eq_true (h y hy)
  rw [h1, h2, h3]
  rfl
theorem insC_same {α : Type} {f : α → α → Int} (lf : LinCmp f) (l : List α) (a : α) : insC f (l ++ [a]) a = l ++ [a] := by
  unfold insC
  rw [if_pos]
  rw [List.any_append, Bool.or_eq_true]
  exact .inr (by simp [lf.refl])
theorem optS_ins {l : List SymD} {a : SymD} (h : ∀ z ∈ l, z.cmp a < 0) (b : Bool) : insC SymD.cmp (l ++ optS b a) a = l ++ optS true a := by
  cases b with
  | true => exact insC_same linSym l a
  | false => rw [show l ++ optS false a = l from List.append_nil l]; exact insC_last h
theorem srt_opt {l : List SymD} {a : SymD} (hs : Srt SymD.cmp l) (h : ∀ z ∈ l, z.cmp a < 0) (b : Bool) : Srt SymD.cmp (l ++ optS b a) := by
  cases b with
  | true => show Srt SymD.cmp (l ++ [a]); rw [← insC_last h]; exact hs.insC linSym a
  | false => rw [show l ++ optS false a = l from List.append_nil l]; exact hs
theorem pre_srt {c pre : List SymD} (hs : Srt SymD.cmp c) (hp : pre <+: c) : Srt SymD.cmp pre := fun i j a b hij ha hb => by
  obtain ⟨t, rfl⟩ := hp
  exact hs i j a b hij (by rw [List.getElem?_append_left (List.getElem?_eq_some_iff.1 ha).1]; exact ha) (by rw [List.getElem?_append_left (List.getElem?_eq_some_iff.1 hb).1]; exact hb)
theorem pre_lt {c pre : List SymD} {a : SymD} (hs : Srt SymD.cmp c) (hp : (pre ++ [a]) <+: c) : ∀ z ∈ pre, z.cmp a < 0 := fun z hz => by
  obtain ⟨i, hi⟩ := List.mem_iff_getElem?.1 hz
  have hil := (List.getElem?_eq_some_iff.1 hi).1
  exact pre_srt hs hp i pre.length z a hil (by rw [List.getElem?_append_left hil]; exact hi) (by simp)
theorem clP_sub {l : List PrefD} {c pre : List SymD} {z : SymD} (h : z ∈ clP l c pre) : z ∈ pre := (List.mem_filter.1 h).1
theorem lfP_sub {l : List PrefD} {c pre : List SymD} {z : SymD} (h : z ∈ lfP l c pre) : z ∈ pre := (List.mem_filter.1 h).1
theorem opt_len (l : List SymD) (b : Bool) (a : SymD) : (l ++ optS b a).length ≤ l.length + 1 := by cases b <;> simp [optS]
theorem eq_symb {a b : SymD} {r : Bool} (h : a.beq b = r) : EqTy Try.prog 26 a.val b.val r := h ▸ eq_sym a b
theorem hasK_spec (p : Nat) (l : List PrefD) (k : Int) (a : SymD) {r : Bool} (h : saidP l k a = r) (hl : (valsP l k).length ≤ 1000000000) : Ctr Try.prog 29 [.pointer (some ⟨p, 0, none⟩), a.val] [SetASS p (valsP l k)] (fun v M => v = .bool r ∧ M = [SetASS p (valsP l k)]) :=
  (hasSS_spec p (valsP l k) a (valsP_srt l k) hl).mono fun v M ⟨h1, h2⟩ => ⟨by rw [h1, hasC_vals, h], h2⟩
theorem likK_spec (p : Nat) (l : List PrefD) (a b : SymD) (hl : (likP l).length ≤ 1000000000) : Ctr Try.prog 34 [.pointer (some ⟨p, 0, none⟩), (PairD.mk a b).val] [SetAPP p (likP l)] (fun v M => v = .bool (like l a b) ∧ M = [SetAPP p (likP l)]) :=
  (hasPP_spec p (likP l) ⟨a, b⟩ (likP_srt l) hl).mono fun v M ⟨h1, h2⟩ => ⟨by rw [h1, hasC_lik], h2⟩
def tie (l : List PrefD) (a b : SymD) : Bool := !a.beq b && (!(saidP l 7 a && saidP l 7 b) && !like l a b)
theorem tiedP_eq (l : List PrefD) (c : List SymD) : tiedP l c = c.any fun a => c.any fun b => tie l a b := rfl
end Go.Proofs.Ytljiooihhfndjaa
/- A continuation hidden: from a point on, only what its ends ask is kept. Plain library, no program in sight. -/
namespace Go.Sl
open Go Go.Proofs

section
variable {w0 : World} {A : SProp} {L : List SProp}
/-- From here on the continuation is a name; what is known of it stands in a hypothesis. -/
theorem g_hide {x : Code} {fe : Fence} {m : Nat} {P : Program} {a : Act} {Q : Exit → Act → World → Prop} (h : ∀ Q' : Exit → Act → World → Prop, (∀ e a w, Q e a w → Q' e a w) → G w0 A L (fun w => x.wpIn fe m P Q' a w)) : G w0 A L (fun w => x.wpIn fe m P Q a w) := h Q fun _ _ _ h => h
theorem g_hideR {ro : Option Nat} {P : Program} {all : Array Oper} {os : List Oper} {a : Act} {Q : Exit → Act → World → Prop} (h : ∀ Q' : Exit → Act → World → Prop, (∀ e a w, Q e a w → Q' e a w) → G w0 A L (fun w => runL ro P all Q' os a w)) : G w0 A L (fun w => runL ro P all Q os a w) := h Q fun _ _ _ h => h
theorem G.imp {Φ Ψ : World → Prop} (hi : ∀ w, Φ w → Ψ w) (h : G w0 A L Φ) : G w0 A L Ψ := h.mono hi
end
end Go.Sl
/- What a decision comes to: the walk, all of it. -/
namespace Go.Proofs.Ytljiooihhfndjaa
open Go Go.Sl
attribute [local irreducible] Exit.then Exit.inBlock Code.wpIn roundPost bodyPostM runL Ret Meets Begin

/-- A tie, told. -/
def TieP (r : Nat) (ys : List SymD) : SProp := ex fun t : Option Addr × Nat => sl [cCh r (chV 1 SymD.zero t.1 ys.length t.2 false), psl encS 3 t.1 ys]
section
variable {w0 : World} {A : SProp} {L M : List SProp} {Φ : World → Prop}
theorem openT (r : Nat) (ys : List SymD) [tk : Take1 L (TieP r ys) M] (h : ∀ S c, G w0 A (cCh r (chV 1 SymD.zero S ys.length c false) :: psl encS 3 S ys :: M) Φ) : G w0 A L Φ :=
  G.perm tk.perm (G.ex fun ⟨S, c⟩ => G.open_sl (h S c))
theorem shutT (r : Nat) (ys : List SymD) (S : Option Addr) (c : Nat) [tk : Take L [cCh r (chV 1 SymD.zero S ys.length c false), psl encS 3 S ys] M] (h : G w0 A (TieP r ys :: M) Φ) : G w0 A L Φ :=
  G.perm tk.perm (G.ent ((sl_append_to _ M).trans (Ent.star (show Ent _ (TieP r ys) from fun _ _ x => ⟨(S, c), x⟩) (Ent.refl _))) h)
end
set_option maxHeartbeats 8000000 in
theorem Decide_spec (gf : FuncId) (lb : List Value) (xs : List PrefD) (hl : xs.length ≤ 10000) (draw : Int) (Ks : List SProp) [En Try.prog gf] (hit : ∀ K, Iter Try.prog gf lb encVP xs (K ++ Ks)) :
    Ctr Try.prog 12 [.func (.func gf) #[] lb.toArray, .int .i64 draw] Ks
      (fun v M => ∃ S c, v = chV (decP xs draw).kind (decP xs draw).value S (decP xs draw).items.length c (decP xs draw).drew ∧ M = psl encS 3 S (decP xs draw).items :: Ks) := by
  have l3 := valsP_len xs 3
  have l4 := valsP_len xs 4
  have l5 := valsP_len xs 5
  have l6 := valsP_len xs 6
  have l7 := valsP_len xs 7
  have lb_ := betP_len xs
  have ll := likP_len xs
  have lc := candP_len xs
  have sc := candP_srt xs
  refine spec_of Try.func12 rfl Try.ntmps12 rfl fun w0 F => ?_
  -- hide
  -- ponder/pick.Decide
  repeat (first | refine g_endt ?_ | refine g_end ?_ | refine g_then ?_ | refine g_in_normal ?_ | refine g_then_ret ?_ | refine g_in_ret ?_ | refine g_then_exit ?_ | refine g_in_exit rfl ?_ | refine g_in_exit_ne (by decide) ?_ | refine g_seq ?_ | refine g_region ?_ | refine g_block ?_ | refine g_ret ?_ | refine g_return_n ?_ | refine g_exit ?_ | refine g_skip ?_)
  refine g_hideR fun Q_ hQ_ => ?_
  refine o_alloc fun r => ?_
  refine g_end (G.imp (hQ_ .normal _) ?_)
  clear hQ_ Q_
  try refine g_then ?_
  refine G.norm r (chV 0 SymD.zero none 0 0 false).cells rfl ?_
  repeat (first | refine g_endt ?_ | refine g_end ?_ | refine g_then ?_ | refine g_in_normal ?_ | refine g_then_ret ?_ | refine g_in_ret ?_ | refine g_then_exit ?_ | refine g_in_exit rfl ?_ | refine g_in_exit_ne (by decide) ?_ | refine g_seq ?_ | refine g_region ?_ | refine g_block ?_ | refine g_ret ?_ | refine g_return_n ?_ | refine g_exit ?_ | refine g_skip ?_)
  refine g_hideR fun Q_ hQ_ => ?_
  refine o_move ?_
  refine o_call (with_spec gf lb xs (by omega) 3 Ks hit) rfl rfl ?_
  rintro _ _ ⟨pm, rfl, rfl⟩
  refine o_assign ?_
  refine g_end (G.imp (hQ_ .normal _) ?_)
  clear hQ_ Q_
  try refine g_then ?_
  repeat (first | refine g_endt ?_ | refine g_end ?_ | refine g_then ?_ | refine g_in_normal ?_ | refine g_then_ret ?_ | refine g_in_ret ?_ | refine g_then_exit ?_ | refine g_in_exit rfl ?_ | refine g_in_exit_ne (by decide) ?_ | refine g_seq ?_ | refine g_region ?_ | refine g_block ?_ | refine g_ret ?_ | refine g_return_n ?_ | refine g_exit ?_ | refine g_skip ?_)
  refine g_hideR fun Q_ hQ_ => ?_
  refine o_move ?_
  refine o_call (LenSS_spec pm (valsP xs 3)) rfl rfl ?_
  rintro _ _ ⟨rfl, rfl⟩
  refine o_gtr rfl rfl ?_
  refine g_end (G.imp (hQ_ .normal _) ?_)
  clear hQ_ Q_
  try refine g_then ?_
  by_cases h3 : valsP xs 3 = []
  · first | refine g_seq (g_cond_f rfl (by rw [h3]; rfl) ?_) | refine g_cond_f rfl (by rw [h3]; rfl) ?_
    have hdec : decP xs draw = if candP xs = [] then ⟨4, SymD.zero, [], false⟩ else if (candP xs).length = 1 then ⟨0, hd (candP xs), [], false⟩ else someP xs draw (candP xs) := by
      unfold decP
      rw [if_neg (fun h => h h3)]
    rw [hdec]
    repeat (first | refine g_endt ?_ | refine g_end ?_ | refine g_then ?_ | refine g_in_normal ?_ | refine g_then_ret ?_ | refine g_in_ret ?_ | refine g_then_exit ?_ | refine g_in_exit rfl ?_ | refine g_in_exit_ne (by decide) ?_ | refine g_seq ?_ | refine g_region ?_ | refine g_block ?_ | refine g_ret ?_ | refine g_return_n ?_ | refine g_exit ?_ | refine g_skip ?_)
    refine g_hideR fun Q_ hQ_ => ?_
    refine o_move ?_
    refine o_call (Candidates_spec gf lb xs (by omega) Ks hit) rfl rfl ?_
    rintro _ _ ⟨pc, rfl, rfl⟩
    refine o_alloc fun c6 => ?_
    refine o_store (v := .pointer (some ⟨pc, 0, none⟩)) rfl rfl rfl rfl rfl ?_
    refine g_end (G.imp (hQ_ .normal _) ?_)
    clear hQ_ Q_
    try refine g_then ?_
    refine G.norm c6 #[.pointer (some ⟨pc, 0, none⟩)] rfl ?_
    generalize candP xs = C at lc sc hdec ⊢
    repeat (first | refine g_endt ?_ | refine g_end ?_ | refine g_then ?_ | refine g_in_normal ?_ | refine g_then_ret ?_ | refine g_in_ret ?_ | refine g_then_exit ?_ | refine g_in_exit rfl ?_ | refine g_in_exit_ne (by decide) ?_ | refine g_seq ?_ | refine g_region ?_ | refine g_block ?_ | refine g_ret ?_ | refine g_return_n ?_ | refine g_exit ?_ | refine g_skip ?_)
    refine g_hideR fun Q_ hQ_ => ?_
    refine o_load1 (v := .pointer (some ⟨pc, 0, none⟩)) rfl rfl ?_
    refine o_call (LenSS_spec pc C) rfl rfl ?_
    rintro _ _ ⟨rfl, rfl⟩
    refine g_end (G.imp (hQ_ .normal _) ?_)
    clear hQ_ Q_
    try refine g_then ?_
    repeat (first | refine g_endt ?_ | refine g_end ?_ | refine g_then ?_ | refine g_in_normal ?_ | refine g_then_ret ?_ | refine g_in_ret ?_ | refine g_then_exit ?_ | refine g_in_exit rfl ?_ | refine g_in_exit_ne (by decide) ?_ | refine g_seq ?_ | refine g_region ?_ | refine g_block ?_ | refine g_ret ?_ | refine g_return_n ?_ | refine g_exit ?_ | refine g_skip ?_)
    refine g_hideR fun Q_ hQ_ => ?_
    refine o_eql rfl rfl ?_
    refine o_assign ?_
    refine g_end (G.imp (hQ_ .normal _) ?_)
    clear hQ_ Q_
    try refine g_then ?_
    by_cases hc0 : C = []
    · rw [if_pos hc0]
      first | refine g_seq (g_cond_t rfl (by rw [hc0]; rfl) ?_) | refine g_cond_t rfl (by rw [hc0]; rfl) ?_
      repeat (first | refine g_endt ?_ | refine g_end ?_ | refine g_then ?_ | refine g_in_normal ?_ | refine g_then_ret ?_ | refine g_in_ret ?_ | refine g_then_exit ?_ | refine g_in_exit rfl ?_ | refine g_in_exit_ne (by decide) ?_ | refine g_seq ?_ | refine g_region ?_ | refine g_block ?_ | refine g_ret ?_ | refine g_return_n ?_ | refine g_exit ?_ | refine g_skip ?_)
      refine g_hideR fun Q_ hQ_ => ?_
      refine o_build ((chV 4 SymD.zero none 0 0 false)) (fun w => by kernel_rfl) ?_
      refine o_store (v := chV 4 SymD.zero none 0 0 false) rfl rfl rfl rfl rfl ?_
      refine g_end (G.imp (hQ_ .normal _) ?_)
      clear hQ_ Q_
      try refine g_then ?_
      refine G.norm r (chV 4 SymD.zero none 0 0 false).cells rfl ?_
      refine G.nil_slice 26 encS 3 ?_
      refine G.freeze_slice ?_
      repeat (first | refine g_endt ?_ | refine g_end ?_ | refine g_then ?_ | refine g_in_normal ?_ | refine g_then_ret ?_ | refine g_in_ret ?_ | refine g_then_exit ?_ | refine g_in_exit rfl ?_ | refine g_in_exit_ne (by decide) ?_ | refine g_seq ?_ | refine g_region ?_ | refine g_block ?_ | refine g_ret ?_ | refine g_return_n ?_ | refine g_exit ?_ | refine g_skip ?_)
      exact ret1 (K := psl encS 3 none ([] : List SymD) :: Ks) rfl (resCN (v := chV 4 SymD.zero none 0 0 false) rfl rfl rfl) ⟨none, 0, rfl, rfl⟩
    rw [if_neg hc0]
    have hcp : 0 < C.length := List.length_pos_iff.2 hc0
    first | refine g_seq (g_cond_f rfl (by simp; omega) ?_) | refine g_cond_f rfl (by simp; omega) ?_
    repeat (first | refine g_endt ?_ | refine g_end ?_ | refine g_then ?_ | refine g_in_normal ?_ | refine g_then_ret ?_ | refine g_in_ret ?_ | refine g_then_exit ?_ | refine g_in_exit rfl ?_ | refine g_in_exit_ne (by decide) ?_ | refine g_seq ?_ | refine g_region ?_ | refine g_block ?_ | refine g_ret ?_ | refine g_return_n ?_ | refine g_exit ?_ | refine g_skip ?_)
    refine g_hideR fun Q_ hQ_ => ?_
    refine o_eql rfl rfl ?_
    refine o_assign ?_
    refine g_end (G.imp (hQ_ .normal _) ?_)
    clear hQ_ Q_
    try refine g_then ?_
    by_cases hc1 : C.length = 1
    · rw [if_pos hc1]
      first | refine g_seq (g_cond_t rfl (by rw [hc1]; rfl) ?_) | refine g_cond_t rfl (by rw [hc1]; rfl) ?_
      repeat (first | refine g_endt ?_ | refine g_end ?_ | refine g_then ?_ | refine g_in_normal ?_ | refine g_then_ret ?_ | refine g_in_ret ?_ | refine g_then_exit ?_ | refine g_in_exit rfl ?_ | refine g_in_exit_ne (by decide) ?_ | refine g_seq ?_ | refine g_region ?_ | refine g_block ?_ | refine g_ret ?_ | refine g_return_n ?_ | refine g_exit ?_ | refine g_skip ?_)
      refine g_hideR fun Q_ hQ_ => ?_
      refine o_load1 (v := .pointer (some ⟨pc, 0, none⟩)) rfl rfl ?_
      refine o_call (first_spec pc C) rfl rfl ?_
      rintro _ _ ⟨rfl, rfl⟩
      refine o_build ((chV 0 (hd C) none 0 0 false)) (fun w => by kernel_rfl) ?_
      refine o_store (v := chV 0 (hd C) none 0 0 false) rfl rfl rfl rfl rfl ?_
      refine g_end (G.imp (hQ_ .normal _) ?_)
      clear hQ_ Q_
      try refine g_then ?_
      refine G.norm r (chV 0 (hd C) none 0 0 false).cells rfl ?_
      refine G.nil_slice 26 encS 3 ?_
      refine G.freeze_slice ?_
      repeat (first | refine g_endt ?_ | refine g_end ?_ | refine g_then ?_ | refine g_in_normal ?_ | refine g_then_ret ?_ | refine g_in_ret ?_ | refine g_then_exit ?_ | refine g_in_exit rfl ?_ | refine g_in_exit_ne (by decide) ?_ | refine g_seq ?_ | refine g_region ?_ | refine g_block ?_ | refine g_ret ?_ | refine g_return_n ?_ | refine g_exit ?_ | refine g_skip ?_)
      exact ret1 (K := psl encS 3 none ([] : List SymD) :: Ks) rfl (resCN (v := chV 0 (hd C) none 0 0 false) rfl rfl rfl) ⟨none, 0, rfl, rfl⟩
    rw [if_neg hc1]
    first | refine g_seq (g_cond_f rfl (by simp; omega) ?_) | refine g_cond_f rfl (by simp; omega) ?_
    repeat (first | refine g_endt ?_ | refine g_end ?_ | refine g_then ?_ | refine g_in_normal ?_ | refine g_then_ret ?_ | refine g_in_ret ?_ | refine g_then_exit ?_ | refine g_in_exit rfl ?_ | refine g_in_exit_ne (by decide) ?_ | refine g_seq ?_ | refine g_region ?_ | refine g_block ?_ | refine g_ret ?_ | refine g_return_n ?_ | refine g_exit ?_ | refine g_skip ?_)
    refine g_hideR fun Q_ hQ_ => ?_
    refine o_move ?_
    refine o_call (betters_spec gf lb xs (by omega) Ks hit) rfl rfl ?_
    rintro _ _ ⟨pb, rfl, rfl⟩
    refine o_alloc fun c7 => ?_
    refine o_store (v := .pointer (some ⟨pb, 0, none⟩)) rfl rfl rfl rfl rfl ?_
    refine g_end (G.imp (hQ_ .normal _) ?_)
    clear hQ_ Q_
    try refine g_then ?_
    refine G.norm c7 #[.pointer (some ⟨pb, 0, none⟩)] rfl ?_
    repeat (first | refine g_endt ?_ | refine g_end ?_ | refine g_then ?_ | refine g_in_normal ?_ | refine g_then_ret ?_ | refine g_in_ret ?_ | refine g_then_exit ?_ | refine g_in_exit rfl ?_ | refine g_in_exit_ne (by decide) ?_ | refine g_seq ?_ | refine g_region ?_ | refine g_block ?_ | refine g_ret ?_ | refine g_return_n ?_ | refine g_exit ?_ | refine g_skip ?_)
    refine g_hideR fun Q_ hQ_ => ?_
    refine o_call (NewSS_spec) rfl rfl ?_
    rintro _ _ ⟨cl, rfl, rfl⟩
    refine o_call (NewSS_spec) rfl rfl ?_
    rintro _ _ ⟨lf, rfl, rfl⟩
    refine o_alloc fun c8 => ?_
    refine o_alloc fun c9 => ?_
    refine o_store (v := .pointer (some ⟨cl, 0, none⟩)) rfl rfl rfl rfl rfl ?_
    refine o_store (v := .pointer (some ⟨lf, 0, none⟩)) rfl rfl rfl rfl rfl ?_
    refine g_end (G.imp (hQ_ .normal _) ?_)
    clear hQ_ Q_
    try refine g_then ?_
    refine G.norm c8 #[.pointer (some ⟨cl, 0, none⟩)] rfl ?_
    refine G.norm c9 #[.pointer (some ⟨lf, 0, none⟩)] rfl ?_
    repeat (first | refine g_endt ?_ | refine g_end ?_ | refine g_then ?_ | refine g_in_normal ?_ | refine g_then_ret ?_ | refine g_in_ret ?_ | refine g_then_exit ?_ | refine g_in_exit rfl ?_ | refine g_in_exit_ne (by decide) ?_ | refine g_seq ?_ | refine g_region ?_ | refine g_block ?_ | refine g_ret ?_ | refine g_return_n ?_ | refine g_exit ?_ | refine g_skip ?_)
    refine g_hideR fun Q_ hQ_ => ?_
    refine o_load1 (v := .pointer (some ⟨pc, 0, none⟩)) rfl rfl ?_
    refine o_call (AllSS_spec pc) rfl rfl ?_
    rintro _ _ ⟨b1, rfl, rfl⟩
    refine g_end (G.imp (hQ_ .normal _) ?_)
    clear hQ_ Q_
    try refine g_then ?_
    repeat (first | refine g_endt ?_ | refine g_end ?_ | refine g_then ?_ | refine g_in_normal ?_ | refine g_then_ret ?_ | refine g_in_ret ?_ | refine g_then_exit ?_ | refine g_in_exit rfl ?_ | refine g_in_exit_ne (by decide) ?_ | refine g_seq ?_ | refine g_region ?_ | refine g_block ?_ | refine g_ret ?_ | refine g_return_n ?_ | refine g_exit ?_ | refine g_skip ?_)
    refine g_range (ps := [62]) (lb := [.pointer (some ⟨b1, 0, none⟩)]) (enc := SymD.enc') (xs := C) rfl
      (fun pre => SetASS cl (clP xs C pre) :: SetASS lf (lfP xs C pre) :: SetASS pc C :: SetAPP pb (betP xs) :: cS c6 pc :: cP c7 pb :: cS c8 cl :: cS c9 lf :: pS b1 pc :: cCh r (chV 0 SymD.zero none 0 0 false) :: Ks) (fun _ _ => [pu False])
      (fun K => All1SS_iter pc b1 C (by omega) _) (fun _ => rfl) (tk := (inferInstance : Take _ (SetASS cl [] :: SetASS lf [] :: SetASS pc C :: SetAPP pb (betP xs) :: cS c6 pc :: cP c7 pb :: cS c8 cl :: cS c9 lf :: pS b1 pc :: cCh r (chV 0 SymD.zero none 0 0 false) :: Ks) _)) ?_ ?_ ?_
    · intro w0 F l rr pre a hp
      have hlen := pre_len hp
      have hlt := pre_lt sc hp
      have hps := pre_srt sc ((List.prefix_append pre [a]).trans hp)
      have hcs : Srt SymD.cmp (clP xs C pre) := hps.filter _
      have hls : Srt SymD.cmp (lfP xs C pre) := hps.filter _
      have hcl : ∀ z ∈ clP xs C pre, z.cmp a < 0 := fun z hz => hlt z (clP_sub hz)
      have hll : ∀ z ∈ lfP xs C pre, z.cmp a < 0 := fun z hz => hlt z (lfP_sub hz)
      have hcn : (clP xs C pre).length ≤ pre.length := List.length_filter_le _ _
      have hln : (lfP xs C pre).length ≤ pre.length := List.length_filter_le _ _
      have es := clP_snoc xs C pre a
      have el := lfP_snoc xs C pre a
      repeat (first | refine g_endt ?_ | refine g_end ?_ | refine g_then ?_ | refine g_in_normal ?_ | refine g_then_ret ?_ | refine g_in_ret ?_ | refine g_then_exit ?_ | refine g_in_exit rfl ?_ | refine g_in_exit_ne (by decide) ?_ | refine g_seq ?_ | refine g_region ?_ | refine g_block ?_ | refine g_ret ?_ | refine g_return_n ?_ | refine g_exit ?_ | refine g_skip ?_)
      refine g_hideR fun Q_ hQ_ => ?_
      refine o_alloc fun c10 => ?_
      refine o_store (v := a.val) rfl rfl rfl rfl rfl ?_
      refine g_end (G.imp (hQ_ .normal _) ?_)
      clear hQ_ Q_
      try refine g_then ?_
      refine G.norm c10 a.val.cells rfl ?_
      repeat (first | refine g_endt ?_ | refine g_end ?_ | refine g_then ?_ | refine g_in_normal ?_ | refine g_then_ret ?_ | refine g_in_ret ?_ | refine g_then_exit ?_ | refine g_in_exit rfl ?_ | refine g_in_exit_ne (by decide) ?_ | refine g_seq ?_ | refine g_region ?_ | refine g_block ?_ | refine g_ret ?_ | refine g_return_n ?_ | refine g_exit ?_ | refine g_skip ?_)
      refine g_begin ?_
      repeat (first | refine g_endt ?_ | refine g_end ?_ | refine g_then ?_ | refine g_in_normal ?_ | refine g_then_ret ?_ | refine g_in_ret ?_ | refine g_then_exit ?_ | refine g_in_exit rfl ?_ | refine g_in_exit_ne (by decide) ?_ | refine g_seq ?_ | refine g_region ?_ | refine g_block ?_ | refine g_ret ?_ | refine g_return_n ?_ | refine g_exit ?_ | refine g_skip ?_)
      refine g_hideR fun Q_ hQ_ => ?_
      refine o_alloc fun c11 => ?_
      refine o_store (v := .bool false) rfl rfl rfl rfl rfl ?_
      refine g_end (G.imp (hQ_ .normal _) ?_)
      clear hQ_ Q_
      try refine g_then ?_
      refine G.norm c11 #[.bool false] rfl ?_
      repeat (first | refine g_endt ?_ | refine g_end ?_ | refine g_then ?_ | refine g_in_normal ?_ | refine g_then_ret ?_ | refine g_in_ret ?_ | refine g_then_exit ?_ | refine g_in_exit rfl ?_ | refine g_in_exit_ne (by decide) ?_ | refine g_seq ?_ | refine g_region ?_ | refine g_block ?_ | refine g_ret ?_ | refine g_return_n ?_ | refine g_exit ?_ | refine g_skip ?_)
      refine g_hideR fun Q_ hQ_ => ?_
      refine o_load1 (v := .pointer (some ⟨pc, 0, none⟩)) rfl rfl ?_
      refine o_call (AllSS_spec pc) rfl rfl ?_
      rintro _ _ ⟨b2, rfl, rfl⟩
      refine g_end (G.imp (hQ_ .normal _) ?_)
      clear hQ_ Q_
      try refine g_then ?_
      repeat (first | refine g_endt ?_ | refine g_end ?_ | refine g_then ?_ | refine g_in_normal ?_ | refine g_then_ret ?_ | refine g_in_ret ?_ | refine g_then_exit ?_ | refine g_in_exit rfl ?_ | refine g_in_exit_ne (by decide) ?_ | refine g_seq ?_ | refine g_region ?_ | refine g_block ?_ | refine g_ret ?_ | refine g_return_n ?_ | refine g_exit ?_ | refine g_skip ?_)
      rw [show clP xs C pre = clP xs C pre ++ optS (anyC xs a []) a from (List.append_nil _).symm] 
      refine g_range_in (ps := [65]) (lb := [.pointer (some ⟨b2, 0, none⟩)]) (enc := SymD.enc') (xs := C) rfl
        (fun q => SetASS cl (clP xs C pre ++ optS (anyC xs a q) a) :: cellsB c11 #[.bool (anyB xs a q)] 4 :: cY c10 a :: SetASS lf (lfP xs C pre) :: SetASS pc C :: SetAPP pb (betP xs) :: cS c6 pc :: cP c7 pb :: cS c8 cl :: cS c9 lf :: pS b1 pc :: pS b2 pc :: cCh r (chV 0 SymD.zero none 0 0 false) :: Ks) (fun _ _ => [pu False])
        (fun K => All1SS_iter pc b2 C (by omega) _) (fun _ => rfl)
        (tk := (inferInstance : Take _ (SetASS cl (clP xs C pre ++ optS (anyC xs a []) a) :: cellsB c11 #[.bool false] 4 :: cY c10 a :: SetASS lf (lfP xs C pre) :: SetASS pc C :: SetAPP pb (betP xs) :: cS c6 pc :: cP c7 pb :: cS c8 cl :: cS c9 lf :: pS b1 pc :: pS b2 pc :: cCh r (chV 0 SymD.zero none 0 0 false) :: Ks) _)) ?_ ?_ ?_
      · intro w1 F1 l1 r1 q b hq
        have ecs := anyC_snoc xs a b q
        have ebs := anyB_snoc xs a b q
        have hol := opt_len (clP xs C pre) (anyC xs a q) a
        have hos := srt_opt hcs hcl (anyC xs a q)
        have hins := optS_ins hcl (anyC xs a q)
        repeat (first | refine g_endt ?_ | refine g_end ?_ | refine g_then ?_ | refine g_in_normal ?_ | refine g_then_ret ?_ | refine g_in_ret ?_ | refine g_then_exit ?_ | refine g_in_exit rfl ?_ | refine g_in_exit_ne (by decide) ?_ | refine g_seq ?_ | refine g_region ?_ | refine g_block ?_ | refine g_ret ?_ | refine g_return_n ?_ | refine g_exit ?_ | refine g_skip ?_)
        refine g_hideR fun Q_ hQ_ => ?_
        refine o_alloc fun c12 => ?_
        refine o_store (v := b.val) rfl rfl rfl rfl rfl ?_
        refine g_end (G.imp (hQ_ .normal _) ?_)
        clear hQ_ Q_
        try refine g_then ?_
        refine G.norm c12 b.val.cells rfl ?_
        repeat (first | refine g_endt ?_ | refine g_end ?_ | refine g_then ?_ | refine g_in_normal ?_ | refine g_then_ret ?_ | refine g_in_ret ?_ | refine g_then_exit ?_ | refine g_in_exit rfl ?_ | refine g_in_exit_ne (by decide) ?_ | refine g_seq ?_ | refine g_region ?_ | refine g_block ?_ | refine g_ret ?_ | refine g_return_n ?_ | refine g_exit ?_ | refine g_skip ?_)
        refine g_begin ?_
        cases hab : a.beq b with
        | true =>
          rw [hab] at ecs ebs
          rw [Bool.not_true, Bool.false_and, Bool.or_false] at ecs ebs
          repeat (first | refine g_endt ?_ | refine g_end ?_ | refine g_then ?_ | refine g_in_normal ?_ | refine g_then_ret ?_ | refine g_in_ret ?_ | refine g_then_exit ?_ | refine g_in_exit rfl ?_ | refine g_in_exit_ne (by decide) ?_ | refine g_seq ?_ | refine g_region ?_ | refine g_block ?_ | refine g_ret ?_ | refine g_return_n ?_ | refine g_exit ?_ | refine g_skip ?_)
          refine g_hideR fun Q_ hQ_ => ?_
          refine o_loadN (v := a.val) rfl rfl rfl ?_
          refine o_loadN (v := b.val) rfl rfl rfl ?_
          refine o_eqty rfl rfl (eq_sym a b) ?_
          rw [hab]
          refine o_move ?_
          first | refine o_unwanted rfl rfl rfl rfl rfl ?_ | refine o_undef rfl rfl rfl ?_
          first | refine o_unwanted rfl rfl rfl rfl rfl ?_ | refine o_undef rfl rfl rfl ?_
          first | refine o_unwanted rfl rfl rfl rfl rfl ?_ | refine o_undef rfl rfl rfl ?_
          first | refine o_unwanted rfl rfl rfl rfl rfl ?_ | refine o_undef rfl rfl rfl ?_
          first | refine o_unwanted rfl rfl rfl rfl rfl ?_ | refine o_undef rfl rfl rfl ?_
          first | (refine o_want rfl rfl rfl rfl rfl ?_; refine o_not rfl ?_) | refine o_unwanted rfl rfl rfl rfl rfl ?_ | refine o_undef rfl rfl rfl ?_
          first | refine o_pick_t rfl rfl ?_ | refine o_pick_f rfl rfl ?_
          refine g_end (G.imp (hQ_ .normal _) ?_)
          clear hQ_ Q_
          try refine g_then ?_
          first | refine g_seq (g_cond_t rfl (by first | rfl | (simp; done) | (simp; omega) | (simp; assumption)) ?_) | refine g_cond_t rfl (by first | rfl | (simp; done) | (simp; omega) | (simp; assumption)) ?_
          rw [← ecs, ← ebs]
          repeat (first | refine g_endt ?_ | refine g_end ?_ | refine g_then ?_ | refine g_in_normal ?_ | refine g_then_ret ?_ | refine g_in_ret ?_ | refine g_then_exit ?_ | refine g_in_exit rfl ?_ | refine g_in_exit_ne (by decide) ?_ | refine g_seq ?_ | refine g_region ?_ | refine g_block ?_ | refine g_ret ?_ | refine g_return_n ?_ | refine g_exit ?_ | refine g_skip ?_)
          exact g_next
        | false =>
          rw [hab] at ecs ebs
          rw [Bool.not_false, Bool.true_and] at ecs ebs
          repeat (first | refine g_endt ?_ | refine g_end ?_ | refine g_then ?_ | refine g_in_normal ?_ | refine g_then_ret ?_ | refine g_in_ret ?_ | refine g_then_exit ?_ | refine g_in_exit rfl ?_ | refine g_in_exit_ne (by decide) ?_ | refine g_seq ?_ | refine g_region ?_ | refine g_block ?_ | refine g_ret ?_ | refine g_return_n ?_ | refine g_exit ?_ | refine g_skip ?_)
          refine g_hideR fun Q_ hQ_ => ?_
          refine o_loadN (v := a.val) rfl rfl rfl ?_
          refine o_loadN (v := b.val) rfl rfl rfl ?_
          refine o_eqty rfl rfl (eq_sym a b) ?_
          rw [hab]
          refine o_move ?_
          refine o_want rfl rfl rfl rfl rfl (o_load1 (v := .pointer (some ⟨pb, 0, none⟩)) rfl rfl ?_)
          refine o_want rfl rfl rfl rfl rfl (o_loadN (v := b.val) rfl rfl rfl ?_)
          refine o_want rfl rfl rfl rfl rfl (o_loadN (v := a.val) rfl rfl rfl ?_)
          refine o_want rfl rfl rfl rfl rfl (o_build ((PairD.mk b a).val) (fun w => by kernel_rfl) ?_)
          refine o_want rfl rfl rfl rfl rfl (o_call (hasPP_spec pb (betP xs) ⟨b, a⟩ (betP_srt xs) (by omega)) rfl rfl ?_)
          rintro _ _ ⟨rfl, rfl⟩
          first | (refine o_want rfl rfl rfl rfl rfl ?_; refine o_not rfl ?_) | refine o_unwanted rfl rfl rfl rfl rfl ?_ | refine o_undef rfl rfl rfl ?_
          first | refine o_pick_t rfl rfl ?_ | refine o_pick_f rfl rfl ?_
          refine g_end (G.imp (hQ_ .normal _) ?_)
          clear hQ_ Q_
          try refine g_then ?_
          cases hba : bett xs b a with
          | false =>
            rw [hba] at ecs ebs
            rw [Bool.false_and, Bool.or_false] at ecs
            rw [Bool.or_false] at ebs
            first | refine g_seq (g_cond_t rfl (by rw [hasC_bet, hba]; rfl) ?_) | refine g_cond_t rfl (by rw [hasC_bet, hba]; rfl) ?_
            rw [← ecs, ← ebs]
            repeat (first | refine g_endt ?_ | refine g_end ?_ | refine g_then ?_ | refine g_in_normal ?_ | refine g_then_ret ?_ | refine g_in_ret ?_ | refine g_then_exit ?_ | refine g_in_exit rfl ?_ | refine g_in_exit_ne (by decide) ?_ | refine g_seq ?_ | refine g_region ?_ | refine g_block ?_ | refine g_ret ?_ | refine g_return_n ?_ | refine g_exit ?_ | refine g_skip ?_)
            exact g_next
          | true =>
            rw [hba] at ecs ebs
            rw [Bool.true_and] at ecs
            rw [Bool.or_true] at ebs
            first | refine g_seq (g_cond_f rfl (by rw [hasC_bet, hba]; rfl) ?_) | refine g_cond_f rfl (by rw [hasC_bet, hba]; rfl) ?_
            repeat (first | refine g_endt ?_ | refine g_end ?_ | refine g_then ?_ | refine g_in_normal ?_ | refine g_then_ret ?_ | refine g_in_ret ?_ | refine g_then_exit ?_ | refine g_in_exit rfl ?_ | refine g_in_exit_ne (by decide) ?_ | refine g_seq ?_ | refine g_region ?_ | refine g_block ?_ | refine g_ret ?_ | refine g_return_n ?_ | refine g_exit ?_ | refine g_skip ?_)
            refine g_hideR fun Q_ hQ_ => ?_
            refine o_store (v := .bool true) rfl rfl rfl rfl rfl ?_
            refine g_end (G.imp (hQ_ .normal _) ?_)
            clear hQ_ Q_
            try refine g_then ?_
            refine G.norm c11 #[.bool true] rfl ?_
            repeat (first | refine g_endt ?_ | refine g_end ?_ | refine g_then ?_ | refine g_in_normal ?_ | refine g_then_ret ?_ | refine g_in_ret ?_ | refine g_then_exit ?_ | refine g_in_exit rfl ?_ | refine g_in_exit_ne (by decide) ?_ | refine g_seq ?_ | refine g_region ?_ | refine g_block ?_ | refine g_ret ?_ | refine g_return_n ?_ | refine g_exit ?_ | refine g_skip ?_)
            refine g_hideR fun Q_ hQ_ => ?_
            refine o_load1 (v := .pointer (some ⟨pb, 0, none⟩)) rfl rfl ?_
            refine o_loadN (v := a.val) rfl rfl rfl ?_
            refine o_loadN (v := b.val) rfl rfl rfl ?_
            refine o_build ((PairD.mk a b).val) (fun w => by kernel_rfl) ?_
            refine o_call (hasPP_spec pb (betP xs) ⟨a, b⟩ (betP_srt xs) (by omega)) rfl rfl ?_
            rintro _ _ ⟨rfl, rfl⟩
            refine g_end (G.imp (hQ_ .normal _) ?_)
            clear hQ_ Q_
            try refine g_then ?_
            cases hab2 : bett xs a b with
            | true =>
              rw [hab2, Bool.or_true] at ecs
              first | refine g_seq (g_cond_t rfl (by rw [hasC_bet, hab2]) ?_) | refine g_cond_t rfl (by rw [hasC_bet, hab2]) ?_
              repeat (first | refine g_endt ?_ | refine g_end ?_ | refine g_then ?_ | refine g_in_normal ?_ | refine g_then_ret ?_ | refine g_in_ret ?_ | refine g_then_exit ?_ | refine g_in_exit rfl ?_ | refine g_in_exit_ne (by decide) ?_ | refine g_seq ?_ | refine g_region ?_ | refine g_block ?_ | refine g_ret ?_ | refine g_return_n ?_ | refine g_exit ?_ | refine g_skip ?_)
              refine g_hideR fun Q_ hQ_ => ?_
              refine o_load1 (v := .pointer (some ⟨cl, 0, none⟩)) rfl rfl ?_
              refine o_loadN (v := a.val) rfl rfl rfl ?_
              refine o_call (PutCSS_spec cl (clP xs C pre ++ optS (anyC xs a q) a) a hos (by omega)) rfl rfl ?_
              rintro _ _ ⟨rfl, rfl⟩
              refine g_end (G.imp (hQ_ .normal _) ?_)
              clear hQ_ Q_
              try refine g_then ?_
              rw [hins]
              repeat (first | refine g_endt ?_ | refine g_end ?_ | refine g_then ?_ | refine g_in_normal ?_ | refine g_then_ret ?_ | refine g_in_ret ?_ | refine g_then_exit ?_ | refine g_in_exit rfl ?_ | refine g_in_exit_ne (by decide) ?_ | refine g_seq ?_ | refine g_region ?_ | refine g_block ?_ | refine g_ret ?_ | refine g_return_n ?_ | refine g_exit ?_ | refine g_skip ?_)
              exact g_next (tk := by
                show Take _ (SetASS cl (clP xs C pre ++ optS (anyC xs a (q ++ [b])) a) :: cellsB c11 #[.bool (anyB xs a (q ++ [b]))] 4 :: _) _
                rw [ecs, ebs]
                infer_instance)
            | false =>
              rw [hab2, Bool.or_false] at ecs
              first | refine g_seq (g_cond_f rfl (by rw [hasC_bet, hab2]) ?_) | refine g_cond_f rfl (by rw [hasC_bet, hab2]) ?_
              rw [← ecs]
              repeat (first | refine g_endt ?_ | refine g_end ?_ | refine g_then ?_ | refine g_in_normal ?_ | refine g_then_ret ?_ | refine g_in_ret ?_ | refine g_then_exit ?_ | refine g_in_exit rfl ?_ | refine g_in_exit_ne (by decide) ?_ | refine g_seq ?_ | refine g_region ?_ | refine g_block ?_ | refine g_ret ?_ | refine g_return_n ?_ | refine g_exit ?_ | refine g_skip ?_)
              exact g_next (tk := by
                show Take _ (SetASS cl (clP xs C pre ++ optS (anyC xs a (q ++ [b])) a) :: cellsB c11 #[.bool (anyB xs a (q ++ [b]))] 4 :: _) _
                rw [ebs]
                infer_instance)
      · skip
        repeat (first | refine g_endt ?_ | refine g_end ?_ | refine g_then ?_ | refine g_in_normal ?_ | refine g_then_ret ?_ | refine g_in_ret ?_ | refine g_then_exit ?_ | refine g_in_exit rfl ?_ | refine g_in_exit_ne (by decide) ?_ | refine g_seq ?_ | refine g_region ?_ | refine g_block ?_ | refine g_ret ?_ | refine g_return_n ?_ | refine g_exit ?_ | refine g_skip ?_)
        refine g_hideR fun Q_ hQ_ => ?_
        refine o_load1 (v := .bool (anyB xs a C)) rfl rfl ?_
        refine o_not rfl ?_
        refine g_end (G.imp (hQ_ .normal _) ?_)
        clear hQ_ Q_
        try refine g_then ?_
        rw [← es]
        cases hb : anyB xs a C with
        | true =>
          rw [hb] at el
          first | refine g_seq (g_cond_f rfl (by first | rfl | (simp; done) | (simp; omega) | (simp; assumption)) ?_) | refine g_cond_f rfl (by first | rfl | (simp; done) | (simp; omega) | (simp; assumption)) ?_
          rw [show lfP xs C pre = lfP xs C (pre ++ [a]) by rw [el]; exact (List.append_nil _).symm]
          repeat (first | refine g_endt ?_ | refine g_end ?_ | refine g_then ?_ | refine g_in_normal ?_ | refine g_then_ret ?_ | refine g_in_ret ?_ | refine g_then_exit ?_ | refine g_in_exit rfl ?_ | refine g_in_exit_ne (by decide) ?_ | refine g_seq ?_ | refine g_region ?_ | refine g_block ?_ | refine g_ret ?_ | refine g_return_n ?_ | refine g_exit ?_ | refine g_skip ?_)
          exact g_next
        | false =>
          rw [hb] at el
          first | refine g_seq (g_cond_t rfl (by first | rfl | (simp; done) | (simp; omega) | (simp; assumption)) ?_) | refine g_cond_t rfl (by first | rfl | (simp; done) | (simp; omega) | (simp; assumption)) ?_
          repeat (first | refine g_endt ?_ | refine g_end ?_ | refine g_then ?_ | refine g_in_normal ?_ | refine g_then_ret ?_ | refine g_in_ret ?_ | refine g_then_exit ?_ | refine g_in_exit rfl ?_ | refine g_in_exit_ne (by decide) ?_ | refine g_seq ?_ | refine g_region ?_ | refine g_block ?_ | refine g_ret ?_ | refine g_return_n ?_ | refine g_exit ?_ | refine g_skip ?_)
          refine g_hideR fun Q_ hQ_ => ?_
          refine o_load1 (v := .pointer (some ⟨lf, 0, none⟩)) rfl rfl ?_
          refine o_loadN (v := a.val) rfl rfl rfl ?_
          refine o_call (PutCSS_spec lf (lfP xs C pre) a hls (by omega)) rfl rfl ?_
          rintro _ _ ⟨rfl, rfl⟩
          refine g_end (G.imp (hQ_ .normal _) ?_)
          clear hQ_ Q_
          try refine g_then ?_
          rw [show insC SymD.cmp (lfP xs C pre) a = lfP xs C (pre ++ [a]) by rw [el, insC_last hll]; rfl]
          repeat (first | refine g_endt ?_ | refine g_end ?_ | refine g_then ?_ | refine g_in_normal ?_ | refine g_then_ret ?_ | refine g_in_ret ?_ | refine g_then_exit ?_ | refine g_in_exit rfl ?_ | refine g_in_exit_ne (by decide) ?_ | refine g_seq ?_ | refine g_region ?_ | refine g_block ?_ | refine g_ret ?_ | refine g_return_n ?_ | refine g_exit ?_ | refine g_skip ?_)
          exact g_next
      · intro c q hq
        exact G.pu fun h => h.elim
    · intro D
      have ecl : clP xs C C = clashP xs C := rfl
      have elf : lfP xs C C = leftP xs C := rfl
      rw [ecl, elf]
      have hcn : (clashP xs C).length ≤ C.length := List.length_filter_le _ _
      have hln : (leftP xs C).length ≤ C.length := List.length_filter_le _ _
      have hls : Srt SymD.cmp (leftP xs C) := sc.filter _
      -- HALF2
      -- HALF2
      -- HALF2
      unfold someP
      repeat (first | refine g_endt ?_ | refine g_end ?_ | refine g_then ?_ | refine g_in_normal ?_ | refine g_then_ret ?_ | refine g_in_ret ?_ | refine g_then_exit ?_ | refine g_in_exit rfl ?_ | refine g_in_exit_ne (by decide) ?_ | refine g_seq ?_ | refine g_region ?_ | refine g_block ?_ | refine g_ret ?_ | refine g_return_n ?_ | refine g_exit ?_ | refine g_skip ?_)
      refine g_hideR fun Q_ hQ_ => ?_
      refine o_load1 (v := .pointer (some ⟨cl, 0, none⟩)) rfl rfl ?_
      refine o_call (LenSS_spec cl (clashP xs C)) rfl rfl ?_
      rintro _ _ ⟨rfl, rfl⟩
      refine o_gtr rfl rfl ?_
      refine g_end (G.imp (hQ_ .normal _) ?_)
      clear hQ_ Q_
      try refine g_then ?_
      by_cases hcl : clashP xs C = []
      · rw [if_neg (fun h => h hcl)]
        first | refine g_seq (g_cond_f rfl (by rw [hcl]; rfl) ?_) | refine g_cond_f rfl (by rw [hcl]; rfl) ?_
        repeat (first | refine g_endt ?_ | refine g_end ?_ | refine g_then ?_ | refine g_in_normal ?_ | refine g_then_ret ?_ | refine g_in_ret ?_ | refine g_then_exit ?_ | refine g_in_exit rfl ?_ | refine g_in_exit_ne (by decide) ?_ | refine g_seq ?_ | refine g_region ?_ | refine g_block ?_ | refine g_ret ?_ | refine g_return_n ?_ | refine g_exit ?_ | refine g_skip ?_)
        refine g_hideR fun Q_ hQ_ => ?_
        refine o_load1 (v := .pointer (some ⟨lf, 0, none⟩)) rfl rfl ?_
        refine o_call (LenSS_spec lf (leftP xs C)) rfl rfl ?_
        rintro _ _ ⟨rfl, rfl⟩
        refine o_eql rfl rfl ?_
        refine g_end (G.imp (hQ_ .normal _) ?_)
        clear hQ_ Q_
        try refine g_then ?_
        by_cases hlf : leftP xs C = []
        · rw [if_pos hlf]
          first | refine g_seq (g_cond_t rfl (by rw [hlf]; rfl) ?_) | refine g_cond_t rfl (by rw [hlf]; rfl) ?_
          repeat (first | refine g_endt ?_ | refine g_end ?_ | refine g_then ?_ | refine g_in_normal ?_ | refine g_then_ret ?_ | refine g_in_ret ?_ | refine g_then_exit ?_ | refine g_in_exit rfl ?_ | refine g_in_exit_ne (by decide) ?_ | refine g_seq ?_ | refine g_region ?_ | refine g_block ?_ | refine g_ret ?_ | refine g_return_n ?_ | refine g_exit ?_ | refine g_skip ?_)
          refine g_hideR fun Q_ hQ_ => ?_
          refine o_load1 (v := .pointer (some ⟨pc, 0, none⟩)) rfl rfl ?_
          refine o_call (list_spec pc C (by omega)) rfl rfl ?_
          rintro _ _ ⟨S, e, rfl, rfl⟩
          refine o_build ((chV 2 SymD.zero S C.length e false)) (fun w => by kernel_rfl) ?_
          refine o_store (v := chV 2 SymD.zero S C.length e false) rfl rfl rfl rfl rfl ?_
          refine g_end (G.imp (hQ_ .normal _) ?_)
          clear hQ_ Q_
          try refine g_then ?_
          refine G.norm r (chV 2 SymD.zero S C.length e false).cells rfl ?_
          refine G.bring [osl 26 encS 3 S e C] ?_
          refine G.frz ?_
          repeat (first | refine g_endt ?_ | refine g_end ?_ | refine g_then ?_ | refine g_in_normal ?_ | refine g_then_ret ?_ | refine g_in_ret ?_ | refine g_then_exit ?_ | refine g_in_exit rfl ?_ | refine g_in_exit_ne (by decide) ?_ | refine g_seq ?_ | refine g_region ?_ | refine g_block ?_ | refine g_ret ?_ | refine g_return_n ?_ | refine g_exit ?_ | refine g_skip ?_)
          exact ret1 (K := psl encS 3 S C :: Ks) rfl (resCN (v := chV 2 SymD.zero S C.length e false) rfl rfl rfl) ⟨S, e, rfl, rfl⟩
        rw [if_neg hlf]
        have hlp : 0 < (leftP xs C).length := List.length_pos_iff.2 hlf
        generalize leftP xs C = Lf at hln hls hlf hlp ⊢
        first | refine g_seq (g_cond_f rfl (by simp; omega) ?_) | refine g_cond_f rfl (by simp; omega) ?_
        repeat (first | refine g_endt ?_ | refine g_end ?_ | refine g_then ?_ | refine g_in_normal ?_ | refine g_then_ret ?_ | refine g_in_ret ?_ | refine g_then_exit ?_ | refine g_in_exit rfl ?_ | refine g_in_exit_ne (by decide) ?_ | refine g_seq ?_ | refine g_region ?_ | refine g_block ?_ | refine g_ret ?_ | refine g_return_n ?_ | refine g_exit ?_ | refine g_skip ?_)
        refine g_hide fun Q_ hQ_ => ?_
        refine g_draw [2,3] [0,1,2,3,4] [cS c9 lf] mixed rfl ?_
        refine ob_q rfl rfl ⟨_, fun X Q h => o_load1 (v := .pointer (some ⟨lf, 0, none⟩)) rfl rfl (g_end (h _ _ ⟨rfl, rfl⟩)), ?_⟩
        refine ob_q rfl rfl ⟨_, fun X Q h => o_move (g_end (h _ _ ⟨rfl, rfl⟩)), ?_⟩
        refine ob_l rfl rfl fun Qz hz => o_call (with_spec gf lb xs (by omega) 5 Ks hit) rfl rfl ?_
        rintro _ _ ⟨p5, rfl, rfl⟩
        refine g_end (hz _ _ ⟨_, ob_fin, ?_⟩)
        clear hz Qz
        refine ob_l rfl rfl fun Qz hz => o_call (MeetSS_spec lf p5 Lf (valsP xs 5) (valsP_srt xs 5) (by omega) (by omega)) rfl rfl ?_
        rintro _ _ ⟨m5, rfl, rfl⟩
        refine g_end (hz _ _ ⟨_, ob_fin, ?_⟩)
        clear hz Qz
        refine ob_q rfl rfl ⟨_, fun X Q h => o_assign (g_end (h _ _ ⟨rfl, rfl⟩)), ?_⟩
        refine ob_nil ?_
        refine G.imp (hQ_ .normal _) ?_
        clear hQ_ Q_
        try refine g_then ?_
        rw [show (Lf.filter fun y => hasC SymD.cmp (valsP xs 5) y) = Lf.filter fun v => saidP xs 5 v by simp only [hasC_vals]]
        refine g_cutk (σ := Nat) (ds' := [D]) (S := fun _ => [(0, .func (.func gf) #[] lb.toArray), (1, .int .i64 draw), (4, .pointer (some ⟨r, 0, none⟩)), (9, .pointer (some ⟨c9, 0, none⟩))]) (H := fun l2 => SetASS l2 (bestP xs Lf) :: cS c9 l2 :: cCh r (chV 0 SymD.zero none 0 0 false) :: Ks) (ok := fun _ => True) ?_ ?_
        · skip
          repeat (first | refine g_endt ?_ | refine g_end ?_ | refine g_then ?_ | refine g_in_normal ?_ | refine g_then_ret ?_ | refine g_in_ret ?_ | refine g_then_exit ?_ | refine g_in_exit rfl ?_ | refine g_in_exit_ne (by decide) ?_ | refine g_seq ?_ | refine g_region ?_ | refine g_block ?_ | refine g_ret ?_ | refine g_return_n ?_ | refine g_exit ?_ | refine g_skip ?_)
          refine g_hideR fun Q_ hQ_ => ?_
          refine o_move ?_
          refine o_call (LenSS_spec m5 (Lf.filter fun v => saidP xs 5 v)) rfl rfl ?_
          rintro _ _ ⟨rfl, rfl⟩
          refine o_gtr rfl rfl ?_
          refine g_end (G.imp (hQ_ .normal _) ?_)
          clear hQ_ Q_
          try refine g_then ?_
          by_cases hb : (Lf.filter fun v => saidP xs 5 v) = []
          · first | refine g_seq (g_cond_f rfl (by rw [hb]; rfl) ?_) | refine g_cond_f rfl (by rw [hb]; rfl) ?_
            rw [show bestP xs Lf = Lf by rw [bestP, orP, if_pos hb]]
            repeat (first | refine g_endt ?_ | refine g_end ?_ | refine g_then ?_ | refine g_in_normal ?_ | refine g_then_ret ?_ | refine g_in_ret ?_ | refine g_then_exit ?_ | refine g_in_exit rfl ?_ | refine g_in_exit_ne (by decide) ?_ | refine g_seq ?_ | refine g_region ?_ | refine g_block ?_ | refine g_ret ?_ | refine g_return_n ?_ | refine g_exit ?_ | refine g_skip ?_)
            exact g_meets lf trivial (Sat.mem ⟨rfl, rfl, rfl, rfl, trivial⟩)
          · have hbp : 0 < (Lf.filter fun v => saidP xs 5 v).length := List.length_pos_iff.2 hb
            first | refine g_seq (g_cond_t rfl (by simp only [gt_iff_lt, decide_eq_true_eq]; omega) ?_) | refine g_cond_t rfl (by simp only [gt_iff_lt, decide_eq_true_eq]; omega) ?_
            repeat (first | refine g_endt ?_ | refine g_end ?_ | refine g_then ?_ | refine g_in_normal ?_ | refine g_then_ret ?_ | refine g_in_ret ?_ | refine g_then_exit ?_ | refine g_in_exit rfl ?_ | refine g_in_exit_ne (by decide) ?_ | refine g_seq ?_ | refine g_region ?_ | refine g_block ?_ | refine g_ret ?_ | refine g_return_n ?_ | refine g_exit ?_ | refine g_skip ?_)
            refine g_hideR fun Q_ hQ_ => ?_
            refine o_move ?_
            refine o_store (v := .pointer (some ⟨m5, 0, none⟩)) rfl rfl rfl rfl rfl ?_
            refine g_end (G.imp (hQ_ .normal _) ?_)
            clear hQ_ Q_
            try refine g_then ?_
            refine G.norm c9 #[.pointer (some ⟨m5, 0, none⟩)] rfl ?_
            rw [show bestP xs Lf = Lf.filter fun v => saidP xs 5 v by rw [bestP, orP, if_neg hb]]
            repeat (first | refine g_endt ?_ | refine g_end ?_ | refine g_then ?_ | refine g_in_normal ?_ | refine g_then_ret ?_ | refine g_in_ret ?_ | refine g_then_exit ?_ | refine g_in_exit rfl ?_ | refine g_in_exit_ne (by decide) ?_ | refine g_seq ?_ | refine g_region ?_ | refine g_block ?_ | refine g_ret ?_ | refine g_return_n ?_ | refine g_exit ?_ | refine g_skip ?_)
            exact g_meets m5 trivial (Sat.mem ⟨rfl, rfl, rfl, rfl, trivial⟩)
        intro l2 ρ2 _
        have hbne : bestP xs Lf ≠ [] := by
          rw [bestP, orP]; split
          · exact hlf
          · rename_i h; exact h
        have hbl : (bestP xs Lf).length ≤ Lf.length := by
          rw [bestP, orP]; split
          · exact Nat.le_refl _
          · exact List.length_filter_le _ _
        generalize bestP xs Lf = Bf at hbne hbl ⊢
        repeat (first | refine g_endt ?_ | refine g_end ?_ | refine g_then ?_ | refine g_in_normal ?_ | refine g_then_ret ?_ | refine g_in_ret ?_ | refine g_then_exit ?_ | refine g_in_exit rfl ?_ | refine g_in_exit_ne (by decide) ?_ | refine g_seq ?_ | refine g_region ?_ | refine g_block ?_ | refine g_ret ?_ | refine g_return_n ?_ | refine g_exit ?_ | refine g_skip ?_)
        repeat (first | refine g_endt ?_ | refine g_end ?_ | refine g_then ?_ | refine g_in_normal ?_ | refine g_then_ret ?_ | refine g_in_ret ?_ | refine g_then_exit ?_ | refine g_in_exit rfl ?_ | refine g_in_exit_ne (by decide) ?_ | refine g_seq ?_ | refine g_region ?_ | refine g_block ?_ | refine g_ret ?_ | refine g_return_n ?_ | refine g_exit ?_ | refine g_skip ?_)
        refine g_hide fun Q_ hQ_ => ?_
        refine g_draw [2,3] [0,1,2,3,4] [cS c9 l2] mixed rfl ?_
        refine ob_q rfl rfl ⟨_, fun X Q h => o_load1 (v := .pointer (some ⟨l2, 0, none⟩)) rfl rfl (g_end (h _ _ ⟨rfl, rfl⟩)), ?_⟩
        refine ob_q rfl rfl ⟨_, fun X Q h => o_move (g_end (h _ _ ⟨rfl, rfl⟩)), ?_⟩
        refine ob_l rfl rfl fun Qz hz => o_call (with_spec gf lb xs (by omega) 6 Ks hit) rfl rfl ?_
        rintro _ _ ⟨p6, rfl, rfl⟩
        refine g_end (hz _ _ ⟨_, ob_fin, ?_⟩)
        clear hz Qz
        refine ob_l rfl rfl fun Qz hz => o_call (LessSS_spec l2 p6 Bf (valsP xs 6) (valsP_srt xs 6) (by omega) (by omega)) rfl rfl ?_
        rintro _ _ ⟨m6, rfl, rfl⟩
        refine g_end (hz _ _ ⟨_, ob_fin, ?_⟩)
        clear hz Qz
        refine ob_q rfl rfl ⟨_, fun X Q h => o_assign (g_end (h _ _ ⟨rfl, rfl⟩)), ?_⟩
        refine ob_nil ?_
        refine G.imp (hQ_ .normal _) ?_
        clear hQ_ Q_
        try refine g_then ?_
        rw [show (Bf.filter fun y => !hasC SymD.cmp (valsP xs 6) y) = Bf.filter fun v => !saidP xs 6 v by simp only [hasC_vals]]
        refine g_cutk (σ := Nat) (ds' := [D]) (S := fun _ => [(0, .func (.func gf) #[] lb.toArray), (1, .int .i64 draw), (4, .pointer (some ⟨r, 0, none⟩)), (9, .pointer (some ⟨c9, 0, none⟩))]) (H := fun l2 => SetASS l2 (fineP xs Bf) :: cS c9 l2 :: cCh r (chV 0 SymD.zero none 0 0 false) :: Ks) (ok := fun _ => True) ?_ ?_
        · skip
          repeat (first | refine g_endt ?_ | refine g_end ?_ | refine g_then ?_ | refine g_in_normal ?_ | refine g_then_ret ?_ | refine g_in_ret ?_ | refine g_then_exit ?_ | refine g_in_exit rfl ?_ | refine g_in_exit_ne (by decide) ?_ | refine g_seq ?_ | refine g_region ?_ | refine g_block ?_ | refine g_ret ?_ | refine g_return_n ?_ | refine g_exit ?_ | refine g_skip ?_)
          refine g_hideR fun Q_ hQ_ => ?_
          refine o_move ?_
          refine o_call (LenSS_spec m6 (Bf.filter fun v => !saidP xs 6 v)) rfl rfl ?_
          rintro _ _ ⟨rfl, rfl⟩
          refine o_gtr rfl rfl ?_
          refine g_end (G.imp (hQ_ .normal _) ?_)
          clear hQ_ Q_
          try refine g_then ?_
          by_cases hb : (Bf.filter fun v => !saidP xs 6 v) = []
          · first | refine g_seq (g_cond_f rfl (by rw [hb]; rfl) ?_) | refine g_cond_f rfl (by rw [hb]; rfl) ?_
            rw [show fineP xs Bf = Bf by rw [fineP, orP, if_pos hb]]
            repeat (first | refine g_endt ?_ | refine g_end ?_ | refine g_then ?_ | refine g_in_normal ?_ | refine g_then_ret ?_ | refine g_in_ret ?_ | refine g_then_exit ?_ | refine g_in_exit rfl ?_ | refine g_in_exit_ne (by decide) ?_ | refine g_seq ?_ | refine g_region ?_ | refine g_block ?_ | refine g_ret ?_ | refine g_return_n ?_ | refine g_exit ?_ | refine g_skip ?_)
            exact g_meets l2 trivial (Sat.mem ⟨rfl, rfl, rfl, rfl, trivial⟩)
          · have hbp : 0 < (Bf.filter fun v => !saidP xs 6 v).length := List.length_pos_iff.2 hb
            first | refine g_seq (g_cond_t rfl (by simp only [gt_iff_lt, decide_eq_true_eq]; omega) ?_) | refine g_cond_t rfl (by simp only [gt_iff_lt, decide_eq_true_eq]; omega) ?_
            repeat (first | refine g_endt ?_ | refine g_end ?_ | refine g_then ?_ | refine g_in_normal ?_ | refine g_then_ret ?_ | refine g_in_ret ?_ | refine g_then_exit ?_ | refine g_in_exit rfl ?_ | refine g_in_exit_ne (by decide) ?_ | refine g_seq ?_ | refine g_region ?_ | refine g_block ?_ | refine g_ret ?_ | refine g_return_n ?_ | refine g_exit ?_ | refine g_skip ?_)
            refine g_hideR fun Q_ hQ_ => ?_
            refine o_move ?_
            refine o_store (v := .pointer (some ⟨m6, 0, none⟩)) rfl rfl rfl rfl rfl ?_
            refine g_end (G.imp (hQ_ .normal _) ?_)
            clear hQ_ Q_
            try refine g_then ?_
            refine G.norm c9 #[.pointer (some ⟨m6, 0, none⟩)] rfl ?_
            rw [show fineP xs Bf = Bf.filter fun v => !saidP xs 6 v by rw [fineP, orP, if_neg hb]]
            repeat (first | refine g_endt ?_ | refine g_end ?_ | refine g_then ?_ | refine g_in_normal ?_ | refine g_then_ret ?_ | refine g_in_ret ?_ | refine g_then_exit ?_ | refine g_in_exit rfl ?_ | refine g_in_exit_ne (by decide) ?_ | refine g_seq ?_ | refine g_region ?_ | refine g_block ?_ | refine g_ret ?_ | refine g_return_n ?_ | refine g_exit ?_ | refine g_skip ?_)
            exact g_meets m6 trivial (Sat.mem ⟨rfl, rfl, rfl, rfl, trivial⟩)
        intro l3 ρ3 _
        have hfne : fineP xs Bf ≠ [] := by
          rw [fineP, orP]; split
          · exact hbne
          · rename_i h; exact h
        have hfl : (fineP xs Bf).length ≤ Bf.length := by
          rw [fineP, orP]; split
          · exact Nat.le_refl _
          · exact List.length_filter_le _ _
        generalize fineP xs Bf = Fi at hfne hfl ⊢
        have hfp : 0 < Fi.length := List.length_pos_iff.2 hfne
        unfold lastP
        refine g_hide fun Q9 hQ9 => ?_
        have hret9 : ∀ (a : Act) (w : World), Ret w0 Try.prog _ F _ .ret a w → Q9 .ret a w := fun a w h => hQ9 _ _ _ h
        clear hQ9
        repeat (first | refine g_endt ?_ | refine g_end ?_ | refine g_then ?_ | refine g_in_normal ?_ | refine g_then_ret ?_ | refine g_in_ret ?_ | refine g_then_exit ?_ | refine g_in_exit rfl ?_ | refine g_in_exit_ne (by decide) ?_ | refine g_seq ?_ | refine g_region ?_ | refine g_block ?_ | refine g_ret ?_ | refine g_return_n ?_ | refine g_exit ?_ | refine g_skip ?_)
        repeat (first | refine g_endt ?_ | refine g_end ?_ | refine g_then ?_ | refine g_in_normal ?_ | refine g_then_ret ?_ | refine g_in_ret ?_ | refine g_then_exit ?_ | refine g_in_exit rfl ?_ | refine g_in_exit_ne (by decide) ?_ | refine g_seq ?_ | refine g_region ?_ | refine g_block ?_ | refine g_ret ?_ | refine g_return_n ?_ | refine g_exit ?_ | refine g_skip ?_)
        refine g_hideR fun Q_ hQ_ => ?_
        refine o_load1 (v := .pointer (some ⟨l3, 0, none⟩)) rfl rfl ?_
        refine o_call (LenSS_spec l3 Fi) rfl rfl ?_
        rintro _ _ ⟨rfl, rfl⟩
        refine o_eql rfl rfl ?_
        refine g_end (G.imp (hQ_ .normal _) ?_)
        clear hQ_ Q_
        try refine g_then ?_
        by_cases hf1 : Fi.length = 1
        · rw [if_pos hf1] at hret9
          first | refine g_seq (g_cond_t rfl (by rw [hf1]; rfl) ?_) | refine g_cond_t rfl (by rw [hf1]; rfl) ?_
          repeat (first | refine g_endt ?_ | refine g_end ?_ | refine g_then ?_ | refine g_in_normal ?_ | refine g_then_ret ?_ | refine g_in_ret ?_ | refine g_then_exit ?_ | refine g_in_exit rfl ?_ | refine g_in_exit_ne (by decide) ?_ | refine g_seq ?_ | refine g_region ?_ | refine g_block ?_ | refine g_ret ?_ | refine g_return_n ?_ | refine g_exit ?_ | refine g_skip ?_)
          refine g_hideR fun Q_ hQ_ => ?_
          refine o_load1 (v := .pointer (some ⟨l3, 0, none⟩)) rfl rfl ?_
          refine o_call (first_spec l3 Fi) rfl rfl ?_
          rintro _ _ ⟨rfl, rfl⟩
          refine o_build ((chV 0 (hd Fi) none 0 0 false)) (fun w => by kernel_rfl) ?_
          refine o_store (v := chV 0 (hd Fi) none 0 0 false) rfl rfl rfl rfl rfl ?_
          refine g_end (G.imp (hQ_ .normal _) ?_)
          clear hQ_ Q_
          try refine g_then ?_
          refine G.norm r (chV 0 (hd Fi) none 0 0 false).cells rfl ?_
          refine G.nil_slice 26 encS 3 ?_
          refine G.freeze_slice ?_
          repeat (first | refine g_endt ?_ | refine g_end ?_ | refine g_then ?_ | refine g_in_normal ?_ | refine g_then_ret ?_ | refine g_in_ret ?_ | refine g_then_exit ?_ | refine g_in_exit rfl ?_ | refine g_in_exit_ne (by decide) ?_ | refine g_seq ?_ | refine g_region ?_ | refine g_block ?_ | refine g_ret ?_ | refine g_return_n ?_ | refine g_exit ?_ | refine g_skip ?_)
          exact G.imp (hret9 _) (ret1 (K := psl encS 3 none ([] : List SymD) :: Ks) rfl (resCN (v := chV 0 (hd Fi) none 0 0 false) rfl rfl rfl) ⟨none, 0, rfl, rfl⟩)
        rw [if_neg hf1] at hret9
        first | refine g_seq (g_cond_f rfl (by simp; omega) ?_) | refine g_cond_f rfl (by simp; omega) ?_
        repeat (first | refine g_endt ?_ | refine g_end ?_ | refine g_then ?_ | refine g_in_normal ?_ | refine g_then_ret ?_ | refine g_in_ret ?_ | refine g_then_exit ?_ | refine g_in_exit rfl ?_ | refine g_in_exit_ne (by decide) ?_ | refine g_seq ?_ | refine g_region ?_ | refine g_block ?_ | refine g_ret ?_ | refine g_return_n ?_ | refine g_exit ?_ | refine g_skip ?_)
        refine g_hideR fun Q_ hQ_ => ?_
        refine o_move ?_
        refine o_call (with_spec gf lb xs (by omega) 7 Ks hit) rfl rfl ?_
        rintro _ _ ⟨p7, rfl, rfl⟩
        refine o_move ?_
        refine o_call (alikes_spec gf lb xs (by omega) Ks hit) rfl rfl ?_
        rintro _ _ ⟨pa, rfl, rfl⟩
        refine o_alloc fun c15 => ?_
        refine o_alloc fun c16 => ?_
        refine o_store (v := .pointer (some ⟨p7, 0, none⟩)) rfl rfl rfl rfl rfl ?_
        refine o_store (v := .pointer (some ⟨pa, 0, none⟩)) rfl rfl rfl rfl rfl ?_
        refine g_end (G.imp (hQ_ .normal _) ?_)
        clear hQ_ Q_
        try refine g_then ?_
        refine G.norm c15 #[.pointer (some ⟨p7, 0, none⟩)] rfl ?_
        refine G.norm c16 #[.pointer (some ⟨pa, 0, none⟩)] rfl ?_
        repeat (first | refine g_endt ?_ | refine g_end ?_ | refine g_then ?_ | refine g_in_normal ?_ | refine g_then_ret ?_ | refine g_in_ret ?_ | refine g_then_exit ?_ | refine g_in_exit rfl ?_ | refine g_in_exit_ne (by decide) ?_ | refine g_seq ?_ | refine g_region ?_ | refine g_block ?_ | refine g_ret ?_ | refine g_return_n ?_ | refine g_exit ?_ | refine g_skip ?_)
        refine g_hideR fun Q_ hQ_ => ?_
        refine o_load1 (v := .pointer (some ⟨l3, 0, none⟩)) rfl rfl ?_
        refine o_call (AllSS_spec l3) rfl rfl ?_
        rintro _ _ ⟨b3, rfl, rfl⟩
        refine g_end (G.imp (hQ_ .normal _) ?_)
        clear hQ_ Q_
        try refine g_then ?_
        refine G.pu_in (q := ∀ a ∈ ([] : List SymD), (Fi.any fun b => tie xs a b) = false) (by simp) ?_
        repeat (first | refine g_endt ?_ | refine g_end ?_ | refine g_then ?_ | refine g_in_normal ?_ | refine g_then_ret ?_ | refine g_in_ret ?_ | refine g_then_exit ?_ | refine g_in_exit rfl ?_ | refine g_in_exit_ne (by decide) ?_ | refine g_seq ?_ | refine g_region ?_ | refine g_block ?_ | refine g_ret ?_ | refine g_return_n ?_ | refine g_exit ?_ | refine g_skip ?_)
        refine g_range (ps := [130]) (lb := [.pointer (some ⟨b3, 0, none⟩)]) (enc := SymD.enc') (xs := Fi) rfl
          (fun pre => pu (∀ a ∈ pre, (Fi.any fun b => tie xs a b) = false) :: SetASS l3 Fi :: SetASS p7 (valsP xs 7) :: SetAPP pa (likP xs) :: cS c9 l3 :: cS c15 p7 :: cP c16 pa :: pS b3 l3 :: cCh r (chV 0 SymD.zero none 0 0 false) :: Ks)
          (fun c _ => pu (c = .ret ∧ tiedP xs Fi = true) :: TieP r Fi :: Ks)
          (fun K => All1SS_iter l3 b3 Fi (by omega) _) (fun _ => rfl) (tk := (inferInstance : Take _ (pu (∀ a ∈ ([] : List SymD), (Fi.any fun b => tie xs a b) = false) :: SetASS l3 Fi :: SetASS p7 (valsP xs 7) :: SetAPP pa (likP xs) :: cS c9 l3 :: cS c15 p7 :: cP c16 pa :: pS b3 l3 :: cCh r (chV 0 SymD.zero none 0 0 false) :: Ks) _)) ?_ ?_ ?_
        · intro w0 F l rr pre a hp
          have ha : a ∈ Fi := hp.subset (by simp)
          refine G.pu fun hpre => ?_
          repeat (first | refine g_endt ?_ | refine g_end ?_ | refine g_then ?_ | refine g_in_normal ?_ | refine g_then_ret ?_ | refine g_in_ret ?_ | refine g_then_exit ?_ | refine g_in_exit rfl ?_ | refine g_in_exit_ne (by decide) ?_ | refine g_seq ?_ | refine g_region ?_ | refine g_block ?_ | refine g_ret ?_ | refine g_return_n ?_ | refine g_exit ?_ | refine g_skip ?_)
          refine g_hideR fun Q_ hQ_ => ?_
          refine o_alloc fun c17 => ?_
          refine o_store (v := a.val) rfl rfl rfl rfl rfl ?_
          refine g_end (G.imp (hQ_ .normal _) ?_)
          clear hQ_ Q_
          try refine g_then ?_
          refine G.norm c17 a.val.cells rfl ?_
          repeat (first | refine g_endt ?_ | refine g_end ?_ | refine g_then ?_ | refine g_in_normal ?_ | refine g_then_ret ?_ | refine g_in_ret ?_ | refine g_then_exit ?_ | refine g_in_exit rfl ?_ | refine g_in_exit_ne (by decide) ?_ | refine g_seq ?_ | refine g_region ?_ | refine g_block ?_ | refine g_ret ?_ | refine g_return_n ?_ | refine g_exit ?_ | refine g_skip ?_)
          refine g_begin ?_
          repeat (first | refine g_endt ?_ | refine g_end ?_ | refine g_then ?_ | refine g_in_normal ?_ | refine g_then_ret ?_ | refine g_in_ret ?_ | refine g_then_exit ?_ | refine g_in_exit rfl ?_ | refine g_in_exit_ne (by decide) ?_ | refine g_seq ?_ | refine g_region ?_ | refine g_block ?_ | refine g_ret ?_ | refine g_return_n ?_ | refine g_exit ?_ | refine g_skip ?_)
          refine g_hideR fun Q_ hQ_ => ?_
          refine o_load1 (v := .pointer (some ⟨l3, 0, none⟩)) rfl rfl ?_
          refine o_call (AllSS_spec l3) rfl rfl ?_
          rintro _ _ ⟨b4, rfl, rfl⟩
          refine g_end (G.imp (hQ_ .normal _) ?_)
          clear hQ_ Q_
          try refine g_then ?_
          refine G.pu_in (q := ∀ b ∈ ([] : List SymD), tie xs a b = false) (by simp) ?_
          repeat (first | refine g_endt ?_ | refine g_end ?_ | refine g_then ?_ | refine g_in_normal ?_ | refine g_then_ret ?_ | refine g_in_ret ?_ | refine g_then_exit ?_ | refine g_in_exit rfl ?_ | refine g_in_exit_ne (by decide) ?_ | refine g_seq ?_ | refine g_region ?_ | refine g_block ?_ | refine g_ret ?_ | refine g_return_n ?_ | refine g_exit ?_ | refine g_skip ?_)
          refine g_range_in (ps := [133]) (lb := [.pointer (some ⟨b4, 0, none⟩)]) (enc := SymD.enc') (xs := Fi) rfl
            (fun q => pu (∀ b ∈ q, tie xs a b = false) :: cY c17 a :: SetASS l3 Fi :: SetASS p7 (valsP xs 7) :: SetAPP pa (likP xs) :: cS c9 l3 :: cS c15 p7 :: cP c16 pa :: pS b3 l3 :: pS b4 l3 :: cCh r (chV 0 SymD.zero none 0 0 false) :: Ks)
            (fun c _ => pu (c = .ret ∧ tiedP xs Fi = true) :: TieP r Fi :: Ks)
            (fun K => All1SS_iter l3 b4 Fi (by omega) _) (fun _ => rfl) (tk := (inferInstance : Take _ (pu (∀ b ∈ ([] : List SymD), tie xs a b = false) :: cY c17 a :: SetASS l3 Fi :: SetASS p7 (valsP xs 7) :: SetAPP pa (likP xs) :: cS c9 l3 :: cS c15 p7 :: cP c16 pa :: pS b3 l3 :: pS b4 l3 :: cCh r (chV 0 SymD.zero none 0 0 false) :: Ks) _)) ?_ ?_ ?_
          · intro w1 F1 l1 r1 q b hq
            have hbm : b ∈ Fi := hq.subset (by simp)
            refine G.pu fun hq0 => ?_
            have hnext : tie xs a b = false → ∀ z ∈ q ++ [b], tie xs a z = false := fun h z hz => by
              rcases List.mem_append.1 hz with hz | hz
              · exact hq0 z hz
              · rw [List.mem_singleton] at hz; subst hz; exact h
            repeat (first | refine g_endt ?_ | refine g_end ?_ | refine g_then ?_ | refine g_in_normal ?_ | refine g_then_ret ?_ | refine g_in_ret ?_ | refine g_then_exit ?_ | refine g_in_exit rfl ?_ | refine g_in_exit_ne (by decide) ?_ | refine g_seq ?_ | refine g_region ?_ | refine g_block ?_ | refine g_ret ?_ | refine g_return_n ?_ | refine g_exit ?_ | refine g_skip ?_)
            refine g_hideR fun Q_ hQ_ => ?_
            refine o_alloc fun c18 => ?_
            refine o_store (v := b.val) rfl rfl rfl rfl rfl ?_
            refine g_end (G.imp (hQ_ .normal _) ?_)
            clear hQ_ Q_
            try refine g_then ?_
            refine G.norm c18 b.val.cells rfl ?_
            repeat (first | refine g_endt ?_ | refine g_end ?_ | refine g_then ?_ | refine g_in_normal ?_ | refine g_then_ret ?_ | refine g_in_ret ?_ | refine g_then_exit ?_ | refine g_in_exit rfl ?_ | refine g_in_exit_ne (by decide) ?_ | refine g_seq ?_ | refine g_region ?_ | refine g_block ?_ | refine g_ret ?_ | refine g_return_n ?_ | refine g_exit ?_ | refine g_skip ?_)
            refine g_begin ?_
            cases hab : a.beq b with
            | true =>
              have ht : tie xs a b = false := by rw [tie, hab]; rfl
              repeat (first | refine g_endt ?_ | refine g_end ?_ | refine g_then ?_ | refine g_in_normal ?_ | refine g_then_ret ?_ | refine g_in_ret ?_ | refine g_then_exit ?_ | refine g_in_exit rfl ?_ | refine g_in_exit_ne (by decide) ?_ | refine g_seq ?_ | refine g_region ?_ | refine g_block ?_ | refine g_ret ?_ | refine g_return_n ?_ | refine g_exit ?_ | refine g_skip ?_)
              refine g_hideR fun Q_ hQ_ => ?_
              refine o_loadN (v := a.val) rfl rfl rfl ?_
              refine o_loadN (v := b.val) rfl rfl rfl ?_
              refine o_neqty rfl rfl (eq_symb hab) ?_
              refine o_move ?_
              first | refine o_unwanted rfl rfl rfl rfl rfl ?_ | refine o_undef rfl rfl rfl ?_
              first | refine o_unwanted rfl rfl rfl rfl rfl ?_ | refine o_undef rfl rfl rfl ?_
              first | refine o_unwanted rfl rfl rfl rfl rfl ?_ | refine o_undef rfl rfl rfl ?_
              first | (refine o_want rfl rfl rfl rfl rfl ?_; refine o_move ?_) | refine o_unwanted rfl rfl rfl rfl rfl ?_ | refine o_undef rfl rfl rfl ?_
              first | refine o_unwanted rfl rfl rfl rfl rfl ?_ | refine o_undef rfl rfl rfl ?_
              first | refine o_unwanted rfl rfl rfl rfl rfl ?_ | refine o_undef rfl rfl rfl ?_
              first | refine o_unwanted rfl rfl rfl rfl rfl ?_ | refine o_undef rfl rfl rfl ?_
              first | (refine o_want rfl rfl rfl rfl rfl ?_; (first | refine o_pick_t rfl rfl ?_ | refine o_pick_f rfl rfl ?_)) | refine o_unwanted rfl rfl rfl rfl rfl ?_ | refine o_undef rfl rfl rfl ?_
              first | (refine o_want rfl rfl rfl rfl rfl ?_; refine o_not rfl ?_) | refine o_unwanted rfl rfl rfl rfl rfl ?_ | refine o_undef rfl rfl rfl ?_
              first | refine o_pick_t rfl rfl ?_ | refine o_pick_f rfl rfl ?_
              refine o_move ?_
              first | refine o_unwanted rfl rfl rfl rfl rfl ?_ | refine o_undef rfl rfl rfl ?_
              first | refine o_unwanted rfl rfl rfl rfl rfl ?_ | refine o_undef rfl rfl rfl ?_
              first | refine o_unwanted rfl rfl rfl rfl rfl ?_ | refine o_undef rfl rfl rfl ?_
              first | refine o_unwanted rfl rfl rfl rfl rfl ?_ | refine o_undef rfl rfl rfl ?_
              first | refine o_unwanted rfl rfl rfl rfl rfl ?_ | refine o_undef rfl rfl rfl ?_
              first | (refine o_want rfl rfl rfl rfl rfl ?_; refine o_not rfl ?_) | refine o_unwanted rfl rfl rfl rfl rfl ?_ | refine o_undef rfl rfl rfl ?_
              first | refine o_pick_t rfl rfl ?_ | refine o_pick_f rfl rfl ?_
              refine g_end (G.imp (hQ_ .normal _) ?_)
              clear hQ_ Q_
              try refine g_then ?_
              first | refine g_seq (g_cond_f rfl (by first | rfl | (simp; done) | (simp; omega) | (simp; assumption)) ?_) | refine g_cond_f rfl (by first | rfl | (simp; done) | (simp; omega) | (simp; assumption)) ?_
              refine G.pu_in (hnext ht) ?_
              repeat (first | refine g_endt ?_ | refine g_end ?_ | refine g_then ?_ | refine g_in_normal ?_ | refine g_then_ret ?_ | refine g_in_ret ?_ | refine g_then_exit ?_ | refine g_in_exit rfl ?_ | refine g_in_exit_ne (by decide) ?_ | refine g_seq ?_ | refine g_region ?_ | refine g_block ?_ | refine g_ret ?_ | refine g_return_n ?_ | refine g_exit ?_ | refine g_skip ?_)
              exact g_next
            | false =>
              cases hsa : saidP xs 7 a && saidP xs 7 b with
              | true =>
                have ht : tie xs a b = false := by rw [tie, hsa, Bool.not_true, Bool.false_and, Bool.and_false]
                rw [Bool.and_eq_true] at hsa
                repeat (first | refine g_endt ?_ | refine g_end ?_ | refine g_then ?_ | refine g_in_normal ?_ | refine g_then_ret ?_ | refine g_in_ret ?_ | refine g_then_exit ?_ | refine g_in_exit rfl ?_ | refine g_in_exit_ne (by decide) ?_ | refine g_seq ?_ | refine g_region ?_ | refine g_block ?_ | refine g_ret ?_ | refine g_return_n ?_ | refine g_exit ?_ | refine g_skip ?_)
                refine g_hideR fun Q_ hQ_ => ?_
                refine o_loadN (v := a.val) rfl rfl rfl ?_
                refine o_loadN (v := b.val) rfl rfl rfl ?_
                refine o_neqty rfl rfl (eq_symb hab) ?_
                refine o_move ?_
                refine o_want rfl rfl rfl rfl rfl (o_load1 (v := .pointer (some ⟨p7, 0, none⟩)) rfl rfl ?_)
                refine o_want rfl rfl rfl rfl rfl (o_loadN (v := a.val) rfl rfl rfl ?_)
                refine o_want rfl rfl rfl rfl rfl (o_call (hasK_spec p7 xs 7 a hsa.1 (by omega)) rfl rfl ?_)
                rintro _ _ ⟨rfl, rfl⟩
                first | (refine o_want rfl rfl rfl rfl rfl ?_; refine o_move ?_) | refine o_unwanted rfl rfl rfl rfl rfl ?_ | refine o_undef rfl rfl rfl ?_
                refine o_want rfl rfl rfl rfl rfl (o_load1 (v := .pointer (some ⟨p7, 0, none⟩)) rfl rfl ?_)
                refine o_want rfl rfl rfl rfl rfl (o_loadN (v := b.val) rfl rfl rfl ?_)
                refine o_want rfl rfl rfl rfl rfl (o_call (hasK_spec p7 xs 7 b hsa.2 (by omega)) rfl rfl ?_)
                rintro _ _ ⟨rfl, rfl⟩
                first | (refine o_want rfl rfl rfl rfl rfl ?_; (first | refine o_pick_t rfl rfl ?_ | refine o_pick_f rfl rfl ?_)) | refine o_unwanted rfl rfl rfl rfl rfl ?_ | refine o_undef rfl rfl rfl ?_
                first | (refine o_want rfl rfl rfl rfl rfl ?_; refine o_not rfl ?_) | refine o_unwanted rfl rfl rfl rfl rfl ?_ | refine o_undef rfl rfl rfl ?_
                first | refine o_pick_t rfl rfl ?_ | refine o_pick_f rfl rfl ?_
                refine o_move ?_
                first | refine o_unwanted rfl rfl rfl rfl rfl ?_ | refine o_undef rfl rfl rfl ?_
                first | refine o_unwanted rfl rfl rfl rfl rfl ?_ | refine o_undef rfl rfl rfl ?_
                first | refine o_unwanted rfl rfl rfl rfl rfl ?_ | refine o_undef rfl rfl rfl ?_
                first | refine o_unwanted rfl rfl rfl rfl rfl ?_ | refine o_undef rfl rfl rfl ?_
                first | refine o_unwanted rfl rfl rfl rfl rfl ?_ | refine o_undef rfl rfl rfl ?_
                first | (refine o_want rfl rfl rfl rfl rfl ?_; refine o_not rfl ?_) | refine o_unwanted rfl rfl rfl rfl rfl ?_ | refine o_undef rfl rfl rfl ?_
                first | refine o_pick_t rfl rfl ?_ | refine o_pick_f rfl rfl ?_
                refine g_end (G.imp (hQ_ .normal _) ?_)
                clear hQ_ Q_
                try refine g_then ?_
                first | refine g_seq (g_cond_f rfl (by first | rfl | (simp; done) | (simp; omega) | (simp; assumption)) ?_) | refine g_cond_f rfl (by first | rfl | (simp; done) | (simp; omega) | (simp; assumption)) ?_
                refine G.pu_in (hnext ht) ?_
                repeat (first | refine g_endt ?_ | refine g_end ?_ | refine g_then ?_ | refine g_in_normal ?_ | refine g_then_ret ?_ | refine g_in_ret ?_ | refine g_then_exit ?_ | refine g_in_exit rfl ?_ | refine g_in_exit_ne (by decide) ?_ | refine g_seq ?_ | refine g_region ?_ | refine g_block ?_ | refine g_ret ?_ | refine g_return_n ?_ | refine g_exit ?_ | refine g_skip ?_)
                exact g_next
              | false =>
                repeat (first | refine g_endt ?_ | refine g_end ?_ | refine g_then ?_ | refine g_in_normal ?_ | refine g_then_ret ?_ | refine g_in_ret ?_ | refine g_then_exit ?_ | refine g_in_exit rfl ?_ | refine g_in_exit_ne (by decide) ?_ | refine g_seq ?_ | refine g_block ?_ | refine g_ret ?_ | refine g_return_n ?_ | refine g_exit ?_ | refine g_skip ?_)
                refine g_cutk (σ := Unit) (ds' := []) (S := fun _ => [(4, .pointer (some ⟨r, 0, none⟩)), (9, .pointer (some ⟨c9, 0, none⟩)), (155, .bool (!like xs a b))]) (H := fun _ => cY c17 a :: SetASS l3 Fi :: SetASS p7 (valsP xs 7) :: SetAPP pa (likP xs) :: cS c9 l3 :: cS c15 p7 :: cP c16 pa :: pS b3 l3 :: pS b4 l3 :: cCh r (chV 0 SymD.zero none 0 0 false) :: Ks) (ok := fun _ => True) ?_ ?_
                · cases h7 : saidP xs 7 a with
                  | true =>
                    rw [h7, Bool.true_and] at hsa
                    repeat (first | refine g_endt ?_ | refine g_end ?_ | refine g_then ?_ | refine g_in_normal ?_ | refine g_then_ret ?_ | refine g_in_ret ?_ | refine g_then_exit ?_ | refine g_in_exit rfl ?_ | refine g_in_exit_ne (by decide) ?_ | refine g_seq ?_ | refine g_region ?_ | refine g_block ?_ | refine g_ret ?_ | refine g_return_n ?_ | refine g_exit ?_ | refine g_skip ?_)
                    refine g_hideR fun Q_ hQ_ => ?_
                    refine o_loadN (v := a.val) rfl rfl rfl ?_
                    refine o_loadN (v := b.val) rfl rfl rfl ?_
                    refine o_neqty rfl rfl (eq_symb hab) ?_
                    refine o_move ?_
                    refine o_want rfl rfl rfl rfl rfl (o_load1 (v := .pointer (some ⟨p7, 0, none⟩)) rfl rfl ?_)
                    refine o_want rfl rfl rfl rfl rfl (o_loadN (v := a.val) rfl rfl rfl ?_)
                    refine o_want rfl rfl rfl rfl rfl (o_call (hasK_spec p7 xs 7 a h7 (by omega)) rfl rfl ?_)
                    rintro _ _ ⟨rfl, rfl⟩
                    first | (refine o_want rfl rfl rfl rfl rfl ?_; refine o_move ?_) | refine o_unwanted rfl rfl rfl rfl rfl ?_ | refine o_undef rfl rfl rfl ?_
                    refine o_want rfl rfl rfl rfl rfl (o_load1 (v := .pointer (some ⟨p7, 0, none⟩)) rfl rfl ?_)
                    refine o_want rfl rfl rfl rfl rfl (o_loadN (v := b.val) rfl rfl rfl ?_)
                    refine o_want rfl rfl rfl rfl rfl (o_call (hasK_spec p7 xs 7 b hsa (by omega)) rfl rfl ?_)
                    rintro _ _ ⟨rfl, rfl⟩
                    first | (refine o_want rfl rfl rfl rfl rfl ?_; (first | refine o_pick_t rfl rfl ?_ | refine o_pick_f rfl rfl ?_)) | refine o_unwanted rfl rfl rfl rfl rfl ?_ | refine o_undef rfl rfl rfl ?_
                    first | (refine o_want rfl rfl rfl rfl rfl ?_; refine o_not rfl ?_) | refine o_unwanted rfl rfl rfl rfl rfl ?_ | refine o_undef rfl rfl rfl ?_
                    first | refine o_pick_t rfl rfl ?_ | refine o_pick_f rfl rfl ?_
                    refine o_move ?_
                    refine o_want rfl rfl rfl rfl rfl (o_load1 (v := .pointer (some ⟨pa, 0, none⟩)) rfl rfl ?_)
                    refine o_want rfl rfl rfl rfl rfl (o_loadN (v := a.val) rfl rfl rfl ?_)
                    refine o_want rfl rfl rfl rfl rfl (o_loadN (v := b.val) rfl rfl rfl ?_)
                    refine o_want rfl rfl rfl rfl rfl (o_build ((PairD.mk a b).val) (fun w => by kernel_rfl) ?_)
                    refine o_want rfl rfl rfl rfl rfl (o_call (likK_spec pa xs a b (by omega)) rfl rfl ?_)
                    rintro _ _ ⟨rfl, rfl⟩
                    first | (refine o_want rfl rfl rfl rfl rfl ?_; refine o_not rfl ?_) | refine o_unwanted rfl rfl rfl rfl rfl ?_ | refine o_undef rfl rfl rfl ?_
                    first | refine o_pick_t rfl rfl ?_ | refine o_pick_f rfl rfl ?_
                    refine g_end (G.imp (hQ_ .normal _) ?_)
                    clear hQ_ Q_
                    try refine g_then ?_
                    exact g_meets () trivial (Sat.mem ⟨rfl, rfl, rfl, trivial⟩)
                  | false =>
                    repeat (first | refine g_endt ?_ | refine g_end ?_ | refine g_then ?_ | refine g_in_normal ?_ | refine g_then_ret ?_ | refine g_in_ret ?_ | refine g_then_exit ?_ | refine g_in_exit rfl ?_ | refine g_in_exit_ne (by decide) ?_ | refine g_seq ?_ | refine g_region ?_ | refine g_block ?_ | refine g_ret ?_ | refine g_return_n ?_ | refine g_exit ?_ | refine g_skip ?_)
                    refine g_hideR fun Q_ hQ_ => ?_
                    refine o_loadN (v := a.val) rfl rfl rfl ?_
                    refine o_loadN (v := b.val) rfl rfl rfl ?_
                    refine o_neqty rfl rfl (eq_symb hab) ?_
                    refine o_move ?_
                    refine o_want rfl rfl rfl rfl rfl (o_load1 (v := .pointer (some ⟨p7, 0, none⟩)) rfl rfl ?_)
                    refine o_want rfl rfl rfl rfl rfl (o_loadN (v := a.val) rfl rfl rfl ?_)
                    refine o_want rfl rfl rfl rfl rfl (o_call (hasK_spec p7 xs 7 a h7 (by omega)) rfl rfl ?_)
                    rintro _ _ ⟨rfl, rfl⟩
                    first | (refine o_want rfl rfl rfl rfl rfl ?_; refine o_move ?_) | refine o_unwanted rfl rfl rfl rfl rfl ?_ | refine o_undef rfl rfl rfl ?_
                    first | refine o_unwanted rfl rfl rfl rfl rfl ?_ | refine o_undef rfl rfl rfl ?_
                    first | refine o_unwanted rfl rfl rfl rfl rfl ?_ | refine o_undef rfl rfl rfl ?_
                    first | refine o_unwanted rfl rfl rfl rfl rfl ?_ | refine o_undef rfl rfl rfl ?_
                    first | (refine o_want rfl rfl rfl rfl rfl ?_; (first | refine o_pick_t rfl rfl ?_ | refine o_pick_f rfl rfl ?_)) | refine o_unwanted rfl rfl rfl rfl rfl ?_ | refine o_undef rfl rfl rfl ?_
                    first | (refine o_want rfl rfl rfl rfl rfl ?_; refine o_not rfl ?_) | refine o_unwanted rfl rfl rfl rfl rfl ?_ | refine o_undef rfl rfl rfl ?_
                    first | refine o_pick_t rfl rfl ?_ | refine o_pick_f rfl rfl ?_
                    refine o_move ?_
                    refine o_want rfl rfl rfl rfl rfl (o_load1 (v := .pointer (some ⟨pa, 0, none⟩)) rfl rfl ?_)
                    refine o_want rfl rfl rfl rfl rfl (o_loadN (v := a.val) rfl rfl rfl ?_)
                    refine o_want rfl rfl rfl rfl rfl (o_loadN (v := b.val) rfl rfl rfl ?_)
                    refine o_want rfl rfl rfl rfl rfl (o_build ((PairD.mk a b).val) (fun w => by kernel_rfl) ?_)
                    refine o_want rfl rfl rfl rfl rfl (o_call (likK_spec pa xs a b (by omega)) rfl rfl ?_)
                    rintro _ _ ⟨rfl, rfl⟩
                    first | (refine o_want rfl rfl rfl rfl rfl ?_; refine o_not rfl ?_) | refine o_unwanted rfl rfl rfl rfl rfl ?_ | refine o_undef rfl rfl rfl ?_
                    first | refine o_pick_t rfl rfl ?_ | refine o_pick_f rfl rfl ?_
                    refine g_end (G.imp (hQ_ .normal _) ?_)
                    clear hQ_ Q_
                    try refine g_then ?_
                    exact g_meets () trivial (Sat.mem ⟨rfl, rfl, rfl, trivial⟩)
                intro _ ρ4 _
                cases hlk : like xs a b with
                | true =>
                  have ht : tie xs a b = false := by rw [tie, hlk, Bool.not_true, Bool.and_false, Bool.and_false]
                  first | refine g_seq (g_cond_f rfl (by first | rfl | (simp; done) | (simp; omega) | (simp; assumption)) ?_) | refine g_cond_f rfl (by first | rfl | (simp; done) | (simp; omega) | (simp; assumption)) ?_
                  refine G.pu_in (hnext ht) ?_
                  repeat (first | refine g_endt ?_ | refine g_end ?_ | refine g_then ?_ | refine g_in_normal ?_ | refine g_then_ret ?_ | refine g_in_ret ?_ | refine g_then_exit ?_ | refine g_in_exit rfl ?_ | refine g_in_exit_ne (by decide) ?_ | refine g_seq ?_ | refine g_region ?_ | refine g_block ?_ | refine g_ret ?_ | refine g_return_n ?_ | refine g_exit ?_ | refine g_skip ?_)
                  exact g_next
                | false =>
                  have ht : tiedP xs Fi = true := List.any_eq_true.2 ⟨a, ha, List.any_eq_true.2 ⟨b, hbm, by show tie xs a b = true; rw [tie, hab, hsa, hlk]; rfl⟩⟩
                  first | refine g_seq (g_cond_t rfl (by first | rfl | (simp; done) | (simp; omega) | (simp; assumption)) ?_) | refine g_cond_t rfl (by first | rfl | (simp; done) | (simp; omega) | (simp; assumption)) ?_
                  repeat (first | refine g_endt ?_ | refine g_end ?_ | refine g_then ?_ | refine g_in_normal ?_ | refine g_then_ret ?_ | refine g_in_ret ?_ | refine g_then_exit ?_ | refine g_in_exit rfl ?_ | refine g_in_exit_ne (by decide) ?_ | refine g_seq ?_ | refine g_region ?_ | refine g_block ?_ | refine g_ret ?_ | refine g_return_n ?_ | refine g_exit ?_ | refine g_skip ?_)
                  refine g_hideR fun Q_ hQ_ => ?_
                  refine o_load1 (v := .pointer (some ⟨l3, 0, none⟩)) rfl rfl ?_
                  refine o_call (list_spec l3 Fi (by omega)) rfl rfl ?_
                  rintro _ _ ⟨S, e, rfl, rfl⟩
                  refine o_build ((chV 1 SymD.zero S Fi.length e false)) (fun w => by kernel_rfl) ?_
                  refine o_store (v := chV 1 SymD.zero S Fi.length e false) rfl rfl rfl rfl rfl ?_
                  refine g_end (G.imp (hQ_ .normal _) ?_)
                  clear hQ_ Q_
                  try refine g_then ?_
                  refine G.norm r (chV 1 SymD.zero S Fi.length e false).cells rfl ?_
                  refine G.bring [osl 26 encS 3 S e Fi] ?_
                  refine G.frz ?_
                  refine shutT r Fi S e ?_
                  refine G.pu_in (q := Code.ret = Code.ret ∧ tiedP xs Fi = true) ⟨rfl, ht⟩ ?_
                  repeat (first | refine g_endt ?_ | refine g_end ?_ | refine g_then ?_ | refine g_in_normal ?_ | refine g_then_ret ?_ | refine g_in_ret ?_ | refine g_then_exit ?_ | refine g_in_exit rfl ?_ | refine g_in_exit_ne (by decide) ?_ | refine g_seq ?_ | refine g_region ?_ | refine g_block ?_ | refine g_ret ?_ | refine g_return_n ?_ | refine g_exit ?_ | refine g_skip ?_)
                  exact g_leave_ret
          · refine G.pu fun hq0 => ?_
            have hn : ∀ z ∈ pre ++ [a], (Fi.any fun b => tie xs z b) = false := fun z hz => by
              rcases List.mem_append.1 hz with hz | hz
              · exact hpre z hz
              · rw [List.mem_singleton] at hz; subst hz
                exact List.any_eq_false.2 fun b hb => by rw [hq0 b hb]; simp
            refine G.pu_in hn ?_
            repeat (first | refine g_endt ?_ | refine g_end ?_ | refine g_then ?_ | refine g_in_normal ?_ | refine g_then_ret ?_ | refine g_in_ret ?_ | refine g_then_exit ?_ | refine g_in_exit rfl ?_ | refine g_in_exit_ne (by decide) ?_ | refine g_seq ?_ | refine g_region ?_ | refine g_block ?_ | refine g_ret ?_ | refine g_return_n ?_ | refine g_exit ?_ | refine g_skip ?_)
            exact g_next
          · intro c q hq
            refine G.pu fun h => ?_
            obtain ⟨rfl, ht⟩ := h
            refine G.pu_in (q := Code.ret = Code.ret ∧ tiedP xs Fi = true) ⟨rfl, ht⟩ ?_
            repeat (first | refine g_endt ?_ | refine g_end ?_ | refine g_then ?_ | refine g_in_normal ?_ | refine g_then_ret ?_ | refine g_in_ret ?_ | refine g_then_exit ?_ | refine g_in_exit rfl ?_ | refine g_in_exit_ne (by decide) ?_ | refine g_seq ?_ | refine g_region ?_ | refine g_block ?_ | refine g_ret ?_ | refine g_return_n ?_ | refine g_exit ?_ | refine g_skip ?_)
            exact g_leave_ret
        · intro D2
          refine G.pu fun hall => ?_
          have ht : tiedP xs Fi = false := List.any_eq_false.2 fun a ha => by
            have := hall a ha
            show ¬ (Fi.any fun b => tie xs a b) = true
            rw [this]; simp
          rw [ht] at hret9
          obtain ⟨h1, h2, h4⟩ := within_tmod draw Fi.length (by omega)
          obtain ⟨k, hk⟩ : ∃ k : Nat, (draw % (Fi.length : Int)).toNat = k := ⟨_, rfl⟩
          rw [hk] at h1 hret9
          repeat (first | refine g_endt ?_ | refine g_end ?_ | refine g_then ?_ | refine g_in_normal ?_ | refine g_then_ret ?_ | refine g_in_ret ?_ | refine g_then_exit ?_ | refine g_in_exit rfl ?_ | refine g_in_exit_ne (by decide) ?_ | refine g_seq ?_ | refine g_region ?_ | refine g_block ?_ | refine g_ret ?_ | refine g_return_n ?_ | refine g_exit ?_ | refine g_skip ?_)
          refine g_hideR fun Q_ hQ_ => ?_
          refine o_move ?_
          refine o_load1 (v := .pointer (some ⟨l3, 0, none⟩)) rfl rfl ?_
          refine o_call (LenSS_spec l3 Fi) rfl rfl ?_
          rintro _ _ ⟨rfl, rfl⟩
          refine o_rem rfl rfl (by omega) ?_
          refine o_assign ?_
          refine g_end (G.imp (hQ_ .normal _) ?_)
          clear hQ_ Q_
          try refine g_then ?_
          generalize draw.tmod (Fi.length : Int) = t at h1 h2 h4 ⊢
          repeat (first | refine g_endt ?_ | refine g_end ?_ | refine g_then ?_ | refine g_in_normal ?_ | refine g_then_ret ?_ | refine g_in_ret ?_ | refine g_then_exit ?_ | refine g_in_exit rfl ?_ | refine g_in_exit_ne (by decide) ?_ | refine g_seq ?_ | refine g_region ?_ | refine g_block ?_ | refine g_ret ?_ | refine g_return_n ?_ | refine g_exit ?_ | refine g_skip ?_)
          refine g_hideR fun Q_ hQ_ => ?_
          refine o_move ?_
          refine o_lss rfl rfl ?_
          refine g_end (G.imp (hQ_ .normal _) ?_)
          clear hQ_ Q_
          try refine g_then ?_
          by_cases htn : t < 0
          · first | refine g_seq (g_cond_t rfl (by simpa using htn) ?_) | refine g_cond_t rfl (by simpa using htn) ?_
            rw [if_pos htn] at h1
            repeat (first | refine g_endt ?_ | refine g_end ?_ | refine g_then ?_ | refine g_in_normal ?_ | refine g_then_ret ?_ | refine g_in_ret ?_ | refine g_then_exit ?_ | refine g_in_exit rfl ?_ | refine g_in_exit_ne (by decide) ?_ | refine g_seq ?_ | refine g_region ?_ | refine g_block ?_ | refine g_ret ?_ | refine g_return_n ?_ | refine g_exit ?_ | refine g_skip ?_)
            refine g_hideR fun Q_ hQ_ => ?_
            refine o_move ?_
            refine o_load1 (v := .pointer (some ⟨l3, 0, none⟩)) rfl rfl ?_
            refine o_call (LenSS_spec l3 Fi) rfl rfl ?_
            rintro _ _ ⟨rfl, rfl⟩
            refine o_add (c := (k : Int)) rfl rfl h1 (by omega) (by omega) ?_
            refine o_assign ?_
            refine g_end (G.imp (hQ_ .normal _) ?_)
            clear hQ_ Q_
            try refine g_then ?_
            repeat (first | refine g_endt ?_ | refine g_end ?_ | refine g_then ?_ | refine g_in_normal ?_ | refine g_then_ret ?_ | refine g_in_ret ?_ | refine g_then_exit ?_ | refine g_in_exit rfl ?_ | refine g_in_exit_ne (by decide) ?_ | refine g_seq ?_ | refine g_region ?_ | refine g_block ?_ | refine g_ret ?_ | refine g_return_n ?_ | refine g_exit ?_ | refine g_skip ?_)
            refine g_hideR fun Q_ hQ_ => ?_
            refine o_load1 (v := .pointer (some ⟨l3, 0, none⟩)) rfl rfl ?_
            refine o_move ?_
            refine o_call (AtSS_spec l3 k Fi) rfl rfl ?_
            rintro _ _ ⟨rfl, rfl⟩
            refine o_move ?_
            refine o_extract rfl rfl ?_
            refine o_extract rfl rfl ?_
            refine o_alloc fun c20 => ?_
            refine o_store (v := (Fi[k]?.getD SymD.zero).val) rfl rfl rfl rfl rfl ?_
            refine o_assign ?_
            refine g_end (G.imp (hQ_ .normal _) ?_)
            clear hQ_ Q_
            try refine g_then ?_
            refine G.norm c20 (Fi[k]?.getD SymD.zero).val.cells rfl ?_
            repeat (first | refine g_endt ?_ | refine g_end ?_ | refine g_then ?_ | refine g_in_normal ?_ | refine g_then_ret ?_ | refine g_in_ret ?_ | refine g_then_exit ?_ | refine g_in_exit rfl ?_ | refine g_in_exit_ne (by decide) ?_ | refine g_seq ?_ | refine g_region ?_ | refine g_block ?_ | refine g_ret ?_ | refine g_return_n ?_ | refine g_exit ?_ | refine g_skip ?_)
            refine g_hideR fun Q_ hQ_ => ?_
            refine o_loadN (v := (Fi[k]?.getD SymD.zero).val) rfl rfl rfl ?_
            refine o_build ((chV 0 (Fi[k]?.getD SymD.zero) none 0 0 true)) (fun w => by kernel_rfl) ?_
            refine o_store (v := chV 0 (Fi[k]?.getD SymD.zero) none 0 0 true) rfl rfl rfl rfl rfl ?_
            refine g_end (G.imp (hQ_ .normal _) ?_)
            clear hQ_ Q_
            try refine g_then ?_
            refine G.norm r (chV 0 (Fi[k]?.getD SymD.zero) none 0 0 true).cells rfl ?_
            refine G.nil_slice 26 encS 3 ?_
            refine G.freeze_slice ?_
            repeat (first | refine g_endt ?_ | refine g_end ?_ | refine g_then ?_ | refine g_in_normal ?_ | refine g_then_ret ?_ | refine g_in_ret ?_ | refine g_then_exit ?_ | refine g_in_exit rfl ?_ | refine g_in_exit_ne (by decide) ?_ | refine g_seq ?_ | refine g_region ?_ | refine g_block ?_ | refine g_ret ?_ | refine g_return_n ?_ | refine g_exit ?_ | refine g_skip ?_)
            exact G.imp (hret9 _) (ret1 (K := psl encS 3 none ([] : List SymD) :: Ks) rfl (resCN (v := chV 0 (Fi[k]?.getD SymD.zero) none 0 0 true) rfl rfl rfl) ⟨none, 0, rfl, rfl⟩)
          · first | refine g_seq (g_cond_f rfl (by simpa using htn) ?_) | refine g_cond_f rfl (by simpa using htn) ?_
            rw [if_neg htn] at h1
            subst h1
            repeat (first | refine g_endt ?_ | refine g_end ?_ | refine g_then ?_ | refine g_in_normal ?_ | refine g_then_ret ?_ | refine g_in_ret ?_ | refine g_then_exit ?_ | refine g_in_exit rfl ?_ | refine g_in_exit_ne (by decide) ?_ | refine g_seq ?_ | refine g_region ?_ | refine g_block ?_ | refine g_ret ?_ | refine g_return_n ?_ | refine g_exit ?_ | refine g_skip ?_)
            refine g_hideR fun Q_ hQ_ => ?_
            refine o_load1 (v := .pointer (some ⟨l3, 0, none⟩)) rfl rfl ?_
            refine o_move ?_
            refine o_call (AtSS_spec l3 k Fi) rfl rfl ?_
            rintro _ _ ⟨rfl, rfl⟩
            refine o_move ?_
            refine o_extract rfl rfl ?_
            refine o_extract rfl rfl ?_
            refine o_alloc fun c20 => ?_
            refine o_store (v := (Fi[k]?.getD SymD.zero).val) rfl rfl rfl rfl rfl ?_
            refine o_assign ?_
            refine g_end (G.imp (hQ_ .normal _) ?_)
            clear hQ_ Q_
            try refine g_then ?_
            refine G.norm c20 (Fi[k]?.getD SymD.zero).val.cells rfl ?_
            repeat (first | refine g_endt ?_ | refine g_end ?_ | refine g_then ?_ | refine g_in_normal ?_ | refine g_then_ret ?_ | refine g_in_ret ?_ | refine g_then_exit ?_ | refine g_in_exit rfl ?_ | refine g_in_exit_ne (by decide) ?_ | refine g_seq ?_ | refine g_region ?_ | refine g_block ?_ | refine g_ret ?_ | refine g_return_n ?_ | refine g_exit ?_ | refine g_skip ?_)
            refine g_hideR fun Q_ hQ_ => ?_
            refine o_loadN (v := (Fi[k]?.getD SymD.zero).val) rfl rfl rfl ?_
            refine o_build ((chV 0 (Fi[k]?.getD SymD.zero) none 0 0 true)) (fun w => by kernel_rfl) ?_
            refine o_store (v := chV 0 (Fi[k]?.getD SymD.zero) none 0 0 true) rfl rfl rfl rfl rfl ?_
            refine g_end (G.imp (hQ_ .normal _) ?_)
            clear hQ_ Q_
            try refine g_then ?_
            refine G.norm r (chV 0 (Fi[k]?.getD SymD.zero) none 0 0 true).cells rfl ?_
            refine G.nil_slice 26 encS 3 ?_
            refine G.freeze_slice ?_
            repeat (first | refine g_endt ?_ | refine g_end ?_ | refine g_then ?_ | refine g_in_normal ?_ | refine g_then_ret ?_ | refine g_in_ret ?_ | refine g_then_exit ?_ | refine g_in_exit rfl ?_ | refine g_in_exit_ne (by decide) ?_ | refine g_seq ?_ | refine g_region ?_ | refine g_block ?_ | refine g_ret ?_ | refine g_return_n ?_ | refine g_exit ?_ | refine g_skip ?_)
            exact G.imp (hret9 _) (ret1 (K := psl encS 3 none ([] : List SymD) :: Ks) rfl (resCN (v := chV 0 (Fi[k]?.getD SymD.zero) none 0 0 true) rfl rfl rfl) ⟨none, 0, rfl, rfl⟩)
        · intro D2 c pre hp
          refine G.pu fun h => ?_
          obtain ⟨rfl, ht⟩ := h
          rw [ht] at hret9
          refine openT r Fi fun S e => ?_
          repeat (first | refine g_endt ?_ | refine g_end ?_ | refine g_then ?_ | refine g_in_normal ?_ | refine g_then_ret ?_ | refine g_in_ret ?_ | refine g_then_exit ?_ | refine g_in_exit rfl ?_ | refine g_in_exit_ne (by decide) ?_ | refine g_seq ?_ | refine g_region ?_ | refine g_block ?_ | refine g_ret ?_ | refine g_return_n ?_ | refine g_exit ?_ | refine g_skip ?_)
          exact G.imp (hret9 _) (ret1 (K := psl encS 3 S Fi :: Ks) rfl (resCN (v := chV 1 SymD.zero S Fi.length e false) rfl rfl rfl) ⟨S, e, rfl, rfl⟩)
      · rw [if_pos hcl]
        have hcp2 : 0 < (clashP xs C).length := List.length_pos_iff.2 hcl
        first | refine g_seq (g_cond_t rfl (by simp only [gt_iff_lt, decide_eq_true_eq]; omega) ?_) | refine g_cond_t rfl (by simp only [gt_iff_lt, decide_eq_true_eq]; omega) ?_
        repeat (first | refine g_endt ?_ | refine g_end ?_ | refine g_then ?_ | refine g_in_normal ?_ | refine g_then_ret ?_ | refine g_in_ret ?_ | refine g_then_exit ?_ | refine g_in_exit rfl ?_ | refine g_in_exit_ne (by decide) ?_ | refine g_seq ?_ | refine g_region ?_ | refine g_block ?_ | refine g_ret ?_ | refine g_return_n ?_ | refine g_exit ?_ | refine g_skip ?_)
        refine g_hideR fun Q_ hQ_ => ?_
        refine o_load1 (v := .pointer (some ⟨cl, 0, none⟩)) rfl rfl ?_
        refine o_call (list_spec cl (clashP xs C) (by omega)) rfl rfl ?_
        rintro _ _ ⟨S, e, rfl, rfl⟩
        refine o_build ((chV 2 SymD.zero S (clashP xs C).length e false)) (fun w => by kernel_rfl) ?_
        refine o_store (v := chV 2 SymD.zero S (clashP xs C).length e false) rfl rfl rfl rfl rfl ?_
        refine g_end (G.imp (hQ_ .normal _) ?_)
        clear hQ_ Q_
        try refine g_then ?_
        refine G.norm r (chV 2 SymD.zero S (clashP xs C).length e false).cells rfl ?_
        refine G.bring [osl 26 encS 3 S e (clashP xs C)] ?_
        refine G.frz ?_
        repeat (first | refine g_endt ?_ | refine g_end ?_ | refine g_then ?_ | refine g_in_normal ?_ | refine g_then_ret ?_ | refine g_in_ret ?_ | refine g_then_exit ?_ | refine g_in_exit rfl ?_ | refine g_in_exit_ne (by decide) ?_ | refine g_seq ?_ | refine g_region ?_ | refine g_block ?_ | refine g_ret ?_ | refine g_return_n ?_ | refine g_exit ?_ | refine g_skip ?_)
        exact ret1 (K := psl encS 3 S (clashP xs C) :: Ks) rfl (resCN (v := chV 2 SymD.zero S (clashP xs C).length e false) rfl rfl rfl) ⟨S, e, rfl, rfl⟩
    · intro D c pre hp
      exact G.pu fun h => h.elim
  · have hpos : 0 < (valsP xs 3).length := List.length_pos_iff.2 h3
    have hdec : decP xs draw = if (valsP xs 3).length = 1 ∧ saidP xs 4 (hd (valsP xs 3)) = false then ⟨0, hd (valsP xs 3), [], false⟩ else ⟨3, SymD.zero, valsP xs 3, false⟩ := by
      unfold decP
      rw [if_pos h3]
    rw [hdec]
    first | refine g_seq (g_cond_t rfl (by simp only [gt_iff_lt, decide_eq_true_eq]; omega) ?_) | refine g_cond_t rfl (by simp only [gt_iff_lt, decide_eq_true_eq]; omega) ?_
    repeat (first | refine g_endt ?_ | refine g_end ?_ | refine g_then ?_ | refine g_in_normal ?_ | refine g_then_ret ?_ | refine g_in_ret ?_ | refine g_then_exit ?_ | refine g_in_exit rfl ?_ | refine g_in_exit_ne (by decide) ?_ | refine g_seq ?_ | refine g_block ?_ | refine g_ret ?_ | refine g_return_n ?_ | refine g_exit ?_ | refine g_skip ?_)
    refine g_cutk (σ := Unit) (ds' := []) (S := fun _ => [(4, .pointer (some ⟨r, 0, none⟩)), (5, .pointer (some ⟨pm, 0, none⟩)), (37, .bool (decide ((valsP xs 3).length = 1) && !saidP xs 4 (hd (valsP xs 3))))]) (H := fun _ => SetASS pm (valsP xs 3) :: cCh r (chV 0 SymD.zero none 0 0 false) :: Ks) (ok := fun _ => True) ?_ ?_
    · by_cases h1 : (valsP xs 3).length = 1
      · rw [decide_eq_true h1, Bool.true_and]
        repeat (first | refine g_endt ?_ | refine g_end ?_ | refine g_then ?_ | refine g_in_normal ?_ | refine g_then_ret ?_ | refine g_in_ret ?_ | refine g_then_exit ?_ | refine g_in_exit rfl ?_ | refine g_in_exit_ne (by decide) ?_ | refine g_seq ?_ | refine g_region ?_ | refine g_block ?_ | refine g_ret ?_ | refine g_return_n ?_ | refine g_exit ?_ | refine g_skip ?_)
        refine g_hideR fun Q_ hQ_ => ?_
        refine o_move ?_
        refine o_call (LenSS_spec pm (valsP xs 3)) rfl rfl ?_
        rintro _ _ ⟨rfl, rfl⟩
        refine o_eql rfl rfl ?_
        rw [show ((((valsP xs 3).length : Nat) : Int) == 1) = true from by rw [h1]; rfl]
        refine o_move ?_
        first | (refine o_want rfl rfl rfl rfl rfl ?_; refine o_move ?_) | refine o_unwanted rfl rfl rfl rfl rfl ?_ | refine o_undef rfl rfl rfl ?_
        refine o_want rfl rfl rfl rfl rfl (o_call (with_spec gf lb xs (by omega) 4 Ks hit) rfl rfl ?_)
        rintro _ _ ⟨p4, rfl, rfl⟩
        first | (refine o_want rfl rfl rfl rfl rfl ?_; refine o_move ?_) | refine o_unwanted rfl rfl rfl rfl rfl ?_ | refine o_undef rfl rfl rfl ?_
        refine o_want rfl rfl rfl rfl rfl (o_call (first_spec pm (valsP xs 3)) rfl rfl ?_)
        rintro _ _ ⟨rfl, rfl⟩
        refine o_want rfl rfl rfl rfl rfl (o_call (hasK_spec p4 xs 4 (hd (valsP xs 3)) rfl (by omega)) rfl rfl ?_)
        rintro _ _ ⟨rfl, rfl⟩
        first | (refine o_want rfl rfl rfl rfl rfl ?_; refine o_not rfl ?_) | refine o_unwanted rfl rfl rfl rfl rfl ?_ | refine o_undef rfl rfl rfl ?_
        first | refine o_pick_t rfl rfl ?_ | refine o_pick_f rfl rfl ?_
        refine g_end (G.imp (hQ_ .normal _) ?_)
        clear hQ_ Q_
        try refine g_then ?_
        exact g_meets () trivial (Sat.mem ⟨rfl, rfl, rfl, trivial⟩)
      · rw [decide_eq_false h1, Bool.false_and]
        repeat (first | refine g_endt ?_ | refine g_end ?_ | refine g_then ?_ | refine g_in_normal ?_ | refine g_then_ret ?_ | refine g_in_ret ?_ | refine g_then_exit ?_ | refine g_in_exit rfl ?_ | refine g_in_exit_ne (by decide) ?_ | refine g_seq ?_ | refine g_region ?_ | refine g_block ?_ | refine g_ret ?_ | refine g_return_n ?_ | refine g_exit ?_ | refine g_skip ?_)
        refine g_hideR fun Q_ hQ_ => ?_
        refine o_move ?_
        refine o_call (LenSS_spec pm (valsP xs 3)) rfl rfl ?_
        rintro _ _ ⟨rfl, rfl⟩
        refine o_eql rfl rfl ?_
        rw [show ((((valsP xs 3).length : Nat) : Int) == 1) = false from by simp; omega]
        refine o_move ?_
        first | (refine o_want rfl rfl rfl rfl rfl ?_; refine o_move ?_) | refine o_unwanted rfl rfl rfl rfl rfl ?_ | refine o_undef rfl rfl rfl ?_
        first | refine o_unwanted rfl rfl rfl rfl rfl ?_ | refine o_undef rfl rfl rfl ?_
        first | (refine o_want rfl rfl rfl rfl rfl ?_; refine o_move ?_) | refine o_unwanted rfl rfl rfl rfl rfl ?_ | refine o_undef rfl rfl rfl ?_
        first | refine o_unwanted rfl rfl rfl rfl rfl ?_ | refine o_undef rfl rfl rfl ?_
        first | refine o_unwanted rfl rfl rfl rfl rfl ?_ | refine o_undef rfl rfl rfl ?_
        first | (refine o_want rfl rfl rfl rfl rfl ?_; refine o_not rfl ?_) | refine o_unwanted rfl rfl rfl rfl rfl ?_ | refine o_undef rfl rfl rfl ?_
        first | refine o_pick_t rfl rfl ?_ | refine o_pick_f rfl rfl ?_
        refine g_end (G.imp (hQ_ .normal _) ?_)
        clear hQ_ Q_
        try refine g_then ?_
        exact g_meets () trivial (Sat.mem ⟨rfl, rfl, rfl, trivial⟩)
    intro _ ρ2 _
    cases hb : (decide ((valsP xs 3).length = 1) && !saidP xs 4 (hd (valsP xs 3))) with
    | true =>
      rw [Bool.and_eq_true, decide_eq_true_eq, Bool.not_eq_true'] at hb
      rw [if_pos hb]
      first | refine g_seq (g_cond_t rfl (by first | rfl | (simp; done) | (simp; omega) | (simp; assumption)) ?_) | refine g_cond_t rfl (by first | rfl | (simp; done) | (simp; omega) | (simp; assumption)) ?_
      repeat (first | refine g_endt ?_ | refine g_end ?_ | refine g_then ?_ | refine g_in_normal ?_ | refine g_then_ret ?_ | refine g_in_ret ?_ | refine g_then_exit ?_ | refine g_in_exit rfl ?_ | refine g_in_exit_ne (by decide) ?_ | refine g_seq ?_ | refine g_region ?_ | refine g_block ?_ | refine g_ret ?_ | refine g_return_n ?_ | refine g_exit ?_ | refine g_skip ?_)
      refine g_hideR fun Q_ hQ_ => ?_
      refine o_move ?_
      refine o_call (first_spec pm (valsP xs 3)) rfl rfl ?_
      rintro _ _ ⟨rfl, rfl⟩
      refine o_build ((chV 0 (hd (valsP xs 3)) none 0 0 false)) (fun w => by kernel_rfl) ?_
      refine o_store (v := chV 0 (hd (valsP xs 3)) none 0 0 false) rfl rfl rfl rfl rfl ?_
      refine g_end (G.imp (hQ_ .normal _) ?_)
      clear hQ_ Q_
      try refine g_then ?_
      refine G.norm r (chV 0 (hd (valsP xs 3)) none 0 0 false).cells rfl ?_
      refine G.nil_slice 26 encS 3 ?_
      refine G.freeze_slice ?_
      repeat (first | refine g_endt ?_ | refine g_end ?_ | refine g_then ?_ | refine g_in_normal ?_ | refine g_then_ret ?_ | refine g_in_ret ?_ | refine g_then_exit ?_ | refine g_in_exit rfl ?_ | refine g_in_exit_ne (by decide) ?_ | refine g_seq ?_ | refine g_region ?_ | refine g_block ?_ | refine g_ret ?_ | refine g_return_n ?_ | refine g_exit ?_ | refine g_skip ?_)
      exact ret1 (K := psl encS 3 none ([] : List SymD) :: Ks) rfl (resCN (v := chV 0 (hd (valsP xs 3)) none 0 0 false) rfl rfl rfl) ⟨none, 0, rfl, rfl⟩
    | false =>
      rw [if_neg fun h => by rw [decide_eq_true h.1, h.2] at hb; cases hb]
      first | refine g_seq (g_cond_f rfl (by first | rfl | (simp; done) | (simp; omega) | (simp; assumption)) ?_) | refine g_cond_f rfl (by first | rfl | (simp; done) | (simp; omega) | (simp; assumption)) ?_
      repeat (first | refine g_endt ?_ | refine g_end ?_ | refine g_then ?_ | refine g_in_normal ?_ | refine g_then_ret ?_ | refine g_in_ret ?_ | refine g_then_exit ?_ | refine g_in_exit rfl ?_ | refine g_in_exit_ne (by decide) ?_ | refine g_seq ?_ | refine g_region ?_ | refine g_block ?_ | refine g_ret ?_ | refine g_return_n ?_ | refine g_exit ?_ | refine g_skip ?_)
      refine g_hideR fun Q_ hQ_ => ?_
      refine o_move ?_
      refine o_call (list_spec pm (valsP xs 3) (by omega)) rfl rfl ?_
      rintro _ _ ⟨S, e, rfl, rfl⟩
      refine o_build ((chV 3 SymD.zero S (valsP xs 3).length e false)) (fun w => by kernel_rfl) ?_
      refine o_store (v := chV 3 SymD.zero S (valsP xs 3).length e false) rfl rfl rfl rfl rfl ?_
      refine g_end (G.imp (hQ_ .normal _) ?_)
      clear hQ_ Q_
      try refine g_then ?_
      refine G.norm r (chV 3 SymD.zero S (valsP xs 3).length e false).cells rfl ?_
      refine G.bring [osl 26 encS 3 S e (valsP xs 3)] ?_
      refine G.frz ?_
      repeat (first | refine g_endt ?_ | refine g_end ?_ | refine g_then ?_ | refine g_in_normal ?_ | refine g_then_ret ?_ | refine g_in_ret ?_ | refine g_then_exit ?_ | refine g_in_exit rfl ?_ | refine g_in_exit_ne (by decide) ?_ | refine g_seq ?_ | refine g_region ?_ | refine g_block ?_ | refine g_ret ?_ | refine g_return_n ?_ | refine g_exit ?_ | refine g_skip ?_)
      exact ret1 (K := psl encS 3 S (valsP xs 3) :: Ks) rfl (resCN (v := chV 3 SymD.zero S (valsP xs 3).length e false) rfl rfl rfl) ⟨S, e, rfl, rfl⟩
end Go.Proofs.Ytljiooihhfndjaa
/- The document's own decision: what is said, who is better. -/
namespace Go.Proofs.Ytljiooihhfndjaa
open Go Go.Sl
attribute [local irreducible] Code.wpIn roundPost bodyPostM runL Ret Meets Begin

def okS (k : Int) (v o : SymD) (p : PrefD) : Bool := (decide (p.kind = k) && p.value.beq v) && (decide (k < 8) || p.other.beq o)
def sayP (l : List PrefD) (k : Int) (v o : SymD) : Bool := l.any (okS k v o)
set_option maxHeartbeats 4000000 in
theorem say_spec (A : Option Addr) (n c : Nat) (l : List PrefD) (k : Int) (v o : SymD) (hl : l.length = n) (hm : n ≤ 1000000) : Ctr Try.prog 42 [.slice A n c, .int .i64 k, v.val, o.val] [psl encP 16 A l]
    (fun u M => u = .bool (sayP l k v o) ∧ M = []) := by
  refine spec_of Try.func42 rfl Try.ntmps42 rfl fun w0 F => ?_
  -- ponder/ponderref15.say
  repeat (first | refine g_endt ?_ | refine g_end ?_ | refine g_then ?_ | refine g_in_normal ?_ | refine g_then_ret ?_ | refine g_in_ret ?_ | refine g_then_exit ?_ | refine g_in_exit rfl ?_ | refine g_in_exit_ne (by decide) ?_ | refine g_seq ?_ | refine g_region ?_ | refine g_block ?_ | refine g_ret ?_ | refine g_return_n ?_ | refine g_exit ?_ | refine g_skip ?_)
  refine o_boxc v.val.cells rfl rfl fun q => ?_
  refine o_boxc o.val.cells rfl rfl fun q2 => ?_
  refine o_assign ?_
  first | refine g_endt ?_ | refine g_end ?_
  repeat (first | refine g_endt ?_ | refine g_end ?_ | refine g_then ?_ | refine g_in_normal ?_ | refine g_then_ret ?_ | refine g_in_ret ?_ | refine g_then_exit ?_ | refine g_in_exit rfl ?_ | refine g_in_exit_ne (by decide) ?_ | refine g_seq ?_ | refine g_region ?_ | refine g_block ?_ | refine g_ret ?_ | refine g_return_n ?_ | refine g_exit ?_ | refine g_skip ?_)
  refine o_assign ?_
  first | refine g_endt ?_ | refine g_end ?_
  repeat (first | refine g_endt ?_ | refine g_end ?_ | refine g_then ?_ | refine g_in_normal ?_ | refine g_then_ret ?_ | refine g_in_ret ?_ | refine g_then_exit ?_ | refine g_in_exit rfl ?_ | refine g_in_exit_ne (by decide) ?_ | refine g_seq ?_ | refine g_region ?_ | refine g_block ?_ | refine g_ret ?_ | refine g_return_n ?_ | refine g_exit ?_ | refine g_skip ?_)
  refine g_loop (σ := {i : Nat // i ≤ n ∧ ∀ (j : Nat) (p : PrefD), j < i → l[j]? = some p → okS k v o p = false}) (S := fun i => [(0, .slice A n c), (1, .int .i64 k), (6, .pointer (some ⟨q, 0, none⟩)), (7, .pointer (some ⟨q2, 0, none⟩)), (9, .int .i64 (i.1 : Int))])
    (H := fun _ => [psl encP 16 A l, cellsB q v.val.cells 26, cellsB q2 o.val.cells 26]) (μ := fun i => n - i.1) (s0 := ⟨0, Nat.zero_le _, fun j y h => absurd h (Nat.not_lt_zero j)⟩) (Sat.mem ⟨rfl, rfl, rfl, rfl, rfl, trivial⟩) ?_
  rintro ⟨i, hi, hlow⟩ ρ'
  dsimp only at hi hlow ⊢
  repeat (first | refine g_endt ?_ | refine g_end ?_ | refine g_then ?_ | refine g_in_normal ?_ | refine g_then_ret ?_ | refine g_in_ret ?_ | refine g_then_exit ?_ | refine g_in_exit rfl ?_ | refine g_in_exit_ne (by decide) ?_ | refine g_seq ?_ | refine g_region ?_ | refine g_block ?_ | refine g_ret ?_ | refine g_return_n ?_ | refine g_exit ?_ | refine g_skip ?_)
  refine o_move ?_
  refine o_move ?_
  refine o_len rfl rfl ?_
  refine o_lss rfl rfl ?_
  first | refine g_endt ?_ | refine g_end ?_
  by_cases h : i < n
  · first | refine g_seq (g_cond_t rfl (by first | rfl | (simp; done) | (simp; omega) | (simp; assumption)) ?_) | refine g_cond_t rfl (by first | rfl | (simp; done) | (simp; omega) | (simp; assumption)) ?_
    have hil : i < l.length := by omega
    have hpos : 0 < l.length := by omega
    obtain ⟨p, hp⟩ : ∃ p, l[i]? = some p := ⟨_, List.getElem?_eq_getElem hil⟩
    repeat (first | refine g_endt ?_ | refine g_end ?_ | refine g_then ?_ | refine g_in_normal ?_ | refine g_then_ret ?_ | refine g_in_ret ?_ | refine g_then_exit ?_ | refine g_in_exit rfl ?_ | refine g_in_exit_ne (by decide) ?_ | refine g_seq ?_ | refine g_block ?_ | refine g_ret ?_ | refine g_return_n ?_ | refine g_exit ?_ | refine g_skip ?_)
    refine g_cutk (σ := Unit) (ds' := []) (S := fun _ => [(0, .slice A n c), (1, .int .i64 k), (6, .pointer (some ⟨q, 0, none⟩)), (7, .pointer (some ⟨q2, 0, none⟩)), (9, .int .i64 (i : Int)), (44, .bool (okS k v o p))]) (H := fun _ => [psl encP 16 A l, cellsB q v.val.cells 26, cellsB q2 o.val.cells 26]) (ok := fun _ => True) ?_ ?_
    · by_cases h1 : p.kind = k
      · cases h2 : p.value.beq v with
        | false =>
          rw [show okS k v o p = false by simp [okS, h2]]
          repeat (first | refine g_endt ?_ | refine g_end ?_ | refine g_then ?_ | refine g_in_normal ?_ | refine g_then_ret ?_ | refine g_in_ret ?_ | refine g_then_exit ?_ | refine g_in_exit rfl ?_ | refine g_in_exit_ne (by decide) ?_ | refine g_seq ?_ | refine g_region ?_ | refine g_block ?_ | refine g_ret ?_ | refine g_return_n ?_ | refine g_exit ?_ | refine g_skip ?_)
          refine g_draw [] [0,1,2,3,4,5,6,7,8,9,10,11,12,13,14,15,16,17,18,19,20,21,22,23,24,25,26,27,28] [psl encP 16 A l, cellsB q v.val.cells 26, cellsB q2 o.val.cells 26] mixed (by kernel_rfl) ?_
          refine ob_q rfl rfl ⟨_, fun X Q h => o_move (g_end (h _ _ ⟨rfl, rfl⟩)), ?_⟩
          refine ob_q rfl rfl ⟨_, fun X Q h => o_move (g_end (h _ _ ⟨rfl, rfl⟩)), ?_⟩
          refine ob_q rfl rfl ⟨_, fun X Q h => o_indexR (ys := l) (i := i) rfl rfl rfl hil hl rfl (g_end (h _ _ ⟨rfl, rfl⟩)), ?_⟩
          refine ob_q rfl rfl ⟨_, fun X Q h => o_fieldR (ys := l) rfl hpos (g_end (h _ _ ⟨rfl, rfl⟩)), ?_⟩
          refine ob_q rfl rfl ⟨_, fun X Q h => o_loadE1 (off := 12) (ys := l) (v := .int .i64 p.kind) rfl hp rfl (g_end (h _ _ ⟨rfl, rfl⟩)), ?_⟩
          refine ob_q rfl rfl ⟨_, fun X Q h => o_move (g_end (h _ _ ⟨rfl, rfl⟩)), ?_⟩
          refine ob_q rfl rfl ⟨_, fun X Q h => o_eql rfl rfl (g_end (h _ _ ⟨rfl, rfl⟩)), ?_⟩
          rw [show (p.kind == k) = true from by simp [h1]]
          refine ob_q rfl rfl ⟨_, fun X Q h => o_move (g_end (h _ _ ⟨rfl, rfl⟩)), ?_⟩
          first | refine ob_q rfl rfl ⟨_, fun X Q h => o_want rfl rfl rfl rfl rfl <| o_move (g_end (h _ _ ⟨rfl, rfl⟩)), ?_⟩ | refine ob_q rfl rfl ⟨_, fun X Q h => o_unwanted rfl rfl rfl rfl rfl (g_end (h _ _ ⟨rfl, rfl⟩)), ?_⟩ | refine ob_q rfl rfl ⟨_, fun X Q h => o_undef rfl rfl rfl (g_end (h _ _ ⟨rfl, rfl⟩)), ?_⟩
          first | refine ob_q rfl rfl ⟨_, fun X Q h => o_want rfl rfl rfl rfl rfl <| o_move (g_end (h _ _ ⟨rfl, rfl⟩)), ?_⟩ | refine ob_q rfl rfl ⟨_, fun X Q h => o_unwanted rfl rfl rfl rfl rfl (g_end (h _ _ ⟨rfl, rfl⟩)), ?_⟩ | refine ob_q rfl rfl ⟨_, fun X Q h => o_undef rfl rfl rfl (g_end (h _ _ ⟨rfl, rfl⟩)), ?_⟩
          refine ob_q rfl rfl ⟨_, fun X Q h => o_want rfl rfl rfl rfl rfl <| o_indexR (ys := l) (i := i) rfl rfl rfl hil hl rfl (g_end (h _ _ ⟨rfl, rfl⟩)), ?_⟩
          refine ob_q rfl rfl ⟨_, fun X Q h => o_want rfl rfl rfl rfl rfl <| o_fieldR (ys := l) rfl hpos (g_end (h _ _ ⟨rfl, rfl⟩)), ?_⟩
          refine ob_q rfl rfl ⟨_, fun X Q h => o_want rfl rfl rfl rfl rfl <| o_loadEN (off := 6) (ys := l) (v := p.value.val) rfl hp rfl rfl (g_end (h _ _ ⟨rfl, rfl⟩)), ?_⟩
          refine ob_q rfl rfl ⟨_, fun X Q h => o_want rfl rfl rfl rfl rfl <| o_loadN (v := v.val) rfl rfl rfl (g_end (h _ _ ⟨rfl, rfl⟩)), ?_⟩
          refine ob_q rfl rfl ⟨_, fun X Q h => o_want rfl rfl rfl rfl rfl <| o_eqty rfl rfl (eq_sym p.value v) (g_end (h _ _ ⟨rfl, rfl⟩)), ?_⟩
          rw [h2]
          first | refine ob_q rfl rfl ⟨_, fun X Q h => o_pick_t rfl rfl (g_end (h _ _ ⟨rfl, rfl⟩)), ?_⟩ | refine ob_q rfl rfl ⟨_, fun X Q h => o_pick_f rfl rfl (g_end (h _ _ ⟨rfl, rfl⟩)), ?_⟩
          refine ob_q rfl rfl ⟨_, fun X Q h => o_move (g_end (h _ _ ⟨rfl, rfl⟩)), ?_⟩
          first | refine ob_q rfl rfl ⟨_, fun X Q h => o_want rfl rfl rfl rfl rfl <| o_move (g_end (h _ _ ⟨rfl, rfl⟩)), ?_⟩ | refine ob_q rfl rfl ⟨_, fun X Q h => o_unwanted rfl rfl rfl rfl rfl (g_end (h _ _ ⟨rfl, rfl⟩)), ?_⟩ | refine ob_q rfl rfl ⟨_, fun X Q h => o_undef rfl rfl rfl (g_end (h _ _ ⟨rfl, rfl⟩)), ?_⟩
          first | refine ob_q rfl rfl ⟨_, fun X Q h => o_want rfl rfl rfl rfl rfl <| o_lss rfl rfl (g_end (h _ _ ⟨rfl, rfl⟩)), ?_⟩ | refine ob_q rfl rfl ⟨_, fun X Q h => o_unwanted rfl rfl rfl rfl rfl (g_end (h _ _ ⟨rfl, rfl⟩)), ?_⟩ | refine ob_q rfl rfl ⟨_, fun X Q h => o_undef rfl rfl rfl (g_end (h _ _ ⟨rfl, rfl⟩)), ?_⟩
          first | refine ob_q rfl rfl ⟨_, fun X Q h => o_want rfl rfl rfl rfl rfl <| o_move (g_end (h _ _ ⟨rfl, rfl⟩)), ?_⟩ | refine ob_q rfl rfl ⟨_, fun X Q h => o_unwanted rfl rfl rfl rfl rfl (g_end (h _ _ ⟨rfl, rfl⟩)), ?_⟩ | refine ob_q rfl rfl ⟨_, fun X Q h => o_undef rfl rfl rfl (g_end (h _ _ ⟨rfl, rfl⟩)), ?_⟩
          first | refine ob_q rfl rfl ⟨_, fun X Q h => o_want rfl rfl rfl rfl rfl <| o_move (g_end (h _ _ ⟨rfl, rfl⟩)), ?_⟩ | refine ob_q rfl rfl ⟨_, fun X Q h => o_unwanted rfl rfl rfl rfl rfl (g_end (h _ _ ⟨rfl, rfl⟩)), ?_⟩ | refine ob_q rfl rfl ⟨_, fun X Q h => o_undef rfl rfl rfl (g_end (h _ _ ⟨rfl, rfl⟩)), ?_⟩
          first | refine ob_q rfl rfl ⟨_, fun X Q h => o_want rfl rfl rfl rfl rfl <| o_move (g_end (h _ _ ⟨rfl, rfl⟩)), ?_⟩ | refine ob_q rfl rfl ⟨_, fun X Q h => o_unwanted rfl rfl rfl rfl rfl (g_end (h _ _ ⟨rfl, rfl⟩)), ?_⟩ | refine ob_q rfl rfl ⟨_, fun X Q h => o_undef rfl rfl rfl (g_end (h _ _ ⟨rfl, rfl⟩)), ?_⟩
          first | refine ob_q rfl rfl ⟨_, fun X Q h => o_unwanted rfl rfl rfl rfl rfl (g_end (h _ _ ⟨rfl, rfl⟩)), ?_⟩ | refine ob_q rfl rfl ⟨_, fun X Q h => o_undef rfl rfl rfl (g_end (h _ _ ⟨rfl, rfl⟩)), ?_⟩
          first | refine ob_q rfl rfl ⟨_, fun X Q h => o_unwanted rfl rfl rfl rfl rfl (g_end (h _ _ ⟨rfl, rfl⟩)), ?_⟩ | refine ob_q rfl rfl ⟨_, fun X Q h => o_undef rfl rfl rfl (g_end (h _ _ ⟨rfl, rfl⟩)), ?_⟩
          first | refine ob_q rfl rfl ⟨_, fun X Q h => o_unwanted rfl rfl rfl rfl rfl (g_end (h _ _ ⟨rfl, rfl⟩)), ?_⟩ | refine ob_q rfl rfl ⟨_, fun X Q h => o_undef rfl rfl rfl (g_end (h _ _ ⟨rfl, rfl⟩)), ?_⟩
          first | refine ob_q rfl rfl ⟨_, fun X Q h => o_unwanted rfl rfl rfl rfl rfl (g_end (h _ _ ⟨rfl, rfl⟩)), ?_⟩ | refine ob_q rfl rfl ⟨_, fun X Q h => o_undef rfl rfl rfl (g_end (h _ _ ⟨rfl, rfl⟩)), ?_⟩
          first | refine ob_q rfl rfl ⟨_, fun X Q h => o_unwanted rfl rfl rfl rfl rfl (g_end (h _ _ ⟨rfl, rfl⟩)), ?_⟩ | refine ob_q rfl rfl ⟨_, fun X Q h => o_undef rfl rfl rfl (g_end (h _ _ ⟨rfl, rfl⟩)), ?_⟩
          first | refine ob_q rfl rfl ⟨_, fun X Q h => o_want rfl rfl rfl rfl rfl <| o_pick_t rfl rfl (g_end (h _ _ ⟨rfl, rfl⟩)), ?_⟩ | refine ob_q rfl rfl ⟨_, fun X Q h => o_want rfl rfl rfl rfl rfl <| o_pick_f rfl rfl (g_end (h _ _ ⟨rfl, rfl⟩)), ?_⟩ | refine ob_q rfl rfl ⟨_, fun X Q h => o_unwanted rfl rfl rfl rfl rfl (g_end (h _ _ ⟨rfl, rfl⟩)), ?_⟩ | refine ob_q rfl rfl ⟨_, fun X Q h => o_undef rfl rfl rfl (g_end (h _ _ ⟨rfl, rfl⟩)), ?_⟩
          first | refine ob_q rfl rfl ⟨_, fun X Q h => o_pick_t rfl rfl (g_end (h _ _ ⟨rfl, rfl⟩)), ?_⟩ | refine ob_q rfl rfl ⟨_, fun X Q h => o_pick_f rfl rfl (g_end (h _ _ ⟨rfl, rfl⟩)), ?_⟩
          refine ob_nil ?_
          exact g_meets () trivial (Sat.mem ⟨rfl, rfl, rfl, rfl, rfl, rfl, trivial⟩)
        | true =>
          by_cases h3 : k < 8
          · rw [show okS k v o p = true by simp [okS, h1, h2, h3]]
            repeat (first | refine g_endt ?_ | refine g_end ?_ | refine g_then ?_ | refine g_in_normal ?_ | refine g_then_ret ?_ | refine g_in_ret ?_ | refine g_then_exit ?_ | refine g_in_exit rfl ?_ | refine g_in_exit_ne (by decide) ?_ | refine g_seq ?_ | refine g_region ?_ | refine g_block ?_ | refine g_ret ?_ | refine g_return_n ?_ | refine g_exit ?_ | refine g_skip ?_)
            refine g_draw [] [0,1,2,3,4,5,6,7,8,9,10,11,12,13,14,15,16,17,18,19,20,21,22,23,24,25,26,27,28] [psl encP 16 A l, cellsB q v.val.cells 26, cellsB q2 o.val.cells 26] mixed (by kernel_rfl) ?_
            refine ob_q rfl rfl ⟨_, fun X Q h => o_move (g_end (h _ _ ⟨rfl, rfl⟩)), ?_⟩
            refine ob_q rfl rfl ⟨_, fun X Q h => o_move (g_end (h _ _ ⟨rfl, rfl⟩)), ?_⟩
            refine ob_q rfl rfl ⟨_, fun X Q h => o_indexR (ys := l) (i := i) rfl rfl rfl hil hl rfl (g_end (h _ _ ⟨rfl, rfl⟩)), ?_⟩
            refine ob_q rfl rfl ⟨_, fun X Q h => o_fieldR (ys := l) rfl hpos (g_end (h _ _ ⟨rfl, rfl⟩)), ?_⟩
            refine ob_q rfl rfl ⟨_, fun X Q h => o_loadE1 (off := 12) (ys := l) (v := .int .i64 p.kind) rfl hp rfl (g_end (h _ _ ⟨rfl, rfl⟩)), ?_⟩
            refine ob_q rfl rfl ⟨_, fun X Q h => o_move (g_end (h _ _ ⟨rfl, rfl⟩)), ?_⟩
            refine ob_q rfl rfl ⟨_, fun X Q h => o_eql rfl rfl (g_end (h _ _ ⟨rfl, rfl⟩)), ?_⟩
            rw [show (p.kind == k) = true from by simp [h1]]
            refine ob_q rfl rfl ⟨_, fun X Q h => o_move (g_end (h _ _ ⟨rfl, rfl⟩)), ?_⟩
            first | refine ob_q rfl rfl ⟨_, fun X Q h => o_want rfl rfl rfl rfl rfl <| o_move (g_end (h _ _ ⟨rfl, rfl⟩)), ?_⟩ | refine ob_q rfl rfl ⟨_, fun X Q h => o_unwanted rfl rfl rfl rfl rfl (g_end (h _ _ ⟨rfl, rfl⟩)), ?_⟩ | refine ob_q rfl rfl ⟨_, fun X Q h => o_undef rfl rfl rfl (g_end (h _ _ ⟨rfl, rfl⟩)), ?_⟩
            first | refine ob_q rfl rfl ⟨_, fun X Q h => o_want rfl rfl rfl rfl rfl <| o_move (g_end (h _ _ ⟨rfl, rfl⟩)), ?_⟩ | refine ob_q rfl rfl ⟨_, fun X Q h => o_unwanted rfl rfl rfl rfl rfl (g_end (h _ _ ⟨rfl, rfl⟩)), ?_⟩ | refine ob_q rfl rfl ⟨_, fun X Q h => o_undef rfl rfl rfl (g_end (h _ _ ⟨rfl, rfl⟩)), ?_⟩
            refine ob_q rfl rfl ⟨_, fun X Q h => o_want rfl rfl rfl rfl rfl <| o_indexR (ys := l) (i := i) rfl rfl rfl hil hl rfl (g_end (h _ _ ⟨rfl, rfl⟩)), ?_⟩
            refine ob_q rfl rfl ⟨_, fun X Q h => o_want rfl rfl rfl rfl rfl <| o_fieldR (ys := l) rfl hpos (g_end (h _ _ ⟨rfl, rfl⟩)), ?_⟩
            refine ob_q rfl rfl ⟨_, fun X Q h => o_want rfl rfl rfl rfl rfl <| o_loadEN (off := 6) (ys := l) (v := p.value.val) rfl hp rfl rfl (g_end (h _ _ ⟨rfl, rfl⟩)), ?_⟩
            refine ob_q rfl rfl ⟨_, fun X Q h => o_want rfl rfl rfl rfl rfl <| o_loadN (v := v.val) rfl rfl rfl (g_end (h _ _ ⟨rfl, rfl⟩)), ?_⟩
            refine ob_q rfl rfl ⟨_, fun X Q h => o_want rfl rfl rfl rfl rfl <| o_eqty rfl rfl (eq_sym p.value v) (g_end (h _ _ ⟨rfl, rfl⟩)), ?_⟩
            rw [h2]
            first | refine ob_q rfl rfl ⟨_, fun X Q h => o_pick_t rfl rfl (g_end (h _ _ ⟨rfl, rfl⟩)), ?_⟩ | refine ob_q rfl rfl ⟨_, fun X Q h => o_pick_f rfl rfl (g_end (h _ _ ⟨rfl, rfl⟩)), ?_⟩
            refine ob_q rfl rfl ⟨_, fun X Q h => o_move (g_end (h _ _ ⟨rfl, rfl⟩)), ?_⟩
            first | refine ob_q rfl rfl ⟨_, fun X Q h => o_want rfl rfl rfl rfl rfl <| o_move (g_end (h _ _ ⟨rfl, rfl⟩)), ?_⟩ | refine ob_q rfl rfl ⟨_, fun X Q h => o_unwanted rfl rfl rfl rfl rfl (g_end (h _ _ ⟨rfl, rfl⟩)), ?_⟩ | refine ob_q rfl rfl ⟨_, fun X Q h => o_undef rfl rfl rfl (g_end (h _ _ ⟨rfl, rfl⟩)), ?_⟩
            first | refine ob_q rfl rfl ⟨_, fun X Q h => o_want rfl rfl rfl rfl rfl <| o_lss rfl rfl (g_end (h _ _ ⟨rfl, rfl⟩)), ?_⟩ | refine ob_q rfl rfl ⟨_, fun X Q h => o_unwanted rfl rfl rfl rfl rfl (g_end (h _ _ ⟨rfl, rfl⟩)), ?_⟩ | refine ob_q rfl rfl ⟨_, fun X Q h => o_undef rfl rfl rfl (g_end (h _ _ ⟨rfl, rfl⟩)), ?_⟩
            rw [show decide (k < 8) = true from decide_eq_true h3]
            first | refine ob_q rfl rfl ⟨_, fun X Q h => o_want rfl rfl rfl rfl rfl <| o_move (g_end (h _ _ ⟨rfl, rfl⟩)), ?_⟩ | refine ob_q rfl rfl ⟨_, fun X Q h => o_unwanted rfl rfl rfl rfl rfl (g_end (h _ _ ⟨rfl, rfl⟩)), ?_⟩ | refine ob_q rfl rfl ⟨_, fun X Q h => o_undef rfl rfl rfl (g_end (h _ _ ⟨rfl, rfl⟩)), ?_⟩
            first | refine ob_q rfl rfl ⟨_, fun X Q h => o_want rfl rfl rfl rfl rfl <| o_move (g_end (h _ _ ⟨rfl, rfl⟩)), ?_⟩ | refine ob_q rfl rfl ⟨_, fun X Q h => o_unwanted rfl rfl rfl rfl rfl (g_end (h _ _ ⟨rfl, rfl⟩)), ?_⟩ | refine ob_q rfl rfl ⟨_, fun X Q h => o_undef rfl rfl rfl (g_end (h _ _ ⟨rfl, rfl⟩)), ?_⟩
            first | refine ob_q rfl rfl ⟨_, fun X Q h => o_want rfl rfl rfl rfl rfl <| o_move (g_end (h _ _ ⟨rfl, rfl⟩)), ?_⟩ | refine ob_q rfl rfl ⟨_, fun X Q h => o_unwanted rfl rfl rfl rfl rfl (g_end (h _ _ ⟨rfl, rfl⟩)), ?_⟩ | refine ob_q rfl rfl ⟨_, fun X Q h => o_undef rfl rfl rfl (g_end (h _ _ ⟨rfl, rfl⟩)), ?_⟩
            first | refine ob_q rfl rfl ⟨_, fun X Q h => o_unwanted rfl rfl rfl rfl rfl (g_end (h _ _ ⟨rfl, rfl⟩)), ?_⟩ | refine ob_q rfl rfl ⟨_, fun X Q h => o_undef rfl rfl rfl (g_end (h _ _ ⟨rfl, rfl⟩)), ?_⟩
            first | refine ob_q rfl rfl ⟨_, fun X Q h => o_unwanted rfl rfl rfl rfl rfl (g_end (h _ _ ⟨rfl, rfl⟩)), ?_⟩ | refine ob_q rfl rfl ⟨_, fun X Q h => o_undef rfl rfl rfl (g_end (h _ _ ⟨rfl, rfl⟩)), ?_⟩
            first | refine ob_q rfl rfl ⟨_, fun X Q h => o_unwanted rfl rfl rfl rfl rfl (g_end (h _ _ ⟨rfl, rfl⟩)), ?_⟩ | refine ob_q rfl rfl ⟨_, fun X Q h => o_undef rfl rfl rfl (g_end (h _ _ ⟨rfl, rfl⟩)), ?_⟩
            first | refine ob_q rfl rfl ⟨_, fun X Q h => o_unwanted rfl rfl rfl rfl rfl (g_end (h _ _ ⟨rfl, rfl⟩)), ?_⟩ | refine ob_q rfl rfl ⟨_, fun X Q h => o_undef rfl rfl rfl (g_end (h _ _ ⟨rfl, rfl⟩)), ?_⟩
            first | refine ob_q rfl rfl ⟨_, fun X Q h => o_unwanted rfl rfl rfl rfl rfl (g_end (h _ _ ⟨rfl, rfl⟩)), ?_⟩ | refine ob_q rfl rfl ⟨_, fun X Q h => o_undef rfl rfl rfl (g_end (h _ _ ⟨rfl, rfl⟩)), ?_⟩
            first | refine ob_q rfl rfl ⟨_, fun X Q h => o_want rfl rfl rfl rfl rfl <| o_pick_t rfl rfl (g_end (h _ _ ⟨rfl, rfl⟩)), ?_⟩ | refine ob_q rfl rfl ⟨_, fun X Q h => o_want rfl rfl rfl rfl rfl <| o_pick_f rfl rfl (g_end (h _ _ ⟨rfl, rfl⟩)), ?_⟩ | refine ob_q rfl rfl ⟨_, fun X Q h => o_unwanted rfl rfl rfl rfl rfl (g_end (h _ _ ⟨rfl, rfl⟩)), ?_⟩ | refine ob_q rfl rfl ⟨_, fun X Q h => o_undef rfl rfl rfl (g_end (h _ _ ⟨rfl, rfl⟩)), ?_⟩
            first | refine ob_q rfl rfl ⟨_, fun X Q h => o_pick_t rfl rfl (g_end (h _ _ ⟨rfl, rfl⟩)), ?_⟩ | refine ob_q rfl rfl ⟨_, fun X Q h => o_pick_f rfl rfl (g_end (h _ _ ⟨rfl, rfl⟩)), ?_⟩
            refine ob_nil ?_
            exact g_meets () trivial (Sat.mem ⟨rfl, rfl, rfl, rfl, rfl, rfl, trivial⟩)
          · rw [show okS k v o p = p.other.beq o by simp [okS, h1, h2, h3]]
            repeat (first | refine g_endt ?_ | refine g_end ?_ | refine g_then ?_ | refine g_in_normal ?_ | refine g_then_ret ?_ | refine g_in_ret ?_ | refine g_then_exit ?_ | refine g_in_exit rfl ?_ | refine g_in_exit_ne (by decide) ?_ | refine g_seq ?_ | refine g_region ?_ | refine g_block ?_ | refine g_ret ?_ | refine g_return_n ?_ | refine g_exit ?_ | refine g_skip ?_)
            refine g_draw [] [0,1,2,3,4,5,6,7,8,9,10,11,12,13,14,15,16,17,18,19,20,21,22,23,24,25,26,27,28] [psl encP 16 A l, cellsB q v.val.cells 26, cellsB q2 o.val.cells 26] mixed (by kernel_rfl) ?_
            refine ob_q rfl rfl ⟨_, fun X Q h => o_move (g_end (h _ _ ⟨rfl, rfl⟩)), ?_⟩
            refine ob_q rfl rfl ⟨_, fun X Q h => o_move (g_end (h _ _ ⟨rfl, rfl⟩)), ?_⟩
            refine ob_q rfl rfl ⟨_, fun X Q h => o_indexR (ys := l) (i := i) rfl rfl rfl hil hl rfl (g_end (h _ _ ⟨rfl, rfl⟩)), ?_⟩
            refine ob_q rfl rfl ⟨_, fun X Q h => o_fieldR (ys := l) rfl hpos (g_end (h _ _ ⟨rfl, rfl⟩)), ?_⟩
            refine ob_q rfl rfl ⟨_, fun X Q h => o_loadE1 (off := 12) (ys := l) (v := .int .i64 p.kind) rfl hp rfl (g_end (h _ _ ⟨rfl, rfl⟩)), ?_⟩
            refine ob_q rfl rfl ⟨_, fun X Q h => o_move (g_end (h _ _ ⟨rfl, rfl⟩)), ?_⟩
            refine ob_q rfl rfl ⟨_, fun X Q h => o_eql rfl rfl (g_end (h _ _ ⟨rfl, rfl⟩)), ?_⟩
            rw [show (p.kind == k) = true from by simp [h1]]
            refine ob_q rfl rfl ⟨_, fun X Q h => o_move (g_end (h _ _ ⟨rfl, rfl⟩)), ?_⟩
            first | refine ob_q rfl rfl ⟨_, fun X Q h => o_want rfl rfl rfl rfl rfl <| o_move (g_end (h _ _ ⟨rfl, rfl⟩)), ?_⟩ | refine ob_q rfl rfl ⟨_, fun X Q h => o_unwanted rfl rfl rfl rfl rfl (g_end (h _ _ ⟨rfl, rfl⟩)), ?_⟩ | refine ob_q rfl rfl ⟨_, fun X Q h => o_undef rfl rfl rfl (g_end (h _ _ ⟨rfl, rfl⟩)), ?_⟩
            first | refine ob_q rfl rfl ⟨_, fun X Q h => o_want rfl rfl rfl rfl rfl <| o_move (g_end (h _ _ ⟨rfl, rfl⟩)), ?_⟩ | refine ob_q rfl rfl ⟨_, fun X Q h => o_unwanted rfl rfl rfl rfl rfl (g_end (h _ _ ⟨rfl, rfl⟩)), ?_⟩ | refine ob_q rfl rfl ⟨_, fun X Q h => o_undef rfl rfl rfl (g_end (h _ _ ⟨rfl, rfl⟩)), ?_⟩
            refine ob_q rfl rfl ⟨_, fun X Q h => o_want rfl rfl rfl rfl rfl <| o_indexR (ys := l) (i := i) rfl rfl rfl hil hl rfl (g_end (h _ _ ⟨rfl, rfl⟩)), ?_⟩
            refine ob_q rfl rfl ⟨_, fun X Q h => o_want rfl rfl rfl rfl rfl <| o_fieldR (ys := l) rfl hpos (g_end (h _ _ ⟨rfl, rfl⟩)), ?_⟩
            refine ob_q rfl rfl ⟨_, fun X Q h => o_want rfl rfl rfl rfl rfl <| o_loadEN (off := 6) (ys := l) (v := p.value.val) rfl hp rfl rfl (g_end (h _ _ ⟨rfl, rfl⟩)), ?_⟩
            refine ob_q rfl rfl ⟨_, fun X Q h => o_want rfl rfl rfl rfl rfl <| o_loadN (v := v.val) rfl rfl rfl (g_end (h _ _ ⟨rfl, rfl⟩)), ?_⟩
            refine ob_q rfl rfl ⟨_, fun X Q h => o_want rfl rfl rfl rfl rfl <| o_eqty rfl rfl (eq_sym p.value v) (g_end (h _ _ ⟨rfl, rfl⟩)), ?_⟩
            rw [h2]
            first | refine ob_q rfl rfl ⟨_, fun X Q h => o_pick_t rfl rfl (g_end (h _ _ ⟨rfl, rfl⟩)), ?_⟩ | refine ob_q rfl rfl ⟨_, fun X Q h => o_pick_f rfl rfl (g_end (h _ _ ⟨rfl, rfl⟩)), ?_⟩
            refine ob_q rfl rfl ⟨_, fun X Q h => o_move (g_end (h _ _ ⟨rfl, rfl⟩)), ?_⟩
            first | refine ob_q rfl rfl ⟨_, fun X Q h => o_want rfl rfl rfl rfl rfl <| o_move (g_end (h _ _ ⟨rfl, rfl⟩)), ?_⟩ | refine ob_q rfl rfl ⟨_, fun X Q h => o_unwanted rfl rfl rfl rfl rfl (g_end (h _ _ ⟨rfl, rfl⟩)), ?_⟩ | refine ob_q rfl rfl ⟨_, fun X Q h => o_undef rfl rfl rfl (g_end (h _ _ ⟨rfl, rfl⟩)), ?_⟩
            first | refine ob_q rfl rfl ⟨_, fun X Q h => o_want rfl rfl rfl rfl rfl <| o_lss rfl rfl (g_end (h _ _ ⟨rfl, rfl⟩)), ?_⟩ | refine ob_q rfl rfl ⟨_, fun X Q h => o_unwanted rfl rfl rfl rfl rfl (g_end (h _ _ ⟨rfl, rfl⟩)), ?_⟩ | refine ob_q rfl rfl ⟨_, fun X Q h => o_undef rfl rfl rfl (g_end (h _ _ ⟨rfl, rfl⟩)), ?_⟩
            rw [show decide (k < 8) = false from decide_eq_false h3]
            first | refine ob_q rfl rfl ⟨_, fun X Q h => o_want rfl rfl rfl rfl rfl <| o_move (g_end (h _ _ ⟨rfl, rfl⟩)), ?_⟩ | refine ob_q rfl rfl ⟨_, fun X Q h => o_unwanted rfl rfl rfl rfl rfl (g_end (h _ _ ⟨rfl, rfl⟩)), ?_⟩ | refine ob_q rfl rfl ⟨_, fun X Q h => o_undef rfl rfl rfl (g_end (h _ _ ⟨rfl, rfl⟩)), ?_⟩
            first | refine ob_q rfl rfl ⟨_, fun X Q h => o_want rfl rfl rfl rfl rfl <| o_move (g_end (h _ _ ⟨rfl, rfl⟩)), ?_⟩ | refine ob_q rfl rfl ⟨_, fun X Q h => o_unwanted rfl rfl rfl rfl rfl (g_end (h _ _ ⟨rfl, rfl⟩)), ?_⟩ | refine ob_q rfl rfl ⟨_, fun X Q h => o_undef rfl rfl rfl (g_end (h _ _ ⟨rfl, rfl⟩)), ?_⟩
            first | refine ob_q rfl rfl ⟨_, fun X Q h => o_want rfl rfl rfl rfl rfl <| o_move (g_end (h _ _ ⟨rfl, rfl⟩)), ?_⟩ | refine ob_q rfl rfl ⟨_, fun X Q h => o_unwanted rfl rfl rfl rfl rfl (g_end (h _ _ ⟨rfl, rfl⟩)), ?_⟩ | refine ob_q rfl rfl ⟨_, fun X Q h => o_undef rfl rfl rfl (g_end (h _ _ ⟨rfl, rfl⟩)), ?_⟩
            refine ob_q rfl rfl ⟨_, fun X Q h => o_want rfl rfl rfl rfl rfl <| o_indexR (ys := l) (i := i) rfl rfl rfl hil hl rfl (g_end (h _ _ ⟨rfl, rfl⟩)), ?_⟩
            refine ob_q rfl rfl ⟨_, fun X Q h => o_want rfl rfl rfl rfl rfl <| o_fieldR (ys := l) rfl hpos (g_end (h _ _ ⟨rfl, rfl⟩)), ?_⟩
            refine ob_q rfl rfl ⟨_, fun X Q h => o_want rfl rfl rfl rfl rfl <| o_loadEN (off := 9) (ys := l) (v := p.other.val) rfl hp rfl rfl (g_end (h _ _ ⟨rfl, rfl⟩)), ?_⟩
            refine ob_q rfl rfl ⟨_, fun X Q h => o_want rfl rfl rfl rfl rfl <| o_loadN (v := o.val) rfl rfl rfl (g_end (h _ _ ⟨rfl, rfl⟩)), ?_⟩
            refine ob_q rfl rfl ⟨_, fun X Q h => o_want rfl rfl rfl rfl rfl <| o_eqty rfl rfl (eq_sym p.other o) (g_end (h _ _ ⟨rfl, rfl⟩)), ?_⟩
            first | refine ob_q rfl rfl ⟨_, fun X Q h => o_want rfl rfl rfl rfl rfl <| o_pick_t rfl rfl (g_end (h _ _ ⟨rfl, rfl⟩)), ?_⟩ | refine ob_q rfl rfl ⟨_, fun X Q h => o_want rfl rfl rfl rfl rfl <| o_pick_f rfl rfl (g_end (h _ _ ⟨rfl, rfl⟩)), ?_⟩ | refine ob_q rfl rfl ⟨_, fun X Q h => o_unwanted rfl rfl rfl rfl rfl (g_end (h _ _ ⟨rfl, rfl⟩)), ?_⟩ | refine ob_q rfl rfl ⟨_, fun X Q h => o_undef rfl rfl rfl (g_end (h _ _ ⟨rfl, rfl⟩)), ?_⟩
            first | refine ob_q rfl rfl ⟨_, fun X Q h => o_pick_t rfl rfl (g_end (h _ _ ⟨rfl, rfl⟩)), ?_⟩ | refine ob_q rfl rfl ⟨_, fun X Q h => o_pick_f rfl rfl (g_end (h _ _ ⟨rfl, rfl⟩)), ?_⟩
            refine ob_nil ?_
            exact g_meets () trivial (Sat.mem ⟨rfl, rfl, rfl, rfl, rfl, rfl, trivial⟩)
      · rw [show okS k v o p = false by simp [okS, h1]]
        repeat (first | refine g_endt ?_ | refine g_end ?_ | refine g_then ?_ | refine g_in_normal ?_ | refine g_then_ret ?_ | refine g_in_ret ?_ | refine g_then_exit ?_ | refine g_in_exit rfl ?_ | refine g_in_exit_ne (by decide) ?_ | refine g_seq ?_ | refine g_region ?_ | refine g_block ?_ | refine g_ret ?_ | refine g_return_n ?_ | refine g_exit ?_ | refine g_skip ?_)
        refine g_draw [] [0,1,2,3,4,5,6,7,8,9,10,11,12,13,14,15,16,17,18,19,20,21,22,23,24,25,26,27,28] [psl encP 16 A l, cellsB q v.val.cells 26, cellsB q2 o.val.cells 26] mixed (by kernel_rfl) ?_
        refine ob_q rfl rfl ⟨_, fun X Q h => o_move (g_end (h _ _ ⟨rfl, rfl⟩)), ?_⟩
        refine ob_q rfl rfl ⟨_, fun X Q h => o_move (g_end (h _ _ ⟨rfl, rfl⟩)), ?_⟩
        refine ob_q rfl rfl ⟨_, fun X Q h => o_indexR (ys := l) (i := i) rfl rfl rfl hil hl rfl (g_end (h _ _ ⟨rfl, rfl⟩)), ?_⟩
        refine ob_q rfl rfl ⟨_, fun X Q h => o_fieldR (ys := l) rfl hpos (g_end (h _ _ ⟨rfl, rfl⟩)), ?_⟩
        refine ob_q rfl rfl ⟨_, fun X Q h => o_loadE1 (off := 12) (ys := l) (v := .int .i64 p.kind) rfl hp rfl (g_end (h _ _ ⟨rfl, rfl⟩)), ?_⟩
        refine ob_q rfl rfl ⟨_, fun X Q h => o_move (g_end (h _ _ ⟨rfl, rfl⟩)), ?_⟩
        refine ob_q rfl rfl ⟨_, fun X Q h => o_eql rfl rfl (g_end (h _ _ ⟨rfl, rfl⟩)), ?_⟩
        rw [show (p.kind == k) = false from by simp [h1]]
        refine ob_q rfl rfl ⟨_, fun X Q h => o_move (g_end (h _ _ ⟨rfl, rfl⟩)), ?_⟩
        first | refine ob_q rfl rfl ⟨_, fun X Q h => o_want rfl rfl rfl rfl rfl <| o_move (g_end (h _ _ ⟨rfl, rfl⟩)), ?_⟩ | refine ob_q rfl rfl ⟨_, fun X Q h => o_unwanted rfl rfl rfl rfl rfl (g_end (h _ _ ⟨rfl, rfl⟩)), ?_⟩ | refine ob_q rfl rfl ⟨_, fun X Q h => o_undef rfl rfl rfl (g_end (h _ _ ⟨rfl, rfl⟩)), ?_⟩
        first | refine ob_q rfl rfl ⟨_, fun X Q h => o_want rfl rfl rfl rfl rfl <| o_move (g_end (h _ _ ⟨rfl, rfl⟩)), ?_⟩ | refine ob_q rfl rfl ⟨_, fun X Q h => o_unwanted rfl rfl rfl rfl rfl (g_end (h _ _ ⟨rfl, rfl⟩)), ?_⟩ | refine ob_q rfl rfl ⟨_, fun X Q h => o_undef rfl rfl rfl (g_end (h _ _ ⟨rfl, rfl⟩)), ?_⟩
        first | refine ob_q rfl rfl ⟨_, fun X Q h => o_unwanted rfl rfl rfl rfl rfl (g_end (h _ _ ⟨rfl, rfl⟩)), ?_⟩ | refine ob_q rfl rfl ⟨_, fun X Q h => o_undef rfl rfl rfl (g_end (h _ _ ⟨rfl, rfl⟩)), ?_⟩
        first | refine ob_q rfl rfl ⟨_, fun X Q h => o_unwanted rfl rfl rfl rfl rfl (g_end (h _ _ ⟨rfl, rfl⟩)), ?_⟩ | refine ob_q rfl rfl ⟨_, fun X Q h => o_undef rfl rfl rfl (g_end (h _ _ ⟨rfl, rfl⟩)), ?_⟩
        first | refine ob_q rfl rfl ⟨_, fun X Q h => o_unwanted rfl rfl rfl rfl rfl (g_end (h _ _ ⟨rfl, rfl⟩)), ?_⟩ | refine ob_q rfl rfl ⟨_, fun X Q h => o_undef rfl rfl rfl (g_end (h _ _ ⟨rfl, rfl⟩)), ?_⟩
        first | refine ob_q rfl rfl ⟨_, fun X Q h => o_unwanted rfl rfl rfl rfl rfl (g_end (h _ _ ⟨rfl, rfl⟩)), ?_⟩ | refine ob_q rfl rfl ⟨_, fun X Q h => o_undef rfl rfl rfl (g_end (h _ _ ⟨rfl, rfl⟩)), ?_⟩
        first | refine ob_q rfl rfl ⟨_, fun X Q h => o_unwanted rfl rfl rfl rfl rfl (g_end (h _ _ ⟨rfl, rfl⟩)), ?_⟩ | refine ob_q rfl rfl ⟨_, fun X Q h => o_undef rfl rfl rfl (g_end (h _ _ ⟨rfl, rfl⟩)), ?_⟩
        first | refine ob_q rfl rfl ⟨_, fun X Q h => o_pick_t rfl rfl (g_end (h _ _ ⟨rfl, rfl⟩)), ?_⟩ | refine ob_q rfl rfl ⟨_, fun X Q h => o_pick_f rfl rfl (g_end (h _ _ ⟨rfl, rfl⟩)), ?_⟩
        refine ob_q rfl rfl ⟨_, fun X Q h => o_move (g_end (h _ _ ⟨rfl, rfl⟩)), ?_⟩
        first | refine ob_q rfl rfl ⟨_, fun X Q h => o_want rfl rfl rfl rfl rfl <| o_move (g_end (h _ _ ⟨rfl, rfl⟩)), ?_⟩ | refine ob_q rfl rfl ⟨_, fun X Q h => o_unwanted rfl rfl rfl rfl rfl (g_end (h _ _ ⟨rfl, rfl⟩)), ?_⟩ | refine ob_q rfl rfl ⟨_, fun X Q h => o_undef rfl rfl rfl (g_end (h _ _ ⟨rfl, rfl⟩)), ?_⟩
        first | refine ob_q rfl rfl ⟨_, fun X Q h => o_want rfl rfl rfl rfl rfl <| o_lss rfl rfl (g_end (h _ _ ⟨rfl, rfl⟩)), ?_⟩ | refine ob_q rfl rfl ⟨_, fun X Q h => o_unwanted rfl rfl rfl rfl rfl (g_end (h _ _ ⟨rfl, rfl⟩)), ?_⟩ | refine ob_q rfl rfl ⟨_, fun X Q h => o_undef rfl rfl rfl (g_end (h _ _ ⟨rfl, rfl⟩)), ?_⟩
        first | refine ob_q rfl rfl ⟨_, fun X Q h => o_want rfl rfl rfl rfl rfl <| o_move (g_end (h _ _ ⟨rfl, rfl⟩)), ?_⟩ | refine ob_q rfl rfl ⟨_, fun X Q h => o_unwanted rfl rfl rfl rfl rfl (g_end (h _ _ ⟨rfl, rfl⟩)), ?_⟩ | refine ob_q rfl rfl ⟨_, fun X Q h => o_undef rfl rfl rfl (g_end (h _ _ ⟨rfl, rfl⟩)), ?_⟩
        first | refine ob_q rfl rfl ⟨_, fun X Q h => o_want rfl rfl rfl rfl rfl <| o_move (g_end (h _ _ ⟨rfl, rfl⟩)), ?_⟩ | refine ob_q rfl rfl ⟨_, fun X Q h => o_unwanted rfl rfl rfl rfl rfl (g_end (h _ _ ⟨rfl, rfl⟩)), ?_⟩ | refine ob_q rfl rfl ⟨_, fun X Q h => o_undef rfl rfl rfl (g_end (h _ _ ⟨rfl, rfl⟩)), ?_⟩
        first | refine ob_q rfl rfl ⟨_, fun X Q h => o_want rfl rfl rfl rfl rfl <| o_move (g_end (h _ _ ⟨rfl, rfl⟩)), ?_⟩ | refine ob_q rfl rfl ⟨_, fun X Q h => o_unwanted rfl rfl rfl rfl rfl (g_end (h _ _ ⟨rfl, rfl⟩)), ?_⟩ | refine ob_q rfl rfl ⟨_, fun X Q h => o_undef rfl rfl rfl (g_end (h _ _ ⟨rfl, rfl⟩)), ?_⟩
        first | refine ob_q rfl rfl ⟨_, fun X Q h => o_unwanted rfl rfl rfl rfl rfl (g_end (h _ _ ⟨rfl, rfl⟩)), ?_⟩ | refine ob_q rfl rfl ⟨_, fun X Q h => o_undef rfl rfl rfl (g_end (h _ _ ⟨rfl, rfl⟩)), ?_⟩
        first | refine ob_q rfl rfl ⟨_, fun X Q h => o_unwanted rfl rfl rfl rfl rfl (g_end (h _ _ ⟨rfl, rfl⟩)), ?_⟩ | refine ob_q rfl rfl ⟨_, fun X Q h => o_undef rfl rfl rfl (g_end (h _ _ ⟨rfl, rfl⟩)), ?_⟩
        first | refine ob_q rfl rfl ⟨_, fun X Q h => o_unwanted rfl rfl rfl rfl rfl (g_end (h _ _ ⟨rfl, rfl⟩)), ?_⟩ | refine ob_q rfl rfl ⟨_, fun X Q h => o_undef rfl rfl rfl (g_end (h _ _ ⟨rfl, rfl⟩)), ?_⟩
        first | refine ob_q rfl rfl ⟨_, fun X Q h => o_unwanted rfl rfl rfl rfl rfl (g_end (h _ _ ⟨rfl, rfl⟩)), ?_⟩ | refine ob_q rfl rfl ⟨_, fun X Q h => o_undef rfl rfl rfl (g_end (h _ _ ⟨rfl, rfl⟩)), ?_⟩
        first | refine ob_q rfl rfl ⟨_, fun X Q h => o_unwanted rfl rfl rfl rfl rfl (g_end (h _ _ ⟨rfl, rfl⟩)), ?_⟩ | refine ob_q rfl rfl ⟨_, fun X Q h => o_undef rfl rfl rfl (g_end (h _ _ ⟨rfl, rfl⟩)), ?_⟩
        first | refine ob_q rfl rfl ⟨_, fun X Q h => o_want rfl rfl rfl rfl rfl <| o_pick_t rfl rfl (g_end (h _ _ ⟨rfl, rfl⟩)), ?_⟩ | refine ob_q rfl rfl ⟨_, fun X Q h => o_want rfl rfl rfl rfl rfl <| o_pick_f rfl rfl (g_end (h _ _ ⟨rfl, rfl⟩)), ?_⟩ | refine ob_q rfl rfl ⟨_, fun X Q h => o_unwanted rfl rfl rfl rfl rfl (g_end (h _ _ ⟨rfl, rfl⟩)), ?_⟩ | refine ob_q rfl rfl ⟨_, fun X Q h => o_undef rfl rfl rfl (g_end (h _ _ ⟨rfl, rfl⟩)), ?_⟩
        first | refine ob_q rfl rfl ⟨_, fun X Q h => o_pick_t rfl rfl (g_end (h _ _ ⟨rfl, rfl⟩)), ?_⟩ | refine ob_q rfl rfl ⟨_, fun X Q h => o_pick_f rfl rfl (g_end (h _ _ ⟨rfl, rfl⟩)), ?_⟩
        refine ob_nil ?_
        exact g_meets () trivial (Sat.mem ⟨rfl, rfl, rfl, rfl, rfl, rfl, trivial⟩)
    intro _ ρ2 _
    cases hb : okS k v o p with
    | true =>
      first | refine g_seq (g_cond_t rfl (by first | rfl | (simp; done) | (simp; omega) | (simp; assumption)) ?_) | refine g_cond_t rfl (by first | rfl | (simp; done) | (simp; omega) | (simp; assumption)) ?_
      repeat (first | refine g_endt ?_ | refine g_end ?_ | refine g_then ?_ | refine g_in_normal ?_ | refine g_then_ret ?_ | refine g_in_ret ?_ | refine g_then_exit ?_ | refine g_in_exit rfl ?_ | refine g_in_exit_ne (by decide) ?_ | refine g_seq ?_ | refine g_region ?_ | refine g_block ?_ | refine g_ret ?_ | refine g_return_n ?_ | refine g_exit ?_ | refine g_skip ?_)
      refine o_assign ?_
      first | refine g_endt ?_ | refine g_end ?_
      repeat (first | refine g_endt ?_ | refine g_end ?_ | refine g_then ?_ | refine g_in_normal ?_ | refine g_then_ret ?_ | refine g_in_ret ?_ | refine g_then_exit ?_ | refine g_in_exit rfl ?_ | refine g_in_exit_ne (by decide) ?_ | refine g_seq ?_ | refine g_region ?_ | refine g_block ?_ | refine g_ret ?_ | refine g_return_n ?_ | refine g_exit ?_ | refine g_skip ?_)
      exact ret1 (K := []) rfl (resT (v := .bool true) rfl) ⟨by rw [show sayP l k v o = true from List.any_eq_true.2 ⟨p, List.mem_of_getElem? hp, hb⟩], rfl⟩
    | false =>
      first | refine g_seq (g_cond_f rfl (by first | rfl | (simp; done) | (simp; omega) | (simp; assumption)) ?_) | refine g_cond_f rfl (by first | rfl | (simp; done) | (simp; omega) | (simp; assumption)) ?_
      repeat (first | refine g_endt ?_ | refine g_end ?_ | refine g_then ?_ | refine g_in_normal ?_ | refine g_then_ret ?_ | refine g_in_ret ?_ | refine g_then_exit ?_ | refine g_in_exit rfl ?_ | refine g_in_exit_ne (by decide) ?_ | refine g_seq ?_ | refine g_region ?_ | refine g_block ?_ | refine g_ret ?_ | refine g_return_n ?_ | refine g_exit ?_ | refine g_skip ?_)
      refine o_move ?_
      refine o_add (c := ((i + 1 : Nat) : Int)) rfl rfl (by omega) (by omega) (by omega) ?_
      refine o_assign ?_
      first | refine g_endt ?_ | refine g_end ?_
      repeat (first | refine g_endt ?_ | refine g_end ?_ | refine g_then ?_ | refine g_in_normal ?_ | refine g_then_ret ?_ | refine g_in_ret ?_ | refine g_then_exit ?_ | refine g_in_exit rfl ?_ | refine g_in_exit_ne (by decide) ?_ | refine g_seq ?_ | refine g_region ?_ | refine g_block ?_ | refine g_ret ?_ | refine g_return_n ?_ | refine g_exit ?_ | refine g_skip ?_)
      have hn : ∀ (j : Nat) (z : PrefD), j < i + 1 → l[j]? = some z → okS k v o z = false := fun j z hj hz => by
        by_cases e : j = i
        · subst e; rw [hp] at hz; cases hz; exact hb
        · exact hlow j z (by omega) hz
      exact g_meets (⟨i + 1, h, hn⟩) (by first | exact trivial | (dsimp only; omega)) (Sat.mem (by repeat (first | exact trivial | refine And.intro rfl ?_)))
  · first | refine g_seq (g_cond_f rfl (by simp; omega) ?_) | refine g_cond_f rfl (by simp; omega) ?_
    repeat (first | refine g_endt ?_ | refine g_end ?_ | refine g_then ?_ | refine g_in_normal ?_ | refine g_then_ret ?_ | refine g_in_ret ?_ | refine g_then_exit ?_ | refine g_in_exit rfl ?_ | refine g_in_exit_ne (by decide) ?_ | refine g_seq ?_ | refine g_region ?_ | refine g_block ?_ | refine g_ret ?_ | refine g_return_n ?_ | refine g_exit ?_ | refine g_skip ?_)
    refine o_assign ?_
    first | refine g_endt ?_ | refine g_end ?_
    repeat (first | refine g_endt ?_ | refine g_end ?_ | refine g_then ?_ | refine g_in_normal ?_ | refine g_then_ret ?_ | refine g_in_ret ?_ | refine g_then_exit ?_ | refine g_in_exit rfl ?_ | refine g_in_exit_ne (by decide) ?_ | refine g_seq ?_ | refine g_region ?_ | refine g_block ?_ | refine g_ret ?_ | refine g_return_n ?_ | refine g_exit ?_ | refine g_skip ?_)
    exact ret1 (K := []) rfl (resT (v := .bool false) rfl) ⟨by
      rw [show sayP l k v o = false from List.any_eq_false.2 fun g hg => ?_]
      obtain ⟨j, hj⟩ := List.mem_iff_getElem?.1 hg
      rw [hlow j g (by have := (List.getElem?_eq_some_iff.1 hj).1; omega) hj]; simp, rfl⟩
end Go.Proofs.Ytljiooihhfndjaa
/- Symbols held against each other by the reference. -/
namespace Go.Proofs.Ytljiooihhfndjaa
open Go Go.Sl
attribute [local irreducible] Code.wpIn roundPost bodyPostM runL Ret Meets Begin

theorem cmpI_lt {a b : Int} : cmpI a b < 0 ↔ a < b := by unfold cmpI; (repeat' split) <;> omega
theorem cmpS_lt {a b : ByteArray} : cmpS a b < 0 ↔ Op.bytesLess a.toList b.toList = true := by
  unfold cmpS
  by_cases h1 : Op.bytesLess a.toList b.toList = true
  · simp [h1]
  · by_cases h2 : Op.bytesLess b.toList a.toList = true <;> simp [h1, h2]
theorem Before_spec (a b : SymD) : Ctr Try.prog 20 [a.val, b.val] [] (fun v M => v = .bool (decide (a.cmp b < 0)) ∧ M = []) := by
  refine spec_of Try.func20 rfl Try.ntmps20 rfl fun w0 F => ?_
  repeat (first | refine g_endt ?_ | refine g_end ?_ | refine g_then ?_ | refine g_in_normal ?_ | refine g_then_ret ?_ | refine g_in_ret ?_ | refine g_then_exit ?_ | refine g_in_exit rfl ?_ | refine g_in_exit_ne (by decide) ?_ | refine g_seq ?_ | refine g_region ?_ | refine g_block ?_ | refine g_ret ?_ | refine g_return_n ?_ | refine g_exit ?_ | refine g_skip ?_)
  refine o_boxc a.val.cells rfl rfl fun p => ?_
  refine o_boxc b.val.cells rfl rfl fun q => ?_
  refine o_assign ?_
  refine g_endt ?_
  repeat (first | refine g_endt ?_ | refine g_end ?_ | refine g_then ?_ | refine g_in_normal ?_ | refine g_then_ret ?_ | refine g_in_ret ?_ | refine g_then_exit ?_ | refine g_in_exit rfl ?_ | refine g_in_exit_ne (by decide) ?_ | refine g_seq ?_ | refine g_region ?_ | refine g_block ?_ | refine g_ret ?_ | refine g_return_n ?_ | refine g_exit ?_ | refine g_skip ?_)
  refine o_field rfl ?_
  refine o_load1 (v := .int .i64 a.kind) rfl rfl ?_
  refine o_field rfl ?_
  refine o_load1 (v := .int .i64 b.kind) rfl rfl ?_
  refine o_neq rfl rfl ?_
  refine g_endt ?_
  by_cases h1 : a.kind = b.kind
  · first | refine g_seq (g_cond_f rfl (by simp [h1]) ?_) | refine g_cond_f rfl (by simp [h1]) ?_
    have z1 : cmpI a.kind b.kind = 0 := by rw [h1]; exact linI.refl _
    repeat (first | refine g_endt ?_ | refine g_end ?_ | refine g_then ?_ | refine g_in_normal ?_ | refine g_then_ret ?_ | refine g_in_ret ?_ | refine g_then_exit ?_ | refine g_in_exit rfl ?_ | refine g_in_exit_ne (by decide) ?_ | refine g_seq ?_ | refine g_region ?_ | refine g_block ?_ | refine g_ret ?_ | refine g_return_n ?_ | refine g_exit ?_ | refine g_skip ?_)
    refine o_field rfl ?_
    refine o_load1 (v := .string a.text) rfl rfl ?_
    refine o_field rfl ?_
    refine o_load1 (v := .string b.text) rfl rfl ?_
    refine o_sneq rfl rfl ?_
    refine g_endt ?_
    by_cases h2 : a.text = b.text
    · first | refine g_seq (g_cond_f rfl (by simp [h2]) ?_) | refine g_cond_f rfl (by simp [h2]) ?_
      have z2 : cmpS a.text b.text = 0 := by rw [h2]; exact linS.refl _
      repeat (first | refine g_endt ?_ | refine g_end ?_ | refine g_then ?_ | refine g_in_normal ?_ | refine g_then_ret ?_ | refine g_in_ret ?_ | refine g_then_exit ?_ | refine g_in_exit rfl ?_ | refine g_in_exit_ne (by decide) ?_ | refine g_seq ?_ | refine g_region ?_ | refine g_block ?_ | refine g_ret ?_ | refine g_return_n ?_ | refine g_exit ?_ | refine g_skip ?_)
      refine o_field rfl ?_
      refine o_load1 (v := .int .i64 a.n) rfl rfl ?_
      refine o_field rfl ?_
      refine o_load1 (v := .int .i64 b.n) rfl rfl ?_
      refine o_lss rfl rfl ?_
      refine o_assign ?_
      refine g_endt ?_
      repeat (first | refine g_endt ?_ | refine g_end ?_ | refine g_then ?_ | refine g_in_normal ?_ | refine g_then_ret ?_ | refine g_in_ret ?_ | refine g_then_exit ?_ | refine g_in_exit rfl ?_ | refine g_in_exit_ne (by decide) ?_ | refine g_seq ?_ | refine g_region ?_ | refine g_block ?_ | refine g_ret ?_ | refine g_return_n ?_ | refine g_exit ?_ | refine g_skip ?_)
      exact ret1 rfl (resT (v := .bool (decide (a.n < b.n))) rfl) ⟨by rw [show a.cmp b = cmpI a.n b.n by simp [SymD.cmp, lex, z1, z2]]; simp only [cmpI_lt], rfl⟩
    · first | refine g_seq (g_cond_t rfl (by simpa [toList_inj] using h2) ?_) | refine g_cond_t rfl (by simpa [toList_inj] using h2) ?_
      have z2 : cmpS a.text b.text ≠ 0 := fun e => h2 (cmpS_zero e)
      repeat (first | refine g_endt ?_ | refine g_end ?_ | refine g_then ?_ | refine g_in_normal ?_ | refine g_then_ret ?_ | refine g_in_ret ?_ | refine g_then_exit ?_ | refine g_in_exit rfl ?_ | refine g_in_exit_ne (by decide) ?_ | refine g_seq ?_ | refine g_region ?_ | refine g_block ?_ | refine g_ret ?_ | refine g_return_n ?_ | refine g_exit ?_ | refine g_skip ?_)
      refine o_field rfl ?_
      refine o_load1 (v := .string a.text) rfl rfl ?_
      refine o_field rfl ?_
      refine o_load1 (v := .string b.text) rfl rfl ?_
      refine o_slss rfl rfl ?_
      refine o_assign ?_
      refine g_endt ?_
      repeat (first | refine g_endt ?_ | refine g_end ?_ | refine g_then ?_ | refine g_in_normal ?_ | refine g_then_ret ?_ | refine g_in_ret ?_ | refine g_then_exit ?_ | refine g_in_exit rfl ?_ | refine g_in_exit_ne (by decide) ?_ | refine g_seq ?_ | refine g_region ?_ | refine g_block ?_ | refine g_ret ?_ | refine g_return_n ?_ | refine g_exit ?_ | refine g_skip ?_)
      exact ret1 rfl (resT (v := .bool (Op.bytesLess a.text.toList b.text.toList)) rfl) ⟨by rw [show a.cmp b = cmpS a.text b.text by simp [SymD.cmp, lex, z1, z2]]; simp only [cmpS_lt, Bool.decide_eq_true], rfl⟩
  · first | refine g_seq (g_cond_t rfl (by simpa using h1) ?_) | refine g_cond_t rfl (by simpa using h1) ?_
    have z1 : cmpI a.kind b.kind ≠ 0 := fun e => h1 (cmpI_zero e)
    repeat (first | refine g_endt ?_ | refine g_end ?_ | refine g_then ?_ | refine g_in_normal ?_ | refine g_then_ret ?_ | refine g_in_ret ?_ | refine g_then_exit ?_ | refine g_in_exit rfl ?_ | refine g_in_exit_ne (by decide) ?_ | refine g_seq ?_ | refine g_region ?_ | refine g_block ?_ | refine g_ret ?_ | refine g_return_n ?_ | refine g_exit ?_ | refine g_skip ?_)
    refine o_field rfl ?_
    refine o_load1 (v := .int .i64 a.kind) rfl rfl ?_
    refine o_field rfl ?_
    refine o_load1 (v := .int .i64 b.kind) rfl rfl ?_
    refine o_lss rfl rfl ?_
    refine o_assign ?_
    refine g_endt ?_
    repeat (first | refine g_endt ?_ | refine g_end ?_ | refine g_then ?_ | refine g_in_normal ?_ | refine g_then_ret ?_ | refine g_in_ret ?_ | refine g_then_exit ?_ | refine g_in_exit rfl ?_ | refine g_in_exit_ne (by decide) ?_ | refine g_seq ?_ | refine g_region ?_ | refine g_block ?_ | refine g_ret ?_ | refine g_return_n ?_ | refine g_exit ?_ | refine g_skip ?_)
    exact ret1 rfl (resT (v := .bool (decide (a.kind < b.kind))) rfl) ⟨by rw [show a.cmp b = cmpI a.kind b.kind by simp [SymD.cmp, lex, z1]]; simp only [cmpI_lt], rfl⟩
end Go.Proofs.Ytljiooihhfndjaa
/- A symbol told from others. Plain law, no program in sight. -/
namespace Go.Proofs.Ytljiooihhfndjaa
open Go Go.Sl

theorem SymD.beq_self (x : SymD) : x.beq x = true := (SymD.beq_iff x x).2 rfl
theorem SymD.beq_ne {x k : SymD} (h : x ≠ k) : ¬ x.beq k = true := fun e => h ((SymD.beq_iff x k).1 e)
end Go.Proofs.Ytljiooihhfndjaa
