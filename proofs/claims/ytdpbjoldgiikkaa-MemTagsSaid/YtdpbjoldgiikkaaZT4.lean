/- Parts of a proof, in order. -/
import Derived.Test.YtdpbjoldgiikkaaZT3

set_option linter.unusedSimpArgs false
set_option linter.unusedVariables false
/- Working memory's store: what it has; an element put into it, an element dropped. -/
namespace Go.Proofs.Ytdpbjoldgiikkaa
open Go Go.Sl
attribute [local irreducible] Exit.then Exit.inBlock Code.wpIn roundPost bodyPostM runL Ret Meets MeetsD Begin

/-! ### Plain -/
def tgE (e : ElemD) : PgTE := ⟨⟨e.tag⟩, e⟩
theorem numC {a b : Int} : NumD.cmp ⟨a⟩ ⟨b⟩ < 0 ↔ a < b := by
  simp only [NumD.cmp, cmpI]
  constructor
  · intro h; split at h
    · assumption
    · split at h <;> omega
  · intro h; rw [if_pos h]; decide
theorem insL_last {α : Type} {f : α → α → Int} {l : List α} {a : α} (h : ∀ z ∈ l, f z a < 0) : insC f l a = l ++ [a] := by
  have tw : ∀ {l : List α}, (∀ z ∈ l, f z a < 0) → l.takeWhile (fun y => decide (f y a < 0)) = l ∧ l.dropWhile (fun y => decide (f y a < 0)) = [] := by
    intro l
    induction l with
    | nil => exact fun _ => ⟨rfl, rfl⟩
    | cons x l ih =>
      intro h
      obtain ⟨e1, e2⟩ := ih fun z hz => h z (List.mem_cons_of_mem _ hz)
      have hx := h x List.mem_cons_self
      rw [List.takeWhile_cons, List.dropWhile_cons, if_pos (by simpa using hx), if_pos (by simpa using hx), e1, e2]
      exact ⟨rfl, rfl⟩
  unfold insC
  have h1 : (l.any fun y => decide (f y a = 0)) = false := List.any_eq_false.2 fun y hy => by have := h y hy; simp; omega
  obtain ⟨h2, h3⟩ := tw h
  rw [h1, h2, h3]
  rfl
def Tags (ts : List ElemD) : Prop := ts.Pairwise fun a b => a.tag < b.tag
theorem Tags.srt {ts : List ElemD} (h : Tags ts) : Srt PgTE.cmp (ts.map tgE) := fun i j a b hij ha hb => by
  rw [List.getElem?_map] at ha hb
  obtain ⟨x, hx, rfl⟩ := Option.map_eq_some_iff.1 ha
  obtain ⟨y, hy, rfl⟩ := Option.map_eq_some_iff.1 hb
  obtain ⟨hi, rfl⟩ := List.getElem?_eq_some_iff.1 hx
  obtain ⟨hj, rfl⟩ := List.getElem?_eq_some_iff.1 hy
  exact numC.2 (List.pairwise_iff_getElem.1 h i j hi hj hij)
theorem Tags.eq {ts : List ElemD} (h : Tags ts) {a b : ElemD} (ha : a ∈ ts) (hb : b ∈ ts) (e : a.tag = b.tag) : a = b := by
  obtain ⟨i, hi, rfl⟩ := List.mem_iff_getElem.1 ha
  obtain ⟨j, hj, rfl⟩ := List.mem_iff_getElem.1 hb
  rcases Nat.lt_trichotomy i j with hij | hij | hij
  · have := List.pairwise_iff_getElem.1 h i j hi hj hij; omega
  · subst hij; rfl
  · have := List.pairwise_iff_getElem.1 h j i hj hi hij; omega
theorem tgE_snoc {ts : List ElemD} {e : ElemD} (h : ∀ o ∈ ts, o.tag < e.tag) : insC PgTE.cmp (ts.map tgE) (tgE e) = (ts ++ [e]).map tgE := by
  rw [insL_last, List.map_append]; rfl
  intro z hz
  obtain ⟨o, ho, rfl⟩ := List.mem_map.1 hz
  exact numC.2 (h o ho)
theorem tgE_has {ts : List ElemD} {e : ElemD} (h : ∀ o ∈ ts, o.tag < e.tag) : hasC PgTE.cmp (ts.map tgE) (tgE e) = false := by
  unfold hasC
  rw [List.any_eq_false]
  intro z hz
  obtain ⟨o, ho, rfl⟩ := List.mem_map.1 hz
  have := numC.2 (h o ho)
  have e2 : PgTE.cmp (tgE o) (tgE e) < 0 := this
  simp; omega
def noTag (ts : List ElemD) (t : Int) : List ElemD := ts.filter fun o => !decide (o.tag = t)
theorem tgE_del (ts : List ElemD) (t : Int) (v : ElemD) : delC PgTE.cmp (ts.map tgE) ⟨⟨t⟩, v⟩ = (noTag ts t).map tgE := by
  unfold delC noTag
  rw [List.filter_map]
  congr 1
  congr 1
  funext o
  have : PgTE.cmp (tgE o) ⟨⟨t⟩, v⟩ = 0 ↔ o.tag = t := by
    show NumD.cmp ⟨o.tag⟩ ⟨t⟩ = 0 ↔ _
    rw [NumD.cmp_iff]; simp
  simp only [Function.comp]
  rw [show decide (PgTE.cmp (tgE o) ⟨⟨t⟩, v⟩ = 0) = decide (o.tag = t) from by rw [decide_eq_decide]; exact this]
structure StI (next : Int) (ts ys : List ElemD) : Prop where
  srt : Srt ElemD.cmp ys
  perm : ys.Perm ts
  tags : Tags ts
  lt : ∀ e ∈ ts, e.tag < next
theorem StI.nil (n : Int) : StI n [] [] := ⟨Srt.nil, .refl _, List.Pairwise.nil, fun e h => by cases h⟩
theorem StI.put {next : Int} {ts ys : List ElemD} (h : StI next ts ys) {e : ElemD} (hn : hasC ElemD.cmp ys e = false) (ht : e.tag = next) : StI (next + 1) (ts ++ [e]) (insC ElemD.cmp ys e) :=
  ⟨h.srt.insC linElem e, (insC_perm hn).symm.trans ((h.perm.cons e).trans (List.perm_append_comm (l₁ := [e]))), by
    unfold Tags
    rw [List.pairwise_append]
    exact ⟨h.tags, List.pairwise_singleton _ _, fun a ha b hb => by rw [List.mem_singleton] at hb; subst hb; have := h.lt a ha; omega⟩, fun o ho => by
    rcases List.mem_append.1 ho with ho | ho
    · have := h.lt o ho; omega
    · rw [List.mem_singleton] at ho; subst ho; omega⟩
theorem StI.has {next : Int} {ts ys : List ElemD} (h : StI next ts ys) (e : ElemD) : hasC ElemD.cmp ys e = hasC ElemD.cmp ts e := by
  unfold hasC
  rw [Bool.eq_iff_iff, List.any_eq_true, List.any_eq_true]
  exact ⟨fun ⟨z, hz, r⟩ => ⟨z, h.perm.mem_iff.1 hz, r⟩, fun ⟨z, hz, r⟩ => ⟨z, h.perm.mem_iff.2 hz, r⟩⟩
theorem StI.drop {next : Int} {ts ys : List ElemD} (h : StI next ts ys) {e : ElemD} (he : e ∈ ts) : StI next (noTag ts e.tag) (delC ElemD.cmp ys e) :=
  ⟨h.srt.filter _, by
    have h1 : (delC ElemD.cmp ys e).Perm (ts.filter fun y => !decide (y.cmp e = 0)) := h.perm.filter _
    refine h1.trans (List.Perm.of_eq ?_)
    unfold noTag
    refine List.filter_congr fun o ho => ?_
    rw [show decide (o.cmp e = 0) = decide (o.tag = e.tag) from ?_]
    rw [decide_eq_decide]
    constructor
    · intro hc; rw [h.srt.uniq linElem (h.perm.mem_iff.2 ho) (h.perm.mem_iff.2 he) hc]
    · intro ht; rw [h.tags.eq ho he ht]; exact linElem.refl e, h.tags.filter _, fun o ho => h.lt o (List.mem_filter.1 ho).1⟩
theorem StI.len {next : Int} {ts ys : List ElemD} (h : StI next ts ys) : ys.length = ts.length := h.perm.length_eq

/-! ### In memory -/
structure StA where
  pa : Nat
  pt : Nat
  pi : Nat
  pr : Nat
abbrev stV (room next : Int) (a : StA) : Array Value := #[.int .i64 room, .int .i64 next, .pointer (some ⟨a.pa, 0, none⟩), .pointer (some ⟨a.pt, 0, none⟩), .pointer (some ⟨a.pi, 0, none⟩), .pointer (some ⟨a.pr, 0, none⟩)]
abbrev stC (s : Nat) (room next : Int) (a : StA) : SProp := cellsB s (stV room next a) 73
/-- The parts of a store but for its own cell. -/
abbrev stK (a : StA) (ts ys : List ElemD) : List SProp := [SetAES a.pa ys, MapATE a.pt (ts.map tgE), IdxP a.pi ElemD.id ys, IdxP a.pr ElemD.attr ys]
def StP (s : Nat) (room next : Int) (ts : List ElemD) : SProp := ex fun t : StA × List ElemD => sl (pu (StI next ts t.2) :: stC s room next t.1 :: stK t.1 ts t.2)
section
variable {w0 : World} {A : SProp} {L M : List SProp} {Φ : World → Prop}
theorem openSt (s : Nat) (room next : Int) (ts : List ElemD) [tk : Take1 L (StP s room next ts) M] (h : ∀ a ys, StI next ts ys → G w0 A (stC s room next a :: (stK a ts ys ++ M)) Φ) : G w0 A L Φ :=
  G.perm tk.perm (G.ex fun ⟨a, ys⟩ => G.open_sl (G.pu fun hi => h a ys hi))
theorem shutSt (s : Nat) (room next : Int) (ts : List ElemD) (a : StA) (ys : List ElemD) (hi : StI next ts ys) [tk : Take L (stC s room next a :: stK a ts ys) M] (h : G w0 A (StP s room next ts :: M) Φ) : G w0 A L Φ :=
  G.perm tk.perm (G.pu_in hi (G.ent (L := pu (StI next ts ys) :: ((stC s room next a :: stK a ts ys) ++ M)) (L' := StP s room next ts :: M)
    ((sl_append_to (pu (StI next ts ys) :: stC s room next a :: stK a ts ys) M).trans (Ent.star (show Ent _ (StP s room next ts) from fun _ _ x => ⟨(a, ys), x⟩) (Ent.refl _))) h))
end
theorem DropCMTE_spec (m : Nat) (ts : List ElemD) (t : Int) (hs : Tags ts) (hl : ts.length < 1000000000) : Ctr Try.prog 66 [.pointer (some ⟨m, 0, none⟩), .int .i64 t] [MapATE m (ts.map tgE)]
    (fun u M => M = [MapATE m ((noTag ts t).map tgE)]) := (DropMTE_spec m (ts.map tgE) ⟨t⟩ hs.srt (by simpa using hl)).mono fun u M ⟨i, there, h1, h2, h3⟩ => by
  rw [h2, delC_of PgTE.lin hs.srt h3, tgE_del]
theorem PutTMTE_spec (m : Nat) (ts : List ElemD) (e : ElemD) (hs : Tags ts) (hl : ts.length < 999999999) (hn : ∀ o ∈ ts, o.tag < e.tag) : Ctr Try.prog 70 [.pointer (some ⟨m, 0, none⟩), .int .i64 e.tag, e.val] [MapATE m (ts.map tgE)]
    (fun u M => u = .bool true ∧ M = [MapATE m ((ts ++ [e]).map tgE)]) := (PutNMTE_spec m (ts.map tgE) ⟨e.tag⟩ e hs.srt (by simpa using hl) (tgE_has hn)).mono fun u M ⟨h1, h2⟩ => ⟨h1, by
  rw [h2]; exact congrArg (fun z => [MapATE m z]) (tgE_snoc hn)⟩
set_option maxHeartbeats 1000000 in
theorem put10_spec (s : Nat) (room next : Int) (a : StA) (ts ys : List ElemD) (e : ElemD) (hs : Srt ElemD.cmp ys) (ht : Tags ts) (hl : ys.length ≤ 100000) (hl2 : ts.length ≤ 100000) (hn : hasC ElemD.cmp ys e = false) (hlt : ∀ o ∈ ts, o.tag < e.tag) :
    Ctr Try.prog 46 [.pointer (some ⟨s, 0, none⟩), e.val] (stC s room next a :: stK a ts ys) (fun _ M => M = stC s room next a :: stK a (ts ++ [e]) (insC ElemD.cmp ys e)) := by
  refine spec_of Try.func46 rfl Try.ntmps46 rfl fun w0 F => ?_
  -- (*ponder/mem.Store).put
  repeat (first | refine g_endt ?_ | refine g_end ?_ | refine g_then ?_ | refine g_in_normal ?_ | refine g_then_ret ?_ | refine g_in_ret ?_ | refine g_then_exit ?_ | refine g_in_exit rfl ?_ | refine g_in_exit_ne (by decide) ?_ | refine g_seq ?_ | refine g_region ?_ | refine g_block ?_ | refine g_ret ?_ | refine g_return_n ?_ | refine g_exit ?_ | refine g_skip ?_)
  refine o_boxc e.val.cells rfl rfl fun q => ?_
  first | refine g_endt ?_ | refine g_end ?_
  repeat (first | refine g_endt ?_ | refine g_end ?_ | refine g_then ?_ | refine g_in_normal ?_ | refine g_then_ret ?_ | refine g_in_ret ?_ | refine g_then_exit ?_ | refine g_in_exit rfl ?_ | refine g_in_exit_ne (by decide) ?_ | refine g_seq ?_ | refine g_region ?_ | refine g_block ?_ | refine g_ret ?_ | refine g_return_n ?_ | refine g_exit ?_ | refine g_skip ?_)
  refine g_draw [5] [0,1,2,3,4,5] [stC s room next a, cellsB q e.val.cells 25] mixed rfl ?_
  refine ob_q rfl rfl ⟨_, fun X Q h => o_move (g_end (h _ _ ⟨rfl, rfl⟩)), ?_⟩
  refine ob_q rfl rfl ⟨_, fun X Q h => o_nil rfl (g_end (h _ _ ⟨rfl, rfl⟩)), ?_⟩
  first | refine ob_q rfl rfl ⟨_, fun X Q h => o_field rfl (g_end (h _ _ ⟨rfl, rfl⟩)), ?_⟩ | refine ob_q rfl rfl ⟨_, fun X Q h => o_fieldR rfl (by omega) (g_end (h _ _ ⟨rfl, rfl⟩)), ?_⟩
  refine ob_q rfl rfl ⟨_, fun X Q h => o_load1 (v := .pointer (some ⟨a.pa, 0, none⟩)) rfl rfl (g_end (h _ _ ⟨rfl, rfl⟩)), ?_⟩
  refine ob_q rfl rfl ⟨_, fun X Q h => o_loadN (v := e.val) rfl rfl rfl (g_end (h _ _ ⟨rfl, rfl⟩)), ?_⟩
  refine ob_l rfl rfl fun Qz hz => o_call (PutCES_spec a.pa ys e hs (by omega)) rfl rfl ?_
  rintro _ _ ⟨rfl, rfl⟩
  refine g_end (hz _ _ ⟨_, ob_fin, ?_⟩)
  clear hz Qz
  refine ob_nil ?_
  repeat (first | refine g_endt ?_ | refine g_end ?_ | refine g_then ?_ | refine g_in_normal ?_ | refine g_then_ret ?_ | refine g_in_ret ?_ | refine g_then_exit ?_ | refine g_in_exit rfl ?_ | refine g_in_exit_ne (by decide) ?_ | refine g_seq ?_ | refine g_region ?_ | refine g_block ?_ | refine g_ret ?_ | refine g_return_n ?_ | refine g_exit ?_ | refine g_skip ?_)
  refine g_draw [7] [0,1,2,3,4,5,6,7] [stC s room next a, cellsB q e.val.cells 25] mixed rfl ?_
  refine ob_q rfl rfl ⟨_, fun X Q h => o_move (g_end (h _ _ ⟨rfl, rfl⟩)), ?_⟩
  refine ob_q rfl rfl ⟨_, fun X Q h => o_nil rfl (g_end (h _ _ ⟨rfl, rfl⟩)), ?_⟩
  first | refine ob_q rfl rfl ⟨_, fun X Q h => o_field rfl (g_end (h _ _ ⟨rfl, rfl⟩)), ?_⟩ | refine ob_q rfl rfl ⟨_, fun X Q h => o_fieldR rfl (by omega) (g_end (h _ _ ⟨rfl, rfl⟩)), ?_⟩
  refine ob_q rfl rfl ⟨_, fun X Q h => o_load1 (v := .pointer (some ⟨a.pt, 0, none⟩)) rfl rfl (g_end (h _ _ ⟨rfl, rfl⟩)), ?_⟩
  first | refine ob_q rfl rfl ⟨_, fun X Q h => o_field rfl (g_end (h _ _ ⟨rfl, rfl⟩)), ?_⟩ | refine ob_q rfl rfl ⟨_, fun X Q h => o_fieldR rfl (by omega) (g_end (h _ _ ⟨rfl, rfl⟩)), ?_⟩
  refine ob_q rfl rfl ⟨_, fun X Q h => o_load1 (v := .int .i64 e.tag) rfl rfl (g_end (h _ _ ⟨rfl, rfl⟩)), ?_⟩
  refine ob_q rfl rfl ⟨_, fun X Q h => o_loadN (v := e.val) rfl rfl rfl (g_end (h _ _ ⟨rfl, rfl⟩)), ?_⟩
  refine ob_l rfl rfl fun Qz hz => o_call (PutTMTE_spec a.pt ts e ht (by omega) hlt) rfl rfl ?_
  rintro _ _ ⟨rfl, rfl⟩
  refine g_end (hz _ _ ⟨_, ob_fin, ?_⟩)
  clear hz Qz
  refine ob_nil ?_
  repeat (first | refine g_endt ?_ | refine g_end ?_ | refine g_then ?_ | refine g_in_normal ?_ | refine g_then_ret ?_ | refine g_in_ret ?_ | refine g_then_exit ?_ | refine g_in_exit rfl ?_ | refine g_in_exit_ne (by decide) ?_ | refine g_seq ?_ | refine g_region ?_ | refine g_block ?_ | refine g_ret ?_ | refine g_return_n ?_ | refine g_exit ?_ | refine g_skip ?_)
  refine g_draw [7] [0,1,2,3,4,5,6,7] [stC s room next a, cellsB q e.val.cells 25] mixed rfl ?_
  refine ob_q rfl rfl ⟨_, fun X Q h => o_move (g_end (h _ _ ⟨rfl, rfl⟩)), ?_⟩
  refine ob_q rfl rfl ⟨_, fun X Q h => o_nil rfl (g_end (h _ _ ⟨rfl, rfl⟩)), ?_⟩
  first | refine ob_q rfl rfl ⟨_, fun X Q h => o_field rfl (g_end (h _ _ ⟨rfl, rfl⟩)), ?_⟩ | refine ob_q rfl rfl ⟨_, fun X Q h => o_fieldR rfl (by omega) (g_end (h _ _ ⟨rfl, rfl⟩)), ?_⟩
  refine ob_q rfl rfl ⟨_, fun X Q h => o_load1 (v := .pointer (some ⟨a.pi, 0, none⟩)) rfl rfl (g_end (h _ _ ⟨rfl, rfl⟩)), ?_⟩
  first | refine ob_q rfl rfl ⟨_, fun X Q h => o_field rfl (g_end (h _ _ ⟨rfl, rfl⟩)), ?_⟩ | refine ob_q rfl rfl ⟨_, fun X Q h => o_fieldR rfl (by omega) (g_end (h _ _ ⟨rfl, rfl⟩)), ?_⟩
  refine ob_q rfl rfl ⟨_, fun X Q h => o_loadN (v := e.id.val) rfl rfl rfl (g_end (h _ _ ⟨rfl, rfl⟩)), ?_⟩
  refine ob_q rfl rfl ⟨_, fun X Q h => o_loadN (v := e.val) rfl rfl rfl (g_end (h _ _ ⟨rfl, rfl⟩)), ?_⟩
  refine ob_l rfl rfl fun Qz hz => o_call (into_spec a.pi ElemD.id ys e hs hl hn) rfl rfl ?_
  rintro _ _ rfl
  refine g_end (hz _ _ ⟨_, ob_fin, ?_⟩)
  clear hz Qz
  refine ob_nil ?_
  repeat (first | refine g_endt ?_ | refine g_end ?_ | refine g_then ?_ | refine g_in_normal ?_ | refine g_then_ret ?_ | refine g_in_ret ?_ | refine g_then_exit ?_ | refine g_in_exit rfl ?_ | refine g_in_exit_ne (by decide) ?_ | refine g_seq ?_ | refine g_region ?_ | refine g_block ?_ | refine g_ret ?_ | refine g_return_n ?_ | refine g_exit ?_ | refine g_skip ?_)
  refine g_draw [7] [0,1,2,3,4,5,6,7] [stC s room next a, cellsB q e.val.cells 25] mixed rfl ?_
  refine ob_q rfl rfl ⟨_, fun X Q h => o_move (g_end (h _ _ ⟨rfl, rfl⟩)), ?_⟩
  refine ob_q rfl rfl ⟨_, fun X Q h => o_nil rfl (g_end (h _ _ ⟨rfl, rfl⟩)), ?_⟩
  first | refine ob_q rfl rfl ⟨_, fun X Q h => o_field rfl (g_end (h _ _ ⟨rfl, rfl⟩)), ?_⟩ | refine ob_q rfl rfl ⟨_, fun X Q h => o_fieldR rfl (by omega) (g_end (h _ _ ⟨rfl, rfl⟩)), ?_⟩
  refine ob_q rfl rfl ⟨_, fun X Q h => o_load1 (v := .pointer (some ⟨a.pr, 0, none⟩)) rfl rfl (g_end (h _ _ ⟨rfl, rfl⟩)), ?_⟩
  first | refine ob_q rfl rfl ⟨_, fun X Q h => o_field rfl (g_end (h _ _ ⟨rfl, rfl⟩)), ?_⟩ | refine ob_q rfl rfl ⟨_, fun X Q h => o_fieldR rfl (by omega) (g_end (h _ _ ⟨rfl, rfl⟩)), ?_⟩
  refine ob_q rfl rfl ⟨_, fun X Q h => o_loadN (v := e.attr.val) rfl rfl rfl (g_end (h _ _ ⟨rfl, rfl⟩)), ?_⟩
  refine ob_q rfl rfl ⟨_, fun X Q h => o_loadN (v := e.val) rfl rfl rfl (g_end (h _ _ ⟨rfl, rfl⟩)), ?_⟩
  refine ob_l rfl rfl fun Qz hz => o_call (into_spec a.pr ElemD.attr ys e hs hl hn) rfl rfl ?_
  rintro _ _ rfl
  refine g_end (hz _ _ ⟨_, ob_fin, ?_⟩)
  clear hz Qz
  refine ob_nil ?_
  repeat (first | refine g_endt ?_ | refine g_end ?_ | refine g_then ?_ | refine g_in_normal ?_ | refine g_then_ret ?_ | refine g_in_ret ?_ | refine g_then_exit ?_ | refine g_in_exit rfl ?_ | refine g_in_exit_ne (by decide) ?_ | refine g_seq ?_ | refine g_region ?_ | refine g_block ?_ | refine g_ret ?_ | refine g_return_n ?_ | refine g_exit ?_ | refine g_skip ?_)
  exact ret0 (K := stC s room next a :: stK a (ts ++ [e]) (insC ElemD.cmp ys e)) rfl rfl
set_option maxHeartbeats 1000000 in
theorem drop10_spec (s : Nat) (room next : Int) (a : StA) (ts ys : List ElemD) (e : ElemD) (hs : Srt ElemD.cmp ys) (ht : Tags ts) (hl : ys.length ≤ 100000) (hl2 : ts.length ≤ 100000) (hin : e ∈ ys) :
    Ctr Try.prog 43 [.pointer (some ⟨s, 0, none⟩), e.val] (stC s room next a :: stK a ts ys) (fun _ M => M = stC s room next a :: stK a (noTag ts e.tag) (delC ElemD.cmp ys e)) := by
  refine spec_of Try.func43 rfl Try.ntmps43 rfl fun w0 F => ?_
  -- (*ponder/mem.Store).drop
  repeat (first | refine g_endt ?_ | refine g_end ?_ | refine g_then ?_ | refine g_in_normal ?_ | refine g_then_ret ?_ | refine g_in_ret ?_ | refine g_then_exit ?_ | refine g_in_exit rfl ?_ | refine g_in_exit_ne (by decide) ?_ | refine g_seq ?_ | refine g_region ?_ | refine g_block ?_ | refine g_ret ?_ | refine g_return_n ?_ | refine g_exit ?_ | refine g_skip ?_)
  refine o_boxc e.val.cells rfl rfl fun q => ?_
  first | refine g_endt ?_ | refine g_end ?_
  repeat (first | refine g_endt ?_ | refine g_end ?_ | refine g_then ?_ | refine g_in_normal ?_ | refine g_then_ret ?_ | refine g_in_ret ?_ | refine g_then_exit ?_ | refine g_in_exit rfl ?_ | refine g_in_exit_ne (by decide) ?_ | refine g_seq ?_ | refine g_region ?_ | refine g_block ?_ | refine g_ret ?_ | refine g_return_n ?_ | refine g_exit ?_ | refine g_skip ?_)
  refine g_draw [5] [0,1,2,3,4,5] [stC s room next a, cellsB q e.val.cells 25] mixed rfl ?_
  refine ob_q rfl rfl ⟨_, fun X Q h => o_move (g_end (h _ _ ⟨rfl, rfl⟩)), ?_⟩
  refine ob_q rfl rfl ⟨_, fun X Q h => o_nil rfl (g_end (h _ _ ⟨rfl, rfl⟩)), ?_⟩
  first | refine ob_q rfl rfl ⟨_, fun X Q h => o_field rfl (g_end (h _ _ ⟨rfl, rfl⟩)), ?_⟩ | refine ob_q rfl rfl ⟨_, fun X Q h => o_fieldR rfl (by omega) (g_end (h _ _ ⟨rfl, rfl⟩)), ?_⟩
  refine ob_q rfl rfl ⟨_, fun X Q h => o_load1 (v := .pointer (some ⟨a.pa, 0, none⟩)) rfl rfl (g_end (h _ _ ⟨rfl, rfl⟩)), ?_⟩
  refine ob_q rfl rfl ⟨_, fun X Q h => o_loadN (v := e.val) rfl rfl rfl (g_end (h _ _ ⟨rfl, rfl⟩)), ?_⟩
  refine ob_l rfl rfl fun Qz hz => o_call (DropCES_spec a.pa ys e hs (by omega)) rfl rfl ?_
  rintro _ _ ⟨rfl, rfl⟩
  refine g_end (hz _ _ ⟨_, ob_fin, ?_⟩)
  clear hz Qz
  refine ob_nil ?_
  repeat (first | refine g_endt ?_ | refine g_end ?_ | refine g_then ?_ | refine g_in_normal ?_ | refine g_then_ret ?_ | refine g_in_ret ?_ | refine g_then_exit ?_ | refine g_in_exit rfl ?_ | refine g_in_exit_ne (by decide) ?_ | refine g_seq ?_ | refine g_region ?_ | refine g_block ?_ | refine g_ret ?_ | refine g_return_n ?_ | refine g_exit ?_ | refine g_skip ?_)
  refine g_draw [6] [0,1,2,3,4,5,6] [stC s room next a, cellsB q e.val.cells 25] mixed rfl ?_
  refine ob_q rfl rfl ⟨_, fun X Q h => o_move (g_end (h _ _ ⟨rfl, rfl⟩)), ?_⟩
  refine ob_q rfl rfl ⟨_, fun X Q h => o_nil rfl (g_end (h _ _ ⟨rfl, rfl⟩)), ?_⟩
  first | refine ob_q rfl rfl ⟨_, fun X Q h => o_field rfl (g_end (h _ _ ⟨rfl, rfl⟩)), ?_⟩ | refine ob_q rfl rfl ⟨_, fun X Q h => o_fieldR rfl (by omega) (g_end (h _ _ ⟨rfl, rfl⟩)), ?_⟩
  refine ob_q rfl rfl ⟨_, fun X Q h => o_load1 (v := .pointer (some ⟨a.pt, 0, none⟩)) rfl rfl (g_end (h _ _ ⟨rfl, rfl⟩)), ?_⟩
  first | refine ob_q rfl rfl ⟨_, fun X Q h => o_field rfl (g_end (h _ _ ⟨rfl, rfl⟩)), ?_⟩ | refine ob_q rfl rfl ⟨_, fun X Q h => o_fieldR rfl (by omega) (g_end (h _ _ ⟨rfl, rfl⟩)), ?_⟩
  refine ob_q rfl rfl ⟨_, fun X Q h => o_load1 (v := .int .i64 e.tag) rfl rfl (g_end (h _ _ ⟨rfl, rfl⟩)), ?_⟩
  refine ob_l rfl rfl fun Qz hz => o_call (DropCMTE_spec a.pt ts e.tag ht (by omega)) rfl rfl ?_
  rintro _ _ rfl
  refine g_end (hz _ _ ⟨_, ob_fin, ?_⟩)
  clear hz Qz
  refine ob_nil ?_
  repeat (first | refine g_endt ?_ | refine g_end ?_ | refine g_then ?_ | refine g_in_normal ?_ | refine g_then_ret ?_ | refine g_in_ret ?_ | refine g_then_exit ?_ | refine g_in_exit rfl ?_ | refine g_in_exit_ne (by decide) ?_ | refine g_seq ?_ | refine g_region ?_ | refine g_block ?_ | refine g_ret ?_ | refine g_return_n ?_ | refine g_exit ?_ | refine g_skip ?_)
  refine g_draw [7] [0,1,2,3,4,5,6,7] [stC s room next a, cellsB q e.val.cells 25] mixed rfl ?_
  refine ob_q rfl rfl ⟨_, fun X Q h => o_move (g_end (h _ _ ⟨rfl, rfl⟩)), ?_⟩
  refine ob_q rfl rfl ⟨_, fun X Q h => o_nil rfl (g_end (h _ _ ⟨rfl, rfl⟩)), ?_⟩
  first | refine ob_q rfl rfl ⟨_, fun X Q h => o_field rfl (g_end (h _ _ ⟨rfl, rfl⟩)), ?_⟩ | refine ob_q rfl rfl ⟨_, fun X Q h => o_fieldR rfl (by omega) (g_end (h _ _ ⟨rfl, rfl⟩)), ?_⟩
  refine ob_q rfl rfl ⟨_, fun X Q h => o_load1 (v := .pointer (some ⟨a.pi, 0, none⟩)) rfl rfl (g_end (h _ _ ⟨rfl, rfl⟩)), ?_⟩
  first | refine ob_q rfl rfl ⟨_, fun X Q h => o_field rfl (g_end (h _ _ ⟨rfl, rfl⟩)), ?_⟩ | refine ob_q rfl rfl ⟨_, fun X Q h => o_fieldR rfl (by omega) (g_end (h _ _ ⟨rfl, rfl⟩)), ?_⟩
  refine ob_q rfl rfl ⟨_, fun X Q h => o_loadN (v := e.id.val) rfl rfl rfl (g_end (h _ _ ⟨rfl, rfl⟩)), ?_⟩
  refine ob_q rfl rfl ⟨_, fun X Q h => o_loadN (v := e.val) rfl rfl rfl (g_end (h _ _ ⟨rfl, rfl⟩)), ?_⟩
  refine ob_l rfl rfl fun Qz hz => o_call (outOf_spec a.pi ElemD.id resp_id ys e hs hl ⟨e, hin, rfl⟩) rfl rfl ?_
  rintro _ _ rfl
  refine g_end (hz _ _ ⟨_, ob_fin, ?_⟩)
  clear hz Qz
  refine ob_nil ?_
  repeat (first | refine g_endt ?_ | refine g_end ?_ | refine g_then ?_ | refine g_in_normal ?_ | refine g_then_ret ?_ | refine g_in_ret ?_ | refine g_then_exit ?_ | refine g_in_exit rfl ?_ | refine g_in_exit_ne (by decide) ?_ | refine g_seq ?_ | refine g_region ?_ | refine g_block ?_ | refine g_ret ?_ | refine g_return_n ?_ | refine g_exit ?_ | refine g_skip ?_)
  refine g_draw [7] [0,1,2,3,4,5,6,7] [stC s room next a, cellsB q e.val.cells 25] mixed rfl ?_
  refine ob_q rfl rfl ⟨_, fun X Q h => o_move (g_end (h _ _ ⟨rfl, rfl⟩)), ?_⟩
  refine ob_q rfl rfl ⟨_, fun X Q h => o_nil rfl (g_end (h _ _ ⟨rfl, rfl⟩)), ?_⟩
  first | refine ob_q rfl rfl ⟨_, fun X Q h => o_field rfl (g_end (h _ _ ⟨rfl, rfl⟩)), ?_⟩ | refine ob_q rfl rfl ⟨_, fun X Q h => o_fieldR rfl (by omega) (g_end (h _ _ ⟨rfl, rfl⟩)), ?_⟩
  refine ob_q rfl rfl ⟨_, fun X Q h => o_load1 (v := .pointer (some ⟨a.pr, 0, none⟩)) rfl rfl (g_end (h _ _ ⟨rfl, rfl⟩)), ?_⟩
  first | refine ob_q rfl rfl ⟨_, fun X Q h => o_field rfl (g_end (h _ _ ⟨rfl, rfl⟩)), ?_⟩ | refine ob_q rfl rfl ⟨_, fun X Q h => o_fieldR rfl (by omega) (g_end (h _ _ ⟨rfl, rfl⟩)), ?_⟩
  refine ob_q rfl rfl ⟨_, fun X Q h => o_loadN (v := e.attr.val) rfl rfl rfl (g_end (h _ _ ⟨rfl, rfl⟩)), ?_⟩
  refine ob_q rfl rfl ⟨_, fun X Q h => o_loadN (v := e.val) rfl rfl rfl (g_end (h _ _ ⟨rfl, rfl⟩)), ?_⟩
  refine ob_l rfl rfl fun Qz hz => o_call (outOf_spec a.pr ElemD.attr resp_attr ys e hs hl ⟨e, hin, rfl⟩) rfl rfl ?_
  rintro _ _ rfl
  refine g_end (hz _ _ ⟨_, ob_fin, ?_⟩)
  clear hz Qz
  refine ob_nil ?_
  repeat (first | refine g_endt ?_ | refine g_end ?_ | refine g_then ?_ | refine g_in_normal ?_ | refine g_then_ret ?_ | refine g_in_ret ?_ | refine g_then_exit ?_ | refine g_in_exit rfl ?_ | refine g_in_exit_ne (by decide) ?_ | refine g_seq ?_ | refine g_region ?_ | refine g_block ?_ | refine g_ret ?_ | refine g_return_n ?_ | refine g_exit ?_ | refine g_skip ?_)
  exact ret0 (K := stC s room next a :: stK a (noTag ts e.tag) (delC ElemD.cmp ys e)) rfl rfl
end Go.Proofs.Ytdpbjoldgiikkaa
/- Symbols held against each other by the reference. -/
namespace Go.Proofs.Ytdpbjoldgiikkaa
open Go Go.Sl
attribute [local irreducible] Code.wpIn roundPost bodyPostM runL Ret Meets Begin

theorem cmpI_lt {a b : Int} : cmpI a b < 0 ↔ a < b := by unfold cmpI; (repeat' split) <;> omega
theorem cmpS_lt {a b : ByteArray} : cmpS a b < 0 ↔ Op.bytesLess a.toList b.toList = true := by
  unfold cmpS
  by_cases h1 : Op.bytesLess a.toList b.toList = true
  · simp [h1]
  · by_cases h2 : Op.bytesLess b.toList a.toList = true <;> simp [h1, h2]
theorem Before_spec (a b : SymD) : Ctr Try.prog 51 [a.val, b.val] [] (fun v M => v = .bool (decide (a.cmp b < 0)) ∧ M = []) := by
  refine spec_of Try.func51 rfl Try.ntmps51 rfl fun w0 F => ?_
  repeat (first | refine g_endt ?_ | refine g_end ?_ | refine g_then ?_ | refine g_in_normal ?_ | refine g_then_ret ?_ | refine g_in_ret ?_ | refine g_then_exit ?_ | refine g_in_exit rfl ?_ | refine g_in_exit_ne (by decide) ?_ | refine g_seq ?_ | refine g_region ?_ | refine g_block ?_ | refine g_ret ?_ | refine g_return_n ?_ | refine g_exit ?_ | refine g_skip ?_)
  refine o_boxc a.val.cells rfl rfl fun p => ?_
  refine o_boxc b.val.cells rfl rfl fun q => ?_
  refine o_assign ?_
  refine g_endt ?_
  repeat (first | refine g_endt ?_ | refine g_end ?_ | refine g_then ?_ | refine g_in_normal ?_ | refine g_then_ret ?_ | refine g_in_ret ?_ | refine g_then_exit ?_ | refine g_in_exit rfl ?_ | refine g_in_exit_ne (by decide) ?_ | refine g_seq ?_ | refine g_region ?_ | refine g_block ?_ | refine g_ret ?_ | refine g_return_n ?_ | refine g_exit ?_ | refine g_skip ?_)
  refine o_field rfl ?_
  refine o_load1 (v := .int .i64 a.kind) rfl rfl ?_
  refine o_field rfl ?_
  refine o_load1 (v := .int .i64 b.kind) rfl rfl ?_
  refine o_neq rfl rfl ?_
  refine g_endt ?_
  by_cases h1 : a.kind = b.kind
  · first | refine g_seq (g_cond_f rfl (by simp [h1]) ?_) | refine g_cond_f rfl (by simp [h1]) ?_
    have z1 : cmpI a.kind b.kind = 0 := by rw [h1]; exact linI.refl _
    repeat (first | refine g_endt ?_ | refine g_end ?_ | refine g_then ?_ | refine g_in_normal ?_ | refine g_then_ret ?_ | refine g_in_ret ?_ | refine g_then_exit ?_ | refine g_in_exit rfl ?_ | refine g_in_exit_ne (by decide) ?_ | refine g_seq ?_ | refine g_region ?_ | refine g_block ?_ | refine g_ret ?_ | refine g_return_n ?_ | refine g_exit ?_ | refine g_skip ?_)
    refine o_field rfl ?_
    refine o_load1 (v := .string a.text) rfl rfl ?_
    refine o_field rfl ?_
    refine o_load1 (v := .string b.text) rfl rfl ?_
    refine o_sneq rfl rfl ?_
    refine g_endt ?_
    by_cases h2 : a.text = b.text
    · first | refine g_seq (g_cond_f rfl (by simp [h2]) ?_) | refine g_cond_f rfl (by simp [h2]) ?_
      have z2 : cmpS a.text b.text = 0 := by rw [h2]; exact linS.refl _
      repeat (first | refine g_endt ?_ | refine g_end ?_ | refine g_then ?_ | refine g_in_normal ?_ | refine g_then_ret ?_ | refine g_in_ret ?_ | refine g_then_exit ?_ | refine g_in_exit rfl ?_ | refine g_in_exit_ne (by decide) ?_ | refine g_seq ?_ | refine g_region ?_ | refine g_block ?_ | refine g_ret ?_ | refine g_return_n ?_ | refine g_exit ?_ | refine g_skip ?_)
      refine o_field rfl ?_
      refine o_load1 (v := .int .i64 a.n) rfl rfl ?_
      refine o_field rfl ?_
      refine o_load1 (v := .int .i64 b.n) rfl rfl ?_
      refine o_lss rfl rfl ?_
      refine o_assign ?_
      refine g_endt ?_
      repeat (first | refine g_endt ?_ | refine g_end ?_ | refine g_then ?_ | refine g_in_normal ?_ | refine g_then_ret ?_ | refine g_in_ret ?_ | refine g_then_exit ?_ | refine g_in_exit rfl ?_ | refine g_in_exit_ne (by decide) ?_ | refine g_seq ?_ | refine g_region ?_ | refine g_block ?_ | refine g_ret ?_ | refine g_return_n ?_ | refine g_exit ?_ | refine g_skip ?_)
      exact ret1 rfl (resT (v := .bool (decide (a.n < b.n))) rfl) ⟨by rw [show a.cmp b = cmpI a.n b.n by simp [SymD.cmp, lex, z1, z2]]; simp only [cmpI_lt], rfl⟩
    · first | refine g_seq (g_cond_t rfl (by simpa [toList_inj] using h2) ?_) | refine g_cond_t rfl (by simpa [toList_inj] using h2) ?_
      have z2 : cmpS a.text b.text ≠ 0 := fun e => h2 (cmpS_zero e)
      repeat (first | refine g_endt ?_ | refine g_end ?_ | refine g_then ?_ | refine g_in_normal ?_ | refine g_then_ret ?_ | refine g_in_ret ?_ | refine g_then_exit ?_ | refine g_in_exit rfl ?_ | refine g_in_exit_ne (by decide) ?_ | refine g_seq ?_ | refine g_region ?_ | refine g_block ?_ | refine g_ret ?_ | refine g_return_n ?_ | refine g_exit ?_ | refine g_skip ?_)
      refine o_field rfl ?_
      refine o_load1 (v := .string a.text) rfl rfl ?_
      refine o_field rfl ?_
      refine o_load1 (v := .string b.text) rfl rfl ?_
      refine o_slss rfl rfl ?_
      refine o_assign ?_
      refine g_endt ?_
      repeat (first | refine g_endt ?_ | refine g_end ?_ | refine g_then ?_ | refine g_in_normal ?_ | refine g_then_ret ?_ | refine g_in_ret ?_ | refine g_then_exit ?_ | refine g_in_exit rfl ?_ | refine g_in_exit_ne (by decide) ?_ | refine g_seq ?_ | refine g_region ?_ | refine g_block ?_ | refine g_ret ?_ | refine g_return_n ?_ | refine g_exit ?_ | refine g_skip ?_)
      exact ret1 rfl (resT (v := .bool (Op.bytesLess a.text.toList b.text.toList)) rfl) ⟨by rw [show a.cmp b = cmpS a.text b.text by simp [SymD.cmp, lex, z1, z2]]; simp only [cmpS_lt, Bool.decide_eq_true], rfl⟩
  · first | refine g_seq (g_cond_t rfl (by simpa using h1) ?_) | refine g_cond_t rfl (by simpa using h1) ?_
    have z1 : cmpI a.kind b.kind ≠ 0 := fun e => h1 (cmpI_zero e)
    repeat (first | refine g_endt ?_ | refine g_end ?_ | refine g_then ?_ | refine g_in_normal ?_ | refine g_then_ret ?_ | refine g_in_ret ?_ | refine g_then_exit ?_ | refine g_in_exit rfl ?_ | refine g_in_exit_ne (by decide) ?_ | refine g_seq ?_ | refine g_region ?_ | refine g_block ?_ | refine g_ret ?_ | refine g_return_n ?_ | refine g_exit ?_ | refine g_skip ?_)
    refine o_field rfl ?_
    refine o_load1 (v := .int .i64 a.kind) rfl rfl ?_
    refine o_field rfl ?_
    refine o_load1 (v := .int .i64 b.kind) rfl rfl ?_
    refine o_lss rfl rfl ?_
    refine o_assign ?_
    refine g_endt ?_
    repeat (first | refine g_endt ?_ | refine g_end ?_ | refine g_then ?_ | refine g_in_normal ?_ | refine g_then_ret ?_ | refine g_in_ret ?_ | refine g_then_exit ?_ | refine g_in_exit rfl ?_ | refine g_in_exit_ne (by decide) ?_ | refine g_seq ?_ | refine g_region ?_ | refine g_block ?_ | refine g_ret ?_ | refine g_return_n ?_ | refine g_exit ?_ | refine g_skip ?_)
    exact ret1 rfl (resT (v := .bool (decide (a.kind < b.kind))) rfl) ⟨by rw [show a.cmp b = cmpI a.kind b.kind by simp [SymD.cmp, lex, z1]]; simp only [cmpI_lt], rfl⟩
end Go.Proofs.Ytdpbjoldgiikkaa
/- The references' comparisons of elements: one with, ahead of; found; put; sorted. -/
namespace Go.Proofs.Ytdpbjoldgiikkaa
open Go Go.Sl
attribute [local irreducible] Code.wpIn roundPost bodyPostM runL Ret Meets Begin

theorem beq_cmp (a b : SymD) : a.beq b = decide (a.cmp b = 0) := by
  cases h : a.beq b with
  | true => rw [(SymD.beq_iff a b).1 h]; simp [SymD.cmp_self]
  | false =>
    symm
    rw [decide_eq_false_iff_not]
    intro e
    rw [SymD.cmp_zero e] at h
    rw [(SymD.beq_iff b b).2 rfl] at h; cases h
theorem One_spec (a b : ElemD) : Ctr Try.prog 52 [a.val, b.val] [] (fun v M => v = .bool (decide (a.cmp b = 0)) ∧ M = []) := by
  refine spec_of Try.func52 rfl Try.ntmps52 rfl fun w0 F => ?_
  -- ponder/ponderref10.One
  repeat (first | refine g_endt ?_ | refine g_end ?_ | refine g_then ?_ | refine g_in_normal ?_ | refine g_then_ret ?_ | refine g_in_ret ?_ | refine g_then_exit ?_ | refine g_in_exit rfl ?_ | refine g_in_exit_ne (by decide) ?_ | refine g_seq ?_ | refine g_region ?_ | refine g_block ?_ | refine g_ret ?_ | refine g_return_n ?_ | refine g_exit ?_ | refine g_skip ?_)
  refine o_boxc a.val.cells rfl rfl fun p => ?_
  refine o_boxc b.val.cells rfl rfl fun q => ?_
  refine o_assign ?_
  first | refine g_endt ?_ | refine g_end ?_
  repeat (first | refine g_endt ?_ | refine g_end ?_ | refine g_then ?_ | refine g_in_normal ?_ | refine g_then_ret ?_ | refine g_in_ret ?_ | refine g_then_exit ?_ | refine g_in_exit rfl ?_ | refine g_in_exit_ne (by decide) ?_ | refine g_seq ?_ | refine g_region ?_ | refine g_block ?_ | refine g_ret ?_ | refine g_return_n ?_ | refine g_exit ?_ | refine g_skip ?_)
  first | refine o_field rfl ?_ | refine o_fieldR rfl (by omega) ?_
  refine o_loadN (v := a.id.val) rfl rfl rfl ?_
  first | refine o_field rfl ?_ | refine o_fieldR rfl (by omega) ?_
  refine o_loadN (v := b.id.val) rfl rfl rfl ?_
  refine o_eqty rfl rfl (eq_sym a.id b.id) ?_
  by_cases h1 : a.id = b.id
  · rw [show a.id.beq b.id = true from (SymD.beq_iff _ _).2 h1]
    refine o_move ?_
    first | (refine o_want rfl rfl rfl rfl rfl ?_; (first | refine o_field rfl ?_ | refine o_fieldR rfl (by omega) ?_)) | refine o_unwanted rfl rfl rfl rfl rfl ?_ | refine o_undef rfl rfl rfl ?_
    refine o_want rfl rfl rfl rfl rfl (o_loadN (v := a.attr.val) rfl rfl rfl ?_)
    first | (refine o_want rfl rfl rfl rfl rfl ?_; (first | refine o_field rfl ?_ | refine o_fieldR rfl (by omega) ?_)) | refine o_unwanted rfl rfl rfl rfl rfl ?_ | refine o_undef rfl rfl rfl ?_
    refine o_want rfl rfl rfl rfl rfl (o_loadN (v := b.attr.val) rfl rfl rfl ?_)
    refine o_want rfl rfl rfl rfl rfl (o_eqty rfl rfl (eq_sym a.attr b.attr) ?_)
    by_cases h2 : a.attr = b.attr
    · rw [show a.attr.beq b.attr = true from (SymD.beq_iff _ _).2 h2]
      first | refine o_pick_t rfl rfl ?_ | refine o_pick_f rfl rfl ?_
      refine o_move ?_
      first | (refine o_want rfl rfl rfl rfl rfl ?_; (first | refine o_field rfl ?_ | refine o_fieldR rfl (by omega) ?_)) | refine o_unwanted rfl rfl rfl rfl rfl ?_ | refine o_undef rfl rfl rfl ?_
      refine o_want rfl rfl rfl rfl rfl (o_loadN (v := a.value.val) rfl rfl rfl ?_)
      first | (refine o_want rfl rfl rfl rfl rfl ?_; (first | refine o_field rfl ?_ | refine o_fieldR rfl (by omega) ?_)) | refine o_unwanted rfl rfl rfl rfl rfl ?_ | refine o_undef rfl rfl rfl ?_
      refine o_want rfl rfl rfl rfl rfl (o_loadN (v := b.value.val) rfl rfl rfl ?_)
      refine o_want rfl rfl rfl rfl rfl (o_eqty rfl rfl (eq_sym a.value b.value) ?_)
      by_cases h3 : a.value = b.value
      · rw [show a.value.beq b.value = true from (SymD.beq_iff _ _).2 h3]
        first | refine o_pick_t rfl rfl ?_ | refine o_pick_f rfl rfl ?_
        refine o_move ?_
        first | (refine o_want rfl rfl rfl rfl rfl ?_; (first | refine o_field rfl ?_ | refine o_fieldR rfl (by omega) ?_)) | refine o_unwanted rfl rfl rfl rfl rfl ?_ | refine o_undef rfl rfl rfl ?_
        refine o_want rfl rfl rfl rfl rfl (o_load1 (v := .bool a.acc) rfl rfl ?_)
        first | (refine o_want rfl rfl rfl rfl rfl ?_; (first | refine o_field rfl ?_ | refine o_fieldR rfl (by omega) ?_)) | refine o_unwanted rfl rfl rfl rfl rfl ?_ | refine o_undef rfl rfl rfl ?_
        refine o_want rfl rfl rfl rfl rfl (o_load1 (v := .bool b.acc) rfl rfl ?_)
        refine o_want rfl rfl rfl rfl rfl (o_eqty rfl rfl (eq_bool a.acc b.acc) ?_)
        first | refine o_pick_t rfl rfl ?_ | refine o_pick_f rfl rfl ?_
        refine o_assign ?_
        first | refine g_endt ?_ | refine g_end ?_
        repeat (first | refine g_endt ?_ | refine g_end ?_ | refine g_then ?_ | refine g_in_normal ?_ | refine g_then_ret ?_ | refine g_in_ret ?_ | refine g_then_exit ?_ | refine g_in_exit rfl ?_ | refine g_in_exit_ne (by decide) ?_ | refine g_seq ?_ | refine g_region ?_ | refine g_block ?_ | refine g_ret ?_ | refine g_return_n ?_ | refine g_exit ?_ | refine g_skip ?_)
        exact ret1 rfl (resT (v := .bool (a.acc == b.acc)) rfl) ⟨by simp only [ElemD.cmp_iff, h1, h2, h3, true_and]; cases a.acc <;> cases b.acc <;> rfl, rfl⟩
      · rw [show a.value.beq b.value = false from Bool.eq_false_iff.2 fun e => h3 ((SymD.beq_iff _ _).1 e)]
        first | refine o_pick_t rfl rfl ?_ | refine o_pick_f rfl rfl ?_
        refine o_move ?_
        first | (refine o_want rfl rfl rfl rfl rfl ?_; (first | refine o_field rfl ?_ | refine o_fieldR rfl (by omega) ?_)) | refine o_unwanted rfl rfl rfl rfl rfl ?_ | refine o_undef rfl rfl rfl ?_
        first | (refine o_want rfl rfl rfl rfl rfl ?_; (first | refine o_load1 rfl rfl ?_ | refine o_loadE0 rfl (by assumption) rfl ?_ | refine o_loadE1 rfl (by assumption) rfl ?_)) | refine o_unwanted rfl rfl rfl rfl rfl ?_ | refine o_undef rfl rfl rfl ?_
        first | (refine o_want rfl rfl rfl rfl rfl ?_; (first | refine o_field rfl ?_ | refine o_fieldR rfl (by omega) ?_)) | refine o_unwanted rfl rfl rfl rfl rfl ?_ | refine o_undef rfl rfl rfl ?_
        first | (refine o_want rfl rfl rfl rfl rfl ?_; (first | refine o_load1 rfl rfl ?_ | refine o_loadE0 rfl (by assumption) rfl ?_ | refine o_loadE1 rfl (by assumption) rfl ?_)) | refine o_unwanted rfl rfl rfl rfl rfl ?_ | refine o_undef rfl rfl rfl ?_
        first | refine o_unwanted rfl rfl rfl rfl rfl ?_ | refine o_undef rfl rfl rfl ?_
        first | refine o_pick_t rfl rfl ?_ | refine o_pick_f rfl rfl ?_
        refine o_assign ?_
        first | refine g_endt ?_ | refine g_end ?_
        repeat (first | refine g_endt ?_ | refine g_end ?_ | refine g_then ?_ | refine g_in_normal ?_ | refine g_then_ret ?_ | refine g_in_ret ?_ | refine g_then_exit ?_ | refine g_in_exit rfl ?_ | refine g_in_exit_ne (by decide) ?_ | refine g_seq ?_ | refine g_region ?_ | refine g_block ?_ | refine g_ret ?_ | refine g_return_n ?_ | refine g_exit ?_ | refine g_skip ?_)
        exact ret1 rfl (resT (v := .bool false) rfl) ⟨by simp [ElemD.cmp_iff, h3], rfl⟩
    · rw [show a.attr.beq b.attr = false from Bool.eq_false_iff.2 fun e => h2 ((SymD.beq_iff _ _).1 e)]
      first | refine o_pick_t rfl rfl ?_ | refine o_pick_f rfl rfl ?_
      refine o_move ?_
      first | (refine o_want rfl rfl rfl rfl rfl ?_; (first | refine o_field rfl ?_ | refine o_fieldR rfl (by omega) ?_)) | refine o_unwanted rfl rfl rfl rfl rfl ?_ | refine o_undef rfl rfl rfl ?_
      first | (refine o_want rfl rfl rfl rfl rfl ?_; (first | refine o_loadN rfl rfl rfl ?_ | refine o_loadE rfl rfl (by assumption) ?_ | refine o_loadEN rfl (by assumption) rfl rfl ?_)) | refine o_unwanted rfl rfl rfl rfl rfl ?_ | refine o_undef rfl rfl rfl ?_
      first | (refine o_want rfl rfl rfl rfl rfl ?_; (first | refine o_field rfl ?_ | refine o_fieldR rfl (by omega) ?_)) | refine o_unwanted rfl rfl rfl rfl rfl ?_ | refine o_undef rfl rfl rfl ?_
      first | (refine o_want rfl rfl rfl rfl rfl ?_; (first | refine o_loadN rfl rfl rfl ?_ | refine o_loadE rfl rfl (by assumption) ?_ | refine o_loadEN rfl (by assumption) rfl rfl ?_)) | refine o_unwanted rfl rfl rfl rfl rfl ?_ | refine o_undef rfl rfl rfl ?_
      first | refine o_unwanted rfl rfl rfl rfl rfl ?_ | refine o_undef rfl rfl rfl ?_
      first | refine o_pick_t rfl rfl ?_ | refine o_pick_f rfl rfl ?_
      refine o_move ?_
      first | (refine o_want rfl rfl rfl rfl rfl ?_; (first | refine o_field rfl ?_ | refine o_fieldR rfl (by omega) ?_)) | refine o_unwanted rfl rfl rfl rfl rfl ?_ | refine o_undef rfl rfl rfl ?_
      first | (refine o_want rfl rfl rfl rfl rfl ?_; (first | refine o_load1 rfl rfl ?_ | refine o_loadE0 rfl (by assumption) rfl ?_ | refine o_loadE1 rfl (by assumption) rfl ?_)) | refine o_unwanted rfl rfl rfl rfl rfl ?_ | refine o_undef rfl rfl rfl ?_
      first | (refine o_want rfl rfl rfl rfl rfl ?_; (first | refine o_field rfl ?_ | refine o_fieldR rfl (by omega) ?_)) | refine o_unwanted rfl rfl rfl rfl rfl ?_ | refine o_undef rfl rfl rfl ?_
      first | (refine o_want rfl rfl rfl rfl rfl ?_; (first | refine o_load1 rfl rfl ?_ | refine o_loadE0 rfl (by assumption) rfl ?_ | refine o_loadE1 rfl (by assumption) rfl ?_)) | refine o_unwanted rfl rfl rfl rfl rfl ?_ | refine o_undef rfl rfl rfl ?_
      first | refine o_unwanted rfl rfl rfl rfl rfl ?_ | refine o_undef rfl rfl rfl ?_
      first | refine o_pick_t rfl rfl ?_ | refine o_pick_f rfl rfl ?_
      refine o_assign ?_
      first | refine g_endt ?_ | refine g_end ?_
      repeat (first | refine g_endt ?_ | refine g_end ?_ | refine g_then ?_ | refine g_in_normal ?_ | refine g_then_ret ?_ | refine g_in_ret ?_ | refine g_then_exit ?_ | refine g_in_exit rfl ?_ | refine g_in_exit_ne (by decide) ?_ | refine g_seq ?_ | refine g_region ?_ | refine g_block ?_ | refine g_ret ?_ | refine g_return_n ?_ | refine g_exit ?_ | refine g_skip ?_)
      exact ret1 rfl (resT (v := .bool false) rfl) ⟨by simp [ElemD.cmp_iff, h2], rfl⟩
  · rw [show a.id.beq b.id = false from Bool.eq_false_iff.2 fun e => h1 ((SymD.beq_iff _ _).1 e)]
    refine o_move ?_
    first | (refine o_want rfl rfl rfl rfl rfl ?_; (first | refine o_field rfl ?_ | refine o_fieldR rfl (by omega) ?_)) | refine o_unwanted rfl rfl rfl rfl rfl ?_ | refine o_undef rfl rfl rfl ?_
    first | (refine o_want rfl rfl rfl rfl rfl ?_; (first | refine o_loadN rfl rfl rfl ?_ | refine o_loadE rfl rfl (by assumption) ?_ | refine o_loadEN rfl (by assumption) rfl rfl ?_)) | refine o_unwanted rfl rfl rfl rfl rfl ?_ | refine o_undef rfl rfl rfl ?_
    first | (refine o_want rfl rfl rfl rfl rfl ?_; (first | refine o_field rfl ?_ | refine o_fieldR rfl (by omega) ?_)) | refine o_unwanted rfl rfl rfl rfl rfl ?_ | refine o_undef rfl rfl rfl ?_
    first | (refine o_want rfl rfl rfl rfl rfl ?_; (first | refine o_loadN rfl rfl rfl ?_ | refine o_loadE rfl rfl (by assumption) ?_ | refine o_loadEN rfl (by assumption) rfl rfl ?_)) | refine o_unwanted rfl rfl rfl rfl rfl ?_ | refine o_undef rfl rfl rfl ?_
    first | refine o_unwanted rfl rfl rfl rfl rfl ?_ | refine o_undef rfl rfl rfl ?_
    first | refine o_pick_t rfl rfl ?_ | refine o_pick_f rfl rfl ?_
    refine o_move ?_
    first | (refine o_want rfl rfl rfl rfl rfl ?_; (first | refine o_field rfl ?_ | refine o_fieldR rfl (by omega) ?_)) | refine o_unwanted rfl rfl rfl rfl rfl ?_ | refine o_undef rfl rfl rfl ?_
    first | (refine o_want rfl rfl rfl rfl rfl ?_; (first | refine o_loadN rfl rfl rfl ?_ | refine o_loadE rfl rfl (by assumption) ?_ | refine o_loadEN rfl (by assumption) rfl rfl ?_)) | refine o_unwanted rfl rfl rfl rfl rfl ?_ | refine o_undef rfl rfl rfl ?_
    first | (refine o_want rfl rfl rfl rfl rfl ?_; (first | refine o_field rfl ?_ | refine o_fieldR rfl (by omega) ?_)) | refine o_unwanted rfl rfl rfl rfl rfl ?_ | refine o_undef rfl rfl rfl ?_
    first | (refine o_want rfl rfl rfl rfl rfl ?_; (first | refine o_loadN rfl rfl rfl ?_ | refine o_loadE rfl rfl (by assumption) ?_ | refine o_loadEN rfl (by assumption) rfl rfl ?_)) | refine o_unwanted rfl rfl rfl rfl rfl ?_ | refine o_undef rfl rfl rfl ?_
    first | refine o_unwanted rfl rfl rfl rfl rfl ?_ | refine o_undef rfl rfl rfl ?_
    first | refine o_pick_t rfl rfl ?_ | refine o_pick_f rfl rfl ?_
    refine o_move ?_
    first | (refine o_want rfl rfl rfl rfl rfl ?_; (first | refine o_field rfl ?_ | refine o_fieldR rfl (by omega) ?_)) | refine o_unwanted rfl rfl rfl rfl rfl ?_ | refine o_undef rfl rfl rfl ?_
    first | (refine o_want rfl rfl rfl rfl rfl ?_; (first | refine o_load1 rfl rfl ?_ | refine o_loadE0 rfl (by assumption) rfl ?_ | refine o_loadE1 rfl (by assumption) rfl ?_)) | refine o_unwanted rfl rfl rfl rfl rfl ?_ | refine o_undef rfl rfl rfl ?_
    first | (refine o_want rfl rfl rfl rfl rfl ?_; (first | refine o_field rfl ?_ | refine o_fieldR rfl (by omega) ?_)) | refine o_unwanted rfl rfl rfl rfl rfl ?_ | refine o_undef rfl rfl rfl ?_
    first | (refine o_want rfl rfl rfl rfl rfl ?_; (first | refine o_load1 rfl rfl ?_ | refine o_loadE0 rfl (by assumption) rfl ?_ | refine o_loadE1 rfl (by assumption) rfl ?_)) | refine o_unwanted rfl rfl rfl rfl rfl ?_ | refine o_undef rfl rfl rfl ?_
    first | refine o_unwanted rfl rfl rfl rfl rfl ?_ | refine o_undef rfl rfl rfl ?_
    first | refine o_pick_t rfl rfl ?_ | refine o_pick_f rfl rfl ?_
    refine o_assign ?_
    first | refine g_endt ?_ | refine g_end ?_
    repeat (first | refine g_endt ?_ | refine g_end ?_ | refine g_then ?_ | refine g_in_normal ?_ | refine g_then_ret ?_ | refine g_in_ret ?_ | refine g_then_exit ?_ | refine g_in_exit rfl ?_ | refine g_in_exit_ne (by decide) ?_ | refine g_seq ?_ | refine g_region ?_ | refine g_block ?_ | refine g_ret ?_ | refine g_return_n ?_ | refine g_exit ?_ | refine g_skip ?_)
    exact ret1 rfl (resT (v := .bool false) rfl) ⟨by simp [ElemD.cmp_iff, h1], rfl⟩
theorem BeforeE_spec (a b : ElemD) : Ctr Try.prog 26 [a.val, b.val] [] (fun v M => v = .bool (decide (a.cmp b < 0)) ∧ M = []) := by
  refine spec_of Try.func26 rfl Try.ntmps26 rfl fun w0 F => ?_
  -- ponder/ponderref10.Before
  repeat (first | refine g_endt ?_ | refine g_end ?_ | refine g_then ?_ | refine g_in_normal ?_ | refine g_then_ret ?_ | refine g_in_ret ?_ | refine g_then_exit ?_ | refine g_in_exit rfl ?_ | refine g_in_exit_ne (by decide) ?_ | refine g_seq ?_ | refine g_region ?_ | refine g_block ?_ | refine g_ret ?_ | refine g_return_n ?_ | refine g_exit ?_ | refine g_skip ?_)
  refine o_boxc a.val.cells rfl rfl fun p => ?_
  refine o_boxc b.val.cells rfl rfl fun q => ?_
  refine o_assign ?_
  first | refine g_endt ?_ | refine g_end ?_
  repeat (first | refine g_endt ?_ | refine g_end ?_ | refine g_then ?_ | refine g_in_normal ?_ | refine g_then_ret ?_ | refine g_in_ret ?_ | refine g_then_exit ?_ | refine g_in_exit rfl ?_ | refine g_in_exit_ne (by decide) ?_ | refine g_seq ?_ | refine g_region ?_ | refine g_block ?_ | refine g_ret ?_ | refine g_return_n ?_ | refine g_exit ?_ | refine g_skip ?_)
  first | refine o_field rfl ?_ | refine o_fieldR rfl (by omega) ?_
  refine o_loadN (v := a.id.val) rfl rfl rfl ?_
  first | refine o_field rfl ?_ | refine o_fieldR rfl (by omega) ?_
  refine o_loadN (v := b.id.val) rfl rfl rfl ?_
  refine o_neqty rfl rfl (eq_sym a.id b.id) ?_
  first | refine g_endt ?_ | refine g_end ?_
  by_cases h1 : a.id.cmp b.id = 0
  · first | refine g_seq (g_cond_f rfl (by simp [beq_cmp, h1]) ?_) | refine g_cond_f rfl (by simp [beq_cmp, h1]) ?_
    repeat (first | refine g_endt ?_ | refine g_end ?_ | refine g_then ?_ | refine g_in_normal ?_ | refine g_then_ret ?_ | refine g_in_ret ?_ | refine g_then_exit ?_ | refine g_in_exit rfl ?_ | refine g_in_exit_ne (by decide) ?_ | refine g_seq ?_ | refine g_region ?_ | refine g_block ?_ | refine g_ret ?_ | refine g_return_n ?_ | refine g_exit ?_ | refine g_skip ?_)
    first | refine o_field rfl ?_ | refine o_fieldR rfl (by omega) ?_
    refine o_loadN (v := a.attr.val) rfl rfl rfl ?_
    first | refine o_field rfl ?_ | refine o_fieldR rfl (by omega) ?_
    refine o_loadN (v := b.attr.val) rfl rfl rfl ?_
    refine o_neqty rfl rfl (eq_sym a.attr b.attr) ?_
    first | refine g_endt ?_ | refine g_end ?_
    by_cases h2 : a.attr.cmp b.attr = 0
    · first | refine g_seq (g_cond_f rfl (by simp [beq_cmp, h2]) ?_) | refine g_cond_f rfl (by simp [beq_cmp, h2]) ?_
      repeat (first | refine g_endt ?_ | refine g_end ?_ | refine g_then ?_ | refine g_in_normal ?_ | refine g_then_ret ?_ | refine g_in_ret ?_ | refine g_then_exit ?_ | refine g_in_exit rfl ?_ | refine g_in_exit_ne (by decide) ?_ | refine g_seq ?_ | refine g_region ?_ | refine g_block ?_ | refine g_ret ?_ | refine g_return_n ?_ | refine g_exit ?_ | refine g_skip ?_)
      first | refine o_field rfl ?_ | refine o_fieldR rfl (by omega) ?_
      refine o_loadN (v := a.value.val) rfl rfl rfl ?_
      first | refine o_field rfl ?_ | refine o_fieldR rfl (by omega) ?_
      refine o_loadN (v := b.value.val) rfl rfl rfl ?_
      refine o_neqty rfl rfl (eq_sym a.value b.value) ?_
      first | refine g_endt ?_ | refine g_end ?_
      by_cases h3 : a.value.cmp b.value = 0
      · first | refine g_seq (g_cond_f rfl (by simp [beq_cmp, h3]) ?_) | refine g_cond_f rfl (by simp [beq_cmp, h3]) ?_
        repeat (first | refine g_endt ?_ | refine g_end ?_ | refine g_then ?_ | refine g_in_normal ?_ | refine g_then_ret ?_ | refine g_in_ret ?_ | refine g_then_exit ?_ | refine g_in_exit rfl ?_ | refine g_in_exit_ne (by decide) ?_ | refine g_seq ?_ | refine g_region ?_ | refine g_block ?_ | refine g_ret ?_ | refine g_return_n ?_ | refine g_exit ?_ | refine g_skip ?_)
        first | refine o_field rfl ?_ | refine o_fieldR rfl (by omega) ?_
        refine o_load1 (v := .bool a.acc) rfl rfl ?_
        cases ha : a.acc with
        | true =>
          refine o_not rfl ?_
          refine o_move ?_
          first | (refine o_want rfl rfl rfl rfl rfl ?_; (first | refine o_field rfl ?_ | refine o_fieldR rfl (by omega) ?_)) | refine o_unwanted rfl rfl rfl rfl rfl ?_ | refine o_undef rfl rfl rfl ?_
          first | (refine o_want rfl rfl rfl rfl rfl ?_; (first | refine o_load1 rfl rfl ?_ | refine o_loadE0 rfl (by assumption) rfl ?_ | refine o_loadE1 rfl (by assumption) rfl ?_)) | refine o_unwanted rfl rfl rfl rfl rfl ?_ | refine o_undef rfl rfl rfl ?_
          first | refine o_pick_t rfl rfl ?_ | refine o_pick_f rfl rfl ?_
          refine o_assign ?_
          first | refine g_endt ?_ | refine g_end ?_
          repeat (first | refine g_endt ?_ | refine g_end ?_ | refine g_then ?_ | refine g_in_normal ?_ | refine g_then_ret ?_ | refine g_in_ret ?_ | refine g_then_exit ?_ | refine g_in_exit rfl ?_ | refine g_in_exit_ne (by decide) ?_ | refine g_seq ?_ | refine g_region ?_ | refine g_block ?_ | refine g_ret ?_ | refine g_return_n ?_ | refine g_exit ?_ | refine g_skip ?_)
          exact ret1 rfl (resT (v := .bool false) rfl) ⟨by simp [ElemD.cmp, lex, h1, h2, h3, cmpB, ha]; cases b.acc <;> decide, rfl⟩
        | false =>
          refine o_not rfl ?_
          refine o_move ?_
          first | (refine o_want rfl rfl rfl rfl rfl ?_; (first | refine o_field rfl ?_ | refine o_fieldR rfl (by omega) ?_)) | refine o_unwanted rfl rfl rfl rfl rfl ?_ | refine o_undef rfl rfl rfl ?_
          refine o_want rfl rfl rfl rfl rfl (o_load1 (v := .bool b.acc) rfl rfl ?_)
          first | refine o_pick_t rfl rfl ?_ | refine o_pick_f rfl rfl ?_
          refine o_assign ?_
          first | refine g_endt ?_ | refine g_end ?_
          repeat (first | refine g_endt ?_ | refine g_end ?_ | refine g_then ?_ | refine g_in_normal ?_ | refine g_then_ret ?_ | refine g_in_ret ?_ | refine g_then_exit ?_ | refine g_in_exit rfl ?_ | refine g_in_exit_ne (by decide) ?_ | refine g_seq ?_ | refine g_region ?_ | refine g_block ?_ | refine g_ret ?_ | refine g_return_n ?_ | refine g_exit ?_ | refine g_skip ?_)
          exact ret1 rfl (resT (v := .bool b.acc) rfl) ⟨by simp [ElemD.cmp, lex, h1, h2, h3, cmpB, ha]; cases b.acc <;> decide, rfl⟩
      · first | refine g_seq (g_cond_t rfl (by simp [beq_cmp, h3]) ?_) | refine g_cond_t rfl (by simp [beq_cmp, h3]) ?_
        repeat (first | refine g_endt ?_ | refine g_end ?_ | refine g_then ?_ | refine g_in_normal ?_ | refine g_then_ret ?_ | refine g_in_ret ?_ | refine g_then_exit ?_ | refine g_in_exit rfl ?_ | refine g_in_exit_ne (by decide) ?_ | refine g_seq ?_ | refine g_region ?_ | refine g_block ?_ | refine g_ret ?_ | refine g_return_n ?_ | refine g_exit ?_ | refine g_skip ?_)
        first | refine o_field rfl ?_ | refine o_fieldR rfl (by omega) ?_
        refine o_loadN (v := a.value.val) rfl rfl rfl ?_
        first | refine o_field rfl ?_ | refine o_fieldR rfl (by omega) ?_
        refine o_loadN (v := b.value.val) rfl rfl rfl ?_
        refine o_call (Before_spec a.value b.value) rfl rfl ?_
        rintro _ _ ⟨rfl, rfl⟩
        refine o_assign ?_
        first | refine g_endt ?_ | refine g_end ?_
        repeat (first | refine g_endt ?_ | refine g_end ?_ | refine g_then ?_ | refine g_in_normal ?_ | refine g_then_ret ?_ | refine g_in_ret ?_ | refine g_then_exit ?_ | refine g_in_exit rfl ?_ | refine g_in_exit_ne (by decide) ?_ | refine g_seq ?_ | refine g_region ?_ | refine g_block ?_ | refine g_ret ?_ | refine g_return_n ?_ | refine g_exit ?_ | refine g_skip ?_)
        exact ret1 rfl (resT (v := .bool (decide (a.value.cmp b.value < 0))) rfl) ⟨by simp [ElemD.cmp, lex, h1, h2, h3], rfl⟩
    · first | refine g_seq (g_cond_t rfl (by simp [beq_cmp, h2]) ?_) | refine g_cond_t rfl (by simp [beq_cmp, h2]) ?_
      repeat (first | refine g_endt ?_ | refine g_end ?_ | refine g_then ?_ | refine g_in_normal ?_ | refine g_then_ret ?_ | refine g_in_ret ?_ | refine g_then_exit ?_ | refine g_in_exit rfl ?_ | refine g_in_exit_ne (by decide) ?_ | refine g_seq ?_ | refine g_region ?_ | refine g_block ?_ | refine g_ret ?_ | refine g_return_n ?_ | refine g_exit ?_ | refine g_skip ?_)
      first | refine o_field rfl ?_ | refine o_fieldR rfl (by omega) ?_
      refine o_loadN (v := a.attr.val) rfl rfl rfl ?_
      first | refine o_field rfl ?_ | refine o_fieldR rfl (by omega) ?_
      refine o_loadN (v := b.attr.val) rfl rfl rfl ?_
      refine o_call (Before_spec a.attr b.attr) rfl rfl ?_
      rintro _ _ ⟨rfl, rfl⟩
      refine o_assign ?_
      first | refine g_endt ?_ | refine g_end ?_
      repeat (first | refine g_endt ?_ | refine g_end ?_ | refine g_then ?_ | refine g_in_normal ?_ | refine g_then_ret ?_ | refine g_in_ret ?_ | refine g_then_exit ?_ | refine g_in_exit rfl ?_ | refine g_in_exit_ne (by decide) ?_ | refine g_seq ?_ | refine g_region ?_ | refine g_block ?_ | refine g_ret ?_ | refine g_return_n ?_ | refine g_exit ?_ | refine g_skip ?_)
      exact ret1 rfl (resT (v := .bool (decide (a.attr.cmp b.attr < 0))) rfl) ⟨by simp [ElemD.cmp, lex, h1, h2], rfl⟩
  · first | refine g_seq (g_cond_t rfl (by simp [beq_cmp, h1]) ?_) | refine g_cond_t rfl (by simp [beq_cmp, h1]) ?_
    repeat (first | refine g_endt ?_ | refine g_end ?_ | refine g_then ?_ | refine g_in_normal ?_ | refine g_then_ret ?_ | refine g_in_ret ?_ | refine g_then_exit ?_ | refine g_in_exit rfl ?_ | refine g_in_exit_ne (by decide) ?_ | refine g_seq ?_ | refine g_region ?_ | refine g_block ?_ | refine g_ret ?_ | refine g_return_n ?_ | refine g_exit ?_ | refine g_skip ?_)
    first | refine o_field rfl ?_ | refine o_fieldR rfl (by omega) ?_
    refine o_loadN (v := a.id.val) rfl rfl rfl ?_
    first | refine o_field rfl ?_ | refine o_fieldR rfl (by omega) ?_
    refine o_loadN (v := b.id.val) rfl rfl rfl ?_
    refine o_call (Before_spec a.id b.id) rfl rfl ?_
    rintro _ _ ⟨rfl, rfl⟩
    refine o_assign ?_
    first | refine g_endt ?_ | refine g_end ?_
    repeat (first | refine g_endt ?_ | refine g_end ?_ | refine g_then ?_ | refine g_in_normal ?_ | refine g_then_ret ?_ | refine g_in_ret ?_ | refine g_then_exit ?_ | refine g_in_exit rfl ?_ | refine g_in_exit_ne (by decide) ?_ | refine g_seq ?_ | refine g_region ?_ | refine g_block ?_ | refine g_ret ?_ | refine g_return_n ?_ | refine g_exit ?_ | refine g_skip ?_)
    exact ret1 rfl (resT (v := .bool (decide (a.id.cmp b.id < 0))) rfl) ⟨by simp [ElemD.cmp, lex, h1], rfl⟩
/-- The first that is one with e. -/
def findE (l : List ElemD) (e : ElemD) : Option ElemD := getM ElemD.cmp l e
theorem FindE_spec (A : Option Addr) (n c : Nat) (l : List ElemD) (e : ElemD) (hl : l.length = n) (hm : n ≤ 1000000) : Ctr Try.prog 27 [.slice A n c, e.val] [psl encE 12 A l]
    (fun v M => v = .tuple #[((findE l e).getD ElemD.zero).val, .bool (findE l e).isSome] ∧ M = []) := by
  refine spec_of Try.func27 rfl Try.ntmps27 rfl fun w0 F => ?_
  -- ponder/ponderref10.Find
  repeat (first | refine g_endt ?_ | refine g_end ?_ | refine g_then ?_ | refine g_in_normal ?_ | refine g_then_ret ?_ | refine g_in_ret ?_ | refine g_then_exit ?_ | refine g_in_exit rfl ?_ | refine g_in_exit_ne (by decide) ?_ | refine g_seq ?_ | refine g_region ?_ | refine g_block ?_ | refine g_ret ?_ | refine g_return_n ?_ | refine g_exit ?_ | refine g_skip ?_)
  refine o_boxc e.val.cells rfl rfl fun q => ?_
  refine o_alloc fun r => ?_
  refine o_assign ?_
  first | refine g_endt ?_ | refine g_end ?_
  refine G.norm r ElemD.zero.val.cells rfl ?_
  repeat (first | refine g_endt ?_ | refine g_end ?_ | refine g_then ?_ | refine g_in_normal ?_ | refine g_then_ret ?_ | refine g_in_ret ?_ | refine g_then_exit ?_ | refine g_in_exit rfl ?_ | refine g_in_exit_ne (by decide) ?_ | refine g_seq ?_ | refine g_region ?_ | refine g_block ?_ | refine g_ret ?_ | refine g_return_n ?_ | refine g_exit ?_ | refine g_skip ?_)
  refine o_assign ?_
  first | refine g_endt ?_ | refine g_end ?_
  repeat (first | refine g_endt ?_ | refine g_end ?_ | refine g_then ?_ | refine g_in_normal ?_ | refine g_then_ret ?_ | refine g_in_ret ?_ | refine g_then_exit ?_ | refine g_in_exit rfl ?_ | refine g_in_exit_ne (by decide) ?_ | refine g_seq ?_ | refine g_region ?_ | refine g_block ?_ | refine g_ret ?_ | refine g_return_n ?_ | refine g_exit ?_ | refine g_skip ?_)
  refine g_loop (σ := {i : Nat // i ≤ l.length ∧ ∀ (j : Nat) (y : ElemD), j < i → l[j]? = some y → y.cmp e ≠ 0}) (S := fun i => [(0, .slice A n c), (3, .pointer (some ⟨q, 0, none⟩)), (4, .pointer (some ⟨r, 0, none⟩)), (6, .int .i64 (i.1 : Int))])
    (H := fun i => [psl encE 12 A l, cellsB q e.val.cells 25, cellsB r ElemD.zero.val.cells 25]) (μ := fun i => l.length - i.1) (s0 := ⟨0, Nat.zero_le _, fun j y h => absurd h (Nat.not_lt_zero j)⟩) (Sat.mem ⟨rfl, rfl, rfl, rfl, trivial⟩) ?_
  rintro ⟨i, hi, hb⟩ ρ'
  dsimp only at hi hb ⊢
  repeat (first | refine g_endt ?_ | refine g_end ?_ | refine g_then ?_ | refine g_in_normal ?_ | refine g_then_ret ?_ | refine g_in_ret ?_ | refine g_then_exit ?_ | refine g_in_exit rfl ?_ | refine g_in_exit_ne (by decide) ?_ | refine g_seq ?_ | refine g_region ?_ | refine g_block ?_ | refine g_ret ?_ | refine g_return_n ?_ | refine g_exit ?_ | refine g_skip ?_)
  refine o_move ?_
  refine o_move ?_
  refine o_len rfl rfl ?_
  refine o_lss rfl rfl ?_
  first | refine g_endt ?_ | refine g_end ?_
  by_cases hlt : i < n
  · first | refine g_seq (g_cond_t rfl (by first | rfl | (simp; done) | (simp; omega) | (simp; assumption)) ?_) | refine g_cond_t rfl (by first | rfl | (simp; done) | (simp; omega) | (simp; assumption)) ?_
    obtain ⟨y, hy⟩ : ∃ y, l[i]? = some y := ⟨_, List.getElem?_eq_getElem (by omega)⟩
    have hil : i < l.length := by omega
    repeat (first | refine g_endt ?_ | refine g_end ?_ | refine g_then ?_ | refine g_in_normal ?_ | refine g_then_ret ?_ | refine g_in_ret ?_ | refine g_then_exit ?_ | refine g_in_exit rfl ?_ | refine g_in_exit_ne (by decide) ?_ | refine g_seq ?_ | refine g_region ?_ | refine g_block ?_ | refine g_ret ?_ | refine g_return_n ?_ | refine g_exit ?_ | refine g_skip ?_)
    refine g_draw [] [0,1,2,3,4,5] [psl encE 12 A l, cellsB q e.val.cells 25] mixed rfl ?_
    refine ob_q rfl rfl ⟨_, fun X Q h => o_move (g_end (h _ _ ⟨rfl, rfl⟩)), ?_⟩
    refine ob_q rfl rfl ⟨_, fun X Q h => o_move (g_end (h _ _ ⟨rfl, rfl⟩)), ?_⟩
    refine ob_q rfl rfl ⟨_, fun X Q h => o_indexR rfl rfl rfl (by first | assumption | omega) (by first | rfl | assumption | omega) rfl (g_end (h _ _ ⟨rfl, rfl⟩)), ?_⟩
    first | refine ob_q rfl rfl ⟨_, fun X Q h => o_loadN rfl rfl rfl (g_end (h _ _ ⟨rfl, rfl⟩)), ?_⟩ | refine ob_q rfl rfl ⟨_, fun X Q h => o_loadE rfl rfl (by assumption) (g_end (h _ _ ⟨rfl, rfl⟩)), ?_⟩ | refine ob_q rfl rfl ⟨_, fun X Q h => o_loadEN rfl (by assumption) rfl rfl (g_end (h _ _ ⟨rfl, rfl⟩)), ?_⟩
    refine ob_q rfl rfl ⟨_, fun X Q h => o_loadN (v := e.val) rfl rfl rfl (g_end (h _ _ ⟨rfl, rfl⟩)), ?_⟩
    refine ob_q rfl rfl ⟨_, fun X Q h => o_call (One_spec y e) rfl rfl <| by rintro _ _ ⟨rfl, rfl⟩; exact (g_end (h _ _ ⟨rfl, rfl⟩)), ?_⟩
    refine ob_nil ?_
    by_cases hz : y.cmp e = 0
    · first | refine g_seq (g_cond_t rfl (by simpa using hz) ?_) | refine g_cond_t rfl (by simpa using hz) ?_
      have hf : findE l e = some y := by
        unfold findE getM
        rw [List.find?_eq_some_iff_getElem]
        refine ⟨by simpa using hz, i, hil, ?_, fun j hj => ?_⟩
        · rw [List.getElem?_eq_getElem hil] at hy; exact Option.some.inj hy
        · simpa using hb j _ hj (List.getElem?_eq_getElem (by omega))
      rw [hf]
      repeat (first | refine g_endt ?_ | refine g_end ?_ | refine g_then ?_ | refine g_in_normal ?_ | refine g_then_ret ?_ | refine g_in_ret ?_ | refine g_then_exit ?_ | refine g_in_exit rfl ?_ | refine g_in_exit_ne (by decide) ?_ | refine g_seq ?_ | refine g_region ?_ | refine g_block ?_ | refine g_ret ?_ | refine g_return_n ?_ | refine g_exit ?_ | refine g_skip ?_)
      refine o_move ?_
      refine o_move ?_
      refine o_indexR rfl rfl rfl (by first | assumption | omega) (by first | rfl | assumption | omega) rfl ?_
      first | refine o_loadN rfl rfl rfl ?_ | refine o_loadE rfl rfl (by assumption) ?_ | refine o_loadEN rfl (by assumption) rfl rfl ?_
      refine o_store (v := y.val) rfl rfl rfl rfl rfl ?_
      refine o_assign ?_
      first | refine g_endt ?_ | refine g_end ?_
      refine G.norm r y.val.cells rfl ?_
      repeat (first | refine g_endt ?_ | refine g_end ?_ | refine g_then ?_ | refine g_in_normal ?_ | refine g_then_ret ?_ | refine g_in_ret ?_ | refine g_then_exit ?_ | refine g_in_exit rfl ?_ | refine g_in_exit_ne (by decide) ?_ | refine g_seq ?_ | refine g_region ?_ | refine g_block ?_ | refine g_ret ?_ | refine g_return_n ?_ | refine g_exit ?_ | refine g_skip ?_)
      exact ret2 (K := []) rfl (resCN (v := y.val) rfl rfl rfl) (resT (v := .bool true) rfl) ⟨rfl, rfl⟩
    · first | refine g_seq (g_cond_f rfl (by simpa using hz) ?_) | refine g_cond_f rfl (by simpa using hz) ?_
      repeat (first | refine g_endt ?_ | refine g_end ?_ | refine g_then ?_ | refine g_in_normal ?_ | refine g_then_ret ?_ | refine g_in_ret ?_ | refine g_then_exit ?_ | refine g_in_exit rfl ?_ | refine g_in_exit_ne (by decide) ?_ | refine g_seq ?_ | refine g_region ?_ | refine g_block ?_ | refine g_ret ?_ | refine g_return_n ?_ | refine g_exit ?_ | refine g_skip ?_)
      refine o_move ?_
      refine o_add (c := ((i + 1 : Nat) : Int)) rfl rfl (by omega) (by omega) (by omega) ?_
      refine o_assign ?_
      first | refine g_endt ?_ | refine g_end ?_
      repeat (first | refine g_endt ?_ | refine g_end ?_ | refine g_then ?_ | refine g_in_normal ?_ | refine g_then_ret ?_ | refine g_in_ret ?_ | refine g_then_exit ?_ | refine g_in_exit rfl ?_ | refine g_in_exit_ne (by decide) ?_ | refine g_seq ?_ | refine g_region ?_ | refine g_block ?_ | refine g_ret ?_ | refine g_return_n ?_ | refine g_exit ?_ | refine g_skip ?_)
      have hn : ∀ (j : Nat) (z : ElemD), j < i + 1 → l[j]? = some z → z.cmp e ≠ 0 := fun j z hj h => by
        by_cases e2 : j = i
        · subst e2; rw [hy] at h; cases h; exact hz
        · exact hb j z (by omega) h
      exact g_meets (⟨i + 1, hil, hn⟩) (by first | exact trivial | (dsimp only; omega)) (Sat.mem (by repeat (first | exact trivial | refine And.intro rfl ?_)))
  · first | refine g_seq (g_cond_f rfl (by simp; omega) ?_) | refine g_cond_f rfl (by simp; omega) ?_
    have hf : findE l e = none := by
      unfold findE getM
      rw [List.find?_eq_none]
      intro y hy
      obtain ⟨j, hj⟩ := List.mem_iff_getElem?.1 hy
      have := (List.getElem?_eq_some_iff.1 hj).1
      simpa using hb j y (by omega) hj
    rw [hf]
    repeat (first | refine g_endt ?_ | refine g_end ?_ | refine g_then ?_ | refine g_in_normal ?_ | refine g_then_ret ?_ | refine g_in_ret ?_ | refine g_then_exit ?_ | refine g_in_exit rfl ?_ | refine g_in_exit_ne (by decide) ?_ | refine g_seq ?_ | refine g_region ?_ | refine g_block ?_ | refine g_ret ?_ | refine g_return_n ?_ | refine g_exit ?_ | refine g_skip ?_)
    refine o_build (ElemD.zero.val) (fun w => by kernel_rfl) ?_
    refine o_store (v := ElemD.zero.val) rfl rfl rfl rfl rfl ?_
    refine o_assign ?_
    first | refine g_endt ?_ | refine g_end ?_
    refine G.norm r ElemD.zero.val.cells rfl ?_
    repeat (first | refine g_endt ?_ | refine g_end ?_ | refine g_then ?_ | refine g_in_normal ?_ | refine g_then_ret ?_ | refine g_in_ret ?_ | refine g_then_exit ?_ | refine g_in_exit rfl ?_ | refine g_in_exit_ne (by decide) ?_ | refine g_seq ?_ | refine g_region ?_ | refine g_block ?_ | refine g_ret ?_ | refine g_return_n ?_ | refine g_exit ?_ | refine g_skip ?_)
    exact ret2 (K := []) rfl (resCN (v := ElemD.zero.val) rfl rfl rfl) (resT (v := .bool false) rfl) ⟨rfl, rfl⟩
end Go.Proofs.Ytdpbjoldgiikkaa
/- The references' elements in order: put, sorted. -/
namespace Go.Proofs.Ytdpbjoldgiikkaa
open Go Go.Sl
attribute [local irreducible] Code.wpIn roundPost bodyPostM runL Ret Meets Begin

/-- Where an element would stand, looked for from behind. -/
def PosE (l : List ElemD) (e : ElemD) (i : Nat) : Prop := i ≤ l.length ∧ (∀ (j : Nat) (y : ElemD), i ≤ j → l[j]? = some y → 0 < y.cmp e) ∧ ∀ y, 0 < i → l[i - 1]? = some y → ¬ e.cmp y < 0
theorem PosE.find {l : List ElemD} {e : ElemD} {i : Nat} (hs : Srt ElemD.cmp l) (h : PosE l e i) : (∀ y, 0 < i → l[i - 1]? = some y → y.cmp e = 0 → FindR ElemD.cmp l e (i - 1) true) ∧ ((∀ y, 0 < i → l[i - 1]? = some y → y.cmp e ≠ 0) → FindR ElemD.cmp l e i false) := by
  obtain ⟨h1, h2, h3⟩ := h
  refine ⟨fun y h0 hy hz => ⟨by omega, fun _ => ⟨y, hy, hz⟩, fun e => by cases e⟩, fun hz => ⟨h1, fun e => (by cases e), fun _ => ⟨fun j y hj hy => ?_, h2⟩⟩⟩
  obtain ⟨z, hzz⟩ : ∃ z, l[i - 1]? = some z := ⟨_, List.getElem?_eq_getElem (by omega)⟩
  have h4 := h3 z (by omega) hzz
  have h5 := hz z (by omega) hzz
  have h6 := linElem.swap e z
  by_cases e2 : j = i - 1
  · subst e2; rw [hzz] at hy; cases hy; omega
  · exact linElem.trans y z e (hs j (i - 1) y z (by omega) hy hzz) (by omega)
theorem PutE_spec (K : Option Addr) (n c : Nat) (l : List ElemD) (e : ElemD) (hs : Srt ElemD.cmp l) (hl : l.length = n) (hc : n ≤ c) (hm : n ≤ 100000) : Ctr Try.prog 53 [.slice K n c, e.val] [psl encE 12 K l]
    (fun v M => ∃ T d, (insC ElemD.cmp l e).length ≤ d ∧ v = .slice T (insC ElemD.cmp l e).length d ∧ M = [psl encE 12 T (insC ElemD.cmp l e)]) := by
  refine spec_of Try.func53 rfl Try.ntmps53 rfl fun w0 F => ?_
  -- ponder/ponderref10.Put
  repeat (first | refine g_endt ?_ | refine g_end ?_ | refine g_then ?_ | refine g_in_normal ?_ | refine g_then_ret ?_ | refine g_in_ret ?_ | refine g_then_exit ?_ | refine g_in_exit rfl ?_ | refine g_in_exit_ne (by decide) ?_ | refine g_seq ?_ | refine g_region ?_ | refine g_block ?_ | refine g_ret ?_ | refine g_return_n ?_ | refine g_exit ?_ | refine g_skip ?_)
  refine o_boxc e.val.cells rfl rfl fun q => ?_
  refine o_assign ?_
  first | refine g_endt ?_ | refine g_end ?_
  repeat (first | refine g_endt ?_ | refine g_end ?_ | refine g_then ?_ | refine g_in_normal ?_ | refine g_then_ret ?_ | refine g_in_ret ?_ | refine g_then_exit ?_ | refine g_in_exit rfl ?_ | refine g_in_exit_ne (by decide) ?_ | refine g_seq ?_ | refine g_region ?_ | refine g_block ?_ | refine g_ret ?_ | refine g_return_n ?_ | refine g_exit ?_ | refine g_skip ?_)
  refine o_move ?_
  refine o_len rfl rfl ?_
  refine o_assign ?_
  first | refine g_endt ?_ | refine g_end ?_
  repeat (first | refine g_endt ?_ | refine g_end ?_ | refine g_then ?_ | refine g_in_normal ?_ | refine g_then_ret ?_ | refine g_in_ret ?_ | refine g_then_exit ?_ | refine g_in_exit rfl ?_ | refine g_in_exit_ne (by decide) ?_ | refine g_seq ?_ | refine g_region ?_ | refine g_block ?_ | refine g_ret ?_ | refine g_return_n ?_ | refine g_exit ?_ | refine g_skip ?_)
  refine g_cutb (σ := Nat) (ds' := []) (T := fun i => [(0, .slice K n c), (3, .pointer (some ⟨q, 0, none⟩)), (5, .int .i64 (i : Int))]) (H := fun _ => [psl encE 12 K l, cellsB q e.val.cells 25]) (ok := fun i => PosE l e i) ?_ ?_
  · refine g_loop (σ := {i : Nat // i ≤ n ∧ ∀ (j : Nat) (y : ElemD), i ≤ j → l[j]? = some y → 0 < y.cmp e}) (S := fun i => [(0, .slice K n c), (3, .pointer (some ⟨q, 0, none⟩)), (5, .int .i64 (i.1 : Int))])
      (H := fun _ => [psl encE 12 K l, cellsB q e.val.cells 25]) (μ := fun i => i.1) (s0 := ⟨n, Nat.le_refl _, fun j y h hy => by rw [List.getElem?_eq_none (by omega)] at hy; cases hy⟩) (Sat.mem ⟨rfl, rfl, rfl, trivial⟩) ?_
    rintro ⟨i, hi, hup⟩ ρ'
    dsimp only at hi hup ⊢
    by_cases h : 0 < i
    · have hil : i - 1 < l.length := by omega
      obtain ⟨y, hy⟩ : ∃ y, l[i - 1]? = some y := ⟨_, List.getElem?_eq_getElem hil⟩
      repeat (first | refine g_endt ?_ | refine g_end ?_ | refine g_then ?_ | refine g_in_normal ?_ | refine g_then_ret ?_ | refine g_in_ret ?_ | refine g_then_exit ?_ | refine g_in_exit rfl ?_ | refine g_in_exit_ne (by decide) ?_ | refine g_seq ?_ | refine g_region ?_ | refine g_block ?_ | refine g_ret ?_ | refine g_return_n ?_ | refine g_exit ?_ | refine g_skip ?_)
      refine g_draw [] [0,1,2,3,4,5,6,7,8,9,10] [psl encE 12 K l, cellsB q e.val.cells 25] mixed rfl ?_
      refine ob_q rfl rfl ⟨_, fun X Q h => o_move (g_end (h _ _ ⟨rfl, rfl⟩)), ?_⟩
      refine ob_q rfl rfl ⟨_, fun X Q h => o_gtr rfl rfl (g_end (h _ _ ⟨rfl, rfl⟩)), ?_⟩
      rw [show decide ((i : Int) > 0) = true from decide_eq_true (by omega)]
      refine ob_q rfl rfl ⟨_, fun X Q h => o_move (g_end (h _ _ ⟨rfl, rfl⟩)), ?_⟩
      refine ob_q rfl rfl ⟨_, fun X Q h => o_want rfl rfl rfl rfl rfl <| o_loadN (v := e.val) rfl rfl rfl (g_end (h _ _ ⟨rfl, rfl⟩)), ?_⟩
      first | refine ob_q rfl rfl ⟨_, fun X Q h => o_want rfl rfl rfl rfl rfl <| o_move (g_end (h _ _ ⟨rfl, rfl⟩)), ?_⟩ | refine ob_q rfl rfl ⟨_, fun X Q h => o_unwanted rfl rfl rfl rfl rfl (g_end (h _ _ ⟨rfl, rfl⟩)), ?_⟩ | refine ob_q rfl rfl ⟨_, fun X Q h => o_undef rfl rfl rfl (g_end (h _ _ ⟨rfl, rfl⟩)), ?_⟩
      first | refine ob_q rfl rfl ⟨_, fun X Q h => o_want rfl rfl rfl rfl rfl <| o_move (g_end (h _ _ ⟨rfl, rfl⟩)), ?_⟩ | refine ob_q rfl rfl ⟨_, fun X Q h => o_unwanted rfl rfl rfl rfl rfl (g_end (h _ _ ⟨rfl, rfl⟩)), ?_⟩ | refine ob_q rfl rfl ⟨_, fun X Q h => o_undef rfl rfl rfl (g_end (h _ _ ⟨rfl, rfl⟩)), ?_⟩
      refine ob_q rfl rfl ⟨_, fun X Q h => o_want rfl rfl rfl rfl rfl <| o_sub (c := ((i - 1 : Nat) : Int)) rfl rfl (by omega) (by omega) (by omega) (g_end (h _ _ ⟨rfl, rfl⟩)), ?_⟩
      first | refine ob_q rfl rfl ⟨_, fun X Q h => o_want rfl rfl rfl rfl rfl <| o_indexR rfl rfl rfl (by first | assumption | omega) (by first | rfl | assumption | omega) rfl (g_end (h _ _ ⟨rfl, rfl⟩)), ?_⟩ | refine ob_q rfl rfl ⟨_, fun X Q h => o_unwanted rfl rfl rfl rfl rfl (g_end (h _ _ ⟨rfl, rfl⟩)), ?_⟩ | refine ob_q rfl rfl ⟨_, fun X Q h => o_undef rfl rfl rfl (g_end (h _ _ ⟨rfl, rfl⟩)), ?_⟩
      refine ob_q rfl rfl ⟨_, fun X Q h => o_want rfl rfl rfl rfl rfl <| o_loadE (ys := l) rfl rfl hy (g_end (h _ _ ⟨rfl, rfl⟩)), ?_⟩
      refine ob_q rfl rfl ⟨_, fun X Q h => o_want rfl rfl rfl rfl rfl <| o_call (BeforeE_spec e y) rfl rfl <| by rintro _ _ ⟨rfl, rfl⟩; exact (g_end (h _ _ ⟨rfl, rfl⟩)), ?_⟩
      first | refine ob_q rfl rfl ⟨_, fun X Q h => o_pick_t rfl rfl (g_end (h _ _ ⟨rfl, rfl⟩)), ?_⟩ | refine ob_q rfl rfl ⟨_, fun X Q h => o_pick_f rfl rfl (g_end (h _ _ ⟨rfl, rfl⟩)), ?_⟩
      refine ob_nil ?_
      by_cases hlt : e.cmp y < 0
      · first | refine g_seq (g_cond_t rfl (by simpa using hlt) ?_) | refine g_cond_t rfl (by simpa using hlt) ?_
        repeat (first | refine g_endt ?_ | refine g_end ?_ | refine g_then ?_ | refine g_in_normal ?_ | refine g_then_ret ?_ | refine g_in_ret ?_ | refine g_then_exit ?_ | refine g_in_exit rfl ?_ | refine g_in_exit_ne (by decide) ?_ | refine g_seq ?_ | refine g_region ?_ | refine g_block ?_ | refine g_ret ?_ | refine g_return_n ?_ | refine g_exit ?_ | refine g_skip ?_)
        refine o_move ?_
        refine o_sub (c := ((i - 1 : Nat) : Int)) rfl rfl (by omega) (by omega) (by omega) ?_
        refine o_assign ?_
        first | refine g_endt ?_ | refine g_end ?_
        repeat (first | refine g_endt ?_ | refine g_end ?_ | refine g_then ?_ | refine g_in_normal ?_ | refine g_then_ret ?_ | refine g_in_ret ?_ | refine g_then_exit ?_ | refine g_in_exit rfl ?_ | refine g_in_exit_ne (by decide) ?_ | refine g_seq ?_ | refine g_region ?_ | refine g_block ?_ | refine g_ret ?_ | refine g_return_n ?_ | refine g_exit ?_ | refine g_skip ?_)
        have hn : ∀ (j : Nat) (z : ElemD), i - 1 ≤ j → l[j]? = some z → 0 < z.cmp e := fun j z hj hz => by
          by_cases e2 : j = i - 1
          · subst e2; rw [hy] at hz; cases hz; have := linElem.swap e y; omega
          · exact hup j z (by omega) hz
        exact g_meets (⟨i - 1, by omega, hn⟩) (by first | exact trivial | (dsimp only; omega)) (Sat.mem (by repeat (first | exact trivial | refine And.intro rfl ?_)))
      · first | refine g_seq (g_cond_f rfl (by simpa using hlt) ?_) | refine g_cond_f rfl (by simpa using hlt) ?_
        repeat (first | refine g_endt ?_ | refine g_end ?_ | refine g_then ?_ | refine g_in_normal ?_ | refine g_then_ret ?_ | refine g_in_ret ?_ | refine g_then_exit ?_ | refine g_in_exit rfl ?_ | refine g_in_exit_ne (by decide) ?_ | refine g_seq ?_ | refine g_region ?_ | refine g_block ?_ | refine g_ret ?_ | refine g_return_n ?_ | refine g_exit ?_ | refine g_skip ?_)
        exact g_meets i ⟨by omega, hup, fun z _ hz => by rw [hy] at hz; cases hz; exact hlt⟩ (Sat.mem ⟨rfl, rfl, rfl, trivial⟩)
    · have : i = 0 := by omega
      subst this
      repeat (first | refine g_endt ?_ | refine g_end ?_ | refine g_then ?_ | refine g_in_normal ?_ | refine g_then_ret ?_ | refine g_in_ret ?_ | refine g_then_exit ?_ | refine g_in_exit rfl ?_ | refine g_in_exit_ne (by decide) ?_ | refine g_seq ?_ | refine g_region ?_ | refine g_block ?_ | refine g_ret ?_ | refine g_return_n ?_ | refine g_exit ?_ | refine g_skip ?_)
      refine g_draw [] [0,1,2,3,4,5,6,7,8,9,10] [psl encE 12 K l, cellsB q e.val.cells 25] mixed rfl ?_
      refine ob_q rfl rfl ⟨_, fun X Q h => o_move (g_end (h _ _ ⟨rfl, rfl⟩)), ?_⟩
      refine ob_q rfl rfl ⟨_, fun X Q h => o_gtr rfl rfl (g_end (h _ _ ⟨rfl, rfl⟩)), ?_⟩
      rw [show decide (((0 : Nat) : Int) > 0) = false from rfl]
      refine ob_q rfl rfl ⟨_, fun X Q h => o_move (g_end (h _ _ ⟨rfl, rfl⟩)), ?_⟩
      first | refine ob_q rfl rfl ⟨_, fun X Q h => o_unwanted rfl rfl rfl rfl rfl (g_end (h _ _ ⟨rfl, rfl⟩)), ?_⟩ | refine ob_q rfl rfl ⟨_, fun X Q h => o_undef rfl rfl rfl (g_end (h _ _ ⟨rfl, rfl⟩)), ?_⟩
      first | refine ob_q rfl rfl ⟨_, fun X Q h => o_want rfl rfl rfl rfl rfl <| o_move (g_end (h _ _ ⟨rfl, rfl⟩)), ?_⟩ | refine ob_q rfl rfl ⟨_, fun X Q h => o_unwanted rfl rfl rfl rfl rfl (g_end (h _ _ ⟨rfl, rfl⟩)), ?_⟩ | refine ob_q rfl rfl ⟨_, fun X Q h => o_undef rfl rfl rfl (g_end (h _ _ ⟨rfl, rfl⟩)), ?_⟩
      first | refine ob_q rfl rfl ⟨_, fun X Q h => o_want rfl rfl rfl rfl rfl <| o_move (g_end (h _ _ ⟨rfl, rfl⟩)), ?_⟩ | refine ob_q rfl rfl ⟨_, fun X Q h => o_unwanted rfl rfl rfl rfl rfl (g_end (h _ _ ⟨rfl, rfl⟩)), ?_⟩ | refine ob_q rfl rfl ⟨_, fun X Q h => o_undef rfl rfl rfl (g_end (h _ _ ⟨rfl, rfl⟩)), ?_⟩
      first | refine ob_q rfl rfl ⟨_, fun X Q h => o_unwanted rfl rfl rfl rfl rfl (g_end (h _ _ ⟨rfl, rfl⟩)), ?_⟩ | refine ob_q rfl rfl ⟨_, fun X Q h => o_undef rfl rfl rfl (g_end (h _ _ ⟨rfl, rfl⟩)), ?_⟩
      first | refine ob_q rfl rfl ⟨_, fun X Q h => o_want rfl rfl rfl rfl rfl <| o_indexR rfl rfl rfl (by first | assumption | omega) (by first | rfl | assumption | omega) rfl (g_end (h _ _ ⟨rfl, rfl⟩)), ?_⟩ | refine ob_q rfl rfl ⟨_, fun X Q h => o_unwanted rfl rfl rfl rfl rfl (g_end (h _ _ ⟨rfl, rfl⟩)), ?_⟩ | refine ob_q rfl rfl ⟨_, fun X Q h => o_undef rfl rfl rfl (g_end (h _ _ ⟨rfl, rfl⟩)), ?_⟩
      first | refine ob_q rfl rfl ⟨_, fun X Q h => o_unwanted rfl rfl rfl rfl rfl (g_end (h _ _ ⟨rfl, rfl⟩)), ?_⟩ | refine ob_q rfl rfl ⟨_, fun X Q h => o_undef rfl rfl rfl (g_end (h _ _ ⟨rfl, rfl⟩)), ?_⟩
      first | refine ob_q rfl rfl ⟨_, fun X Q h => o_unwanted rfl rfl rfl rfl rfl (g_end (h _ _ ⟨rfl, rfl⟩)), ?_⟩ | refine ob_q rfl rfl ⟨_, fun X Q h => o_undef rfl rfl rfl (g_end (h _ _ ⟨rfl, rfl⟩)), ?_⟩
      first | refine ob_q rfl rfl ⟨_, fun X Q h => o_pick_t rfl rfl (g_end (h _ _ ⟨rfl, rfl⟩)), ?_⟩ | refine ob_q rfl rfl ⟨_, fun X Q h => o_pick_f rfl rfl (g_end (h _ _ ⟨rfl, rfl⟩)), ?_⟩
      refine ob_nil ?_
      first | refine g_seq (g_cond_f rfl (by first | rfl | (simp; done) | (simp; omega) | (simp; assumption)) ?_) | refine g_cond_f rfl (by first | rfl | (simp; done) | (simp; omega) | (simp; assumption)) ?_
      repeat (first | refine g_endt ?_ | refine g_end ?_ | refine g_then ?_ | refine g_in_normal ?_ | refine g_then_ret ?_ | refine g_in_ret ?_ | refine g_then_exit ?_ | refine g_in_exit rfl ?_ | refine g_in_exit_ne (by decide) ?_ | refine g_seq ?_ | refine g_region ?_ | refine g_block ?_ | refine g_ret ?_ | refine g_return_n ?_ | refine g_exit ?_ | refine g_skip ?_)
      exact g_meets 0 ⟨by omega, hup, fun z h0 _ => absurd h0 (Nat.lt_irrefl 0)⟩ (Sat.mem ⟨rfl, rfl, rfl, trivial⟩)
  · intro i ρ' hpos
    obtain ⟨f1, f2⟩ := hpos.find hs
    repeat (first | refine g_endt ?_ | refine g_end ?_ | refine g_then ?_ | refine g_in_normal ?_ | refine g_then_ret ?_ | refine g_in_ret ?_ | refine g_then_exit ?_ | refine g_in_exit rfl ?_ | refine g_in_exit_ne (by decide) ?_ | refine g_seq ?_ | refine g_region ?_ | refine g_block ?_ | refine g_ret ?_ | refine g_return_n ?_ | refine g_exit ?_ | refine g_skip ?_)
    refine g_cutk (σ := Bool) (ds' := []) (S := fun t => [(0, .slice K n c), (3, .pointer (some ⟨q, 0, none⟩)), (5, .int .i64 (i : Int)), (32, .bool t)]) (H := fun _ => [psl encE 12 K l, cellsB q e.val.cells 25])
      (ok := fun t => (t = true → FindR ElemD.cmp l e (i - 1) true) ∧ (t = false → FindR ElemD.cmp l e i false)) ?_ ?_
    · by_cases h : 0 < i
      · have hil : i - 1 < l.length := by have := hpos.1; omega
        obtain ⟨y, hy⟩ : ∃ y, l[i - 1]? = some y := ⟨_, List.getElem?_eq_getElem hil⟩
        repeat (first | refine g_endt ?_ | refine g_end ?_ | refine g_then ?_ | refine g_in_normal ?_ | refine g_then_ret ?_ | refine g_in_ret ?_ | refine g_then_exit ?_ | refine g_in_exit rfl ?_ | refine g_in_exit_ne (by decide) ?_ | refine g_seq ?_ | refine g_region ?_ | refine g_block ?_ | refine g_ret ?_ | refine g_return_n ?_ | refine g_exit ?_ | refine g_skip ?_)
        refine g_draw [] [0,1,2,3,4,5,6,7,8,9,10] [psl encE 12 K l, cellsB q e.val.cells 25] mixed rfl ?_
        refine ob_q rfl rfl ⟨_, fun X Q h => o_move (g_end (h _ _ ⟨rfl, rfl⟩)), ?_⟩
        refine ob_q rfl rfl ⟨_, fun X Q h => o_gtr rfl rfl (g_end (h _ _ ⟨rfl, rfl⟩)), ?_⟩
        rw [show decide ((i : Int) > 0) = true from decide_eq_true (by omega)]
        refine ob_q rfl rfl ⟨_, fun X Q h => o_move (g_end (h _ _ ⟨rfl, rfl⟩)), ?_⟩
        first | refine ob_q rfl rfl ⟨_, fun X Q h => o_want rfl rfl rfl rfl rfl <| o_move (g_end (h _ _ ⟨rfl, rfl⟩)), ?_⟩ | refine ob_q rfl rfl ⟨_, fun X Q h => o_unwanted rfl rfl rfl rfl rfl (g_end (h _ _ ⟨rfl, rfl⟩)), ?_⟩ | refine ob_q rfl rfl ⟨_, fun X Q h => o_undef rfl rfl rfl (g_end (h _ _ ⟨rfl, rfl⟩)), ?_⟩
        first | refine ob_q rfl rfl ⟨_, fun X Q h => o_want rfl rfl rfl rfl rfl <| o_move (g_end (h _ _ ⟨rfl, rfl⟩)), ?_⟩ | refine ob_q rfl rfl ⟨_, fun X Q h => o_unwanted rfl rfl rfl rfl rfl (g_end (h _ _ ⟨rfl, rfl⟩)), ?_⟩ | refine ob_q rfl rfl ⟨_, fun X Q h => o_undef rfl rfl rfl (g_end (h _ _ ⟨rfl, rfl⟩)), ?_⟩
        refine ob_q rfl rfl ⟨_, fun X Q h => o_want rfl rfl rfl rfl rfl <| o_sub (c := ((i - 1 : Nat) : Int)) rfl rfl (by omega) (by omega) (by omega) (g_end (h _ _ ⟨rfl, rfl⟩)), ?_⟩
        first | refine ob_q rfl rfl ⟨_, fun X Q h => o_want rfl rfl rfl rfl rfl <| o_indexR rfl rfl rfl (by first | assumption | omega) (by first | rfl | assumption | omega) rfl (g_end (h _ _ ⟨rfl, rfl⟩)), ?_⟩ | refine ob_q rfl rfl ⟨_, fun X Q h => o_unwanted rfl rfl rfl rfl rfl (g_end (h _ _ ⟨rfl, rfl⟩)), ?_⟩ | refine ob_q rfl rfl ⟨_, fun X Q h => o_undef rfl rfl rfl (g_end (h _ _ ⟨rfl, rfl⟩)), ?_⟩
        refine ob_q rfl rfl ⟨_, fun X Q h => o_want rfl rfl rfl rfl rfl <| o_loadE (ys := l) rfl rfl hy (g_end (h _ _ ⟨rfl, rfl⟩)), ?_⟩
        refine ob_q rfl rfl ⟨_, fun X Q h => o_want rfl rfl rfl rfl rfl <| o_loadN (v := e.val) rfl rfl rfl (g_end (h _ _ ⟨rfl, rfl⟩)), ?_⟩
        refine ob_q rfl rfl ⟨_, fun X Q h => o_want rfl rfl rfl rfl rfl <| o_call (One_spec y e) rfl rfl <| by rintro _ _ ⟨rfl, rfl⟩; exact (g_end (h _ _ ⟨rfl, rfl⟩)), ?_⟩
        first | refine ob_q rfl rfl ⟨_, fun X Q h => o_pick_t rfl rfl (g_end (h _ _ ⟨rfl, rfl⟩)), ?_⟩ | refine ob_q rfl rfl ⟨_, fun X Q h => o_pick_f rfl rfl (g_end (h _ _ ⟨rfl, rfl⟩)), ?_⟩
        refine ob_nil ?_
        refine g_meets (decide (y.cmp e = 0)) ⟨fun e1 => f1 y h hy (of_decide_eq_true e1), fun e1 => f2 fun z _ hz => by rw [hy] at hz; cases hz; exact of_decide_eq_false e1⟩ (Sat.mem ⟨rfl, rfl, rfl, rfl, trivial⟩)
      · have h0 : i = 0 := by omega
        subst h0
        repeat (first | refine g_endt ?_ | refine g_end ?_ | refine g_then ?_ | refine g_in_normal ?_ | refine g_then_ret ?_ | refine g_in_ret ?_ | refine g_then_exit ?_ | refine g_in_exit rfl ?_ | refine g_in_exit_ne (by decide) ?_ | refine g_seq ?_ | refine g_region ?_ | refine g_block ?_ | refine g_ret ?_ | refine g_return_n ?_ | refine g_exit ?_ | refine g_skip ?_)
        refine g_draw [] [0,1,2,3,4,5,6,7,8,9,10] [psl encE 12 K l, cellsB q e.val.cells 25] mixed rfl ?_
        refine ob_q rfl rfl ⟨_, fun X Q h => o_move (g_end (h _ _ ⟨rfl, rfl⟩)), ?_⟩
        refine ob_q rfl rfl ⟨_, fun X Q h => o_gtr rfl rfl (g_end (h _ _ ⟨rfl, rfl⟩)), ?_⟩
        rw [show decide (((0 : Nat) : Int) > 0) = false from rfl]
        refine ob_q rfl rfl ⟨_, fun X Q h => o_move (g_end (h _ _ ⟨rfl, rfl⟩)), ?_⟩
        first | refine ob_q rfl rfl ⟨_, fun X Q h => o_want rfl rfl rfl rfl rfl <| o_move (g_end (h _ _ ⟨rfl, rfl⟩)), ?_⟩ | refine ob_q rfl rfl ⟨_, fun X Q h => o_unwanted rfl rfl rfl rfl rfl (g_end (h _ _ ⟨rfl, rfl⟩)), ?_⟩ | refine ob_q rfl rfl ⟨_, fun X Q h => o_undef rfl rfl rfl (g_end (h _ _ ⟨rfl, rfl⟩)), ?_⟩
        first | refine ob_q rfl rfl ⟨_, fun X Q h => o_want rfl rfl rfl rfl rfl <| o_move (g_end (h _ _ ⟨rfl, rfl⟩)), ?_⟩ | refine ob_q rfl rfl ⟨_, fun X Q h => o_unwanted rfl rfl rfl rfl rfl (g_end (h _ _ ⟨rfl, rfl⟩)), ?_⟩ | refine ob_q rfl rfl ⟨_, fun X Q h => o_undef rfl rfl rfl (g_end (h _ _ ⟨rfl, rfl⟩)), ?_⟩
        first | refine ob_q rfl rfl ⟨_, fun X Q h => o_unwanted rfl rfl rfl rfl rfl (g_end (h _ _ ⟨rfl, rfl⟩)), ?_⟩ | refine ob_q rfl rfl ⟨_, fun X Q h => o_undef rfl rfl rfl (g_end (h _ _ ⟨rfl, rfl⟩)), ?_⟩
        first | refine ob_q rfl rfl ⟨_, fun X Q h => o_want rfl rfl rfl rfl rfl <| o_indexR rfl rfl rfl (by first | assumption | omega) (by first | rfl | assumption | omega) rfl (g_end (h _ _ ⟨rfl, rfl⟩)), ?_⟩ | refine ob_q rfl rfl ⟨_, fun X Q h => o_unwanted rfl rfl rfl rfl rfl (g_end (h _ _ ⟨rfl, rfl⟩)), ?_⟩ | refine ob_q rfl rfl ⟨_, fun X Q h => o_undef rfl rfl rfl (g_end (h _ _ ⟨rfl, rfl⟩)), ?_⟩
        first | refine ob_q rfl rfl ⟨_, fun X Q h => o_unwanted rfl rfl rfl rfl rfl (g_end (h _ _ ⟨rfl, rfl⟩)), ?_⟩ | refine ob_q rfl rfl ⟨_, fun X Q h => o_undef rfl rfl rfl (g_end (h _ _ ⟨rfl, rfl⟩)), ?_⟩
        first | refine ob_q rfl rfl ⟨_, fun X Q h => o_unwanted rfl rfl rfl rfl rfl (g_end (h _ _ ⟨rfl, rfl⟩)), ?_⟩ | refine ob_q rfl rfl ⟨_, fun X Q h => o_undef rfl rfl rfl (g_end (h _ _ ⟨rfl, rfl⟩)), ?_⟩
        first | refine ob_q rfl rfl ⟨_, fun X Q h => o_unwanted rfl rfl rfl rfl rfl (g_end (h _ _ ⟨rfl, rfl⟩)), ?_⟩ | refine ob_q rfl rfl ⟨_, fun X Q h => o_undef rfl rfl rfl (g_end (h _ _ ⟨rfl, rfl⟩)), ?_⟩
        first | refine ob_q rfl rfl ⟨_, fun X Q h => o_pick_t rfl rfl (g_end (h _ _ ⟨rfl, rfl⟩)), ?_⟩ | refine ob_q rfl rfl ⟨_, fun X Q h => o_pick_f rfl rfl (g_end (h _ _ ⟨rfl, rfl⟩)), ?_⟩
        refine ob_nil ?_
        exact g_meets false ⟨fun e1 => (by cases e1), fun _ => f2 fun z h0 _ => absurd h0 (Nat.lt_irrefl 0)⟩ (Sat.mem ⟨rfl, rfl, rfl, rfl, trivial⟩)
    · rintro t ρ2 ⟨g1, g2⟩
      have hi : i ≤ l.length := hpos.1
      have hti : (l.take i).length = i := by simp; omega
      have hdi : (l.drop i).length = n - i := by simp; omega
      cases t with
      | true =>
        have he := insC_of linElem hs (g1 rfl)
        rw [cond_true] at he
        first | refine g_seq (g_cond_t rfl (by first | rfl | (simp; done) | (simp; omega) | (simp; assumption)) ?_) | refine g_cond_t rfl (by first | rfl | (simp; done) | (simp; omega) | (simp; assumption)) ?_
        repeat (first | refine g_endt ?_ | refine g_end ?_ | refine g_then ?_ | refine g_in_normal ?_ | refine g_then_ret ?_ | refine g_in_ret ?_ | refine g_then_exit ?_ | refine g_in_exit rfl ?_ | refine g_in_exit_ne (by decide) ?_ | refine g_seq ?_ | refine g_region ?_ | refine g_block ?_ | refine g_ret ?_ | refine g_return_n ?_ | refine g_exit ?_ | refine g_skip ?_)
        refine o_move ?_
        refine o_assign ?_
        first | refine g_endt ?_ | refine g_end ?_
        repeat (first | refine g_endt ?_ | refine g_end ?_ | refine g_then ?_ | refine g_in_normal ?_ | refine g_then_ret ?_ | refine g_in_ret ?_ | refine g_then_exit ?_ | refine g_in_exit rfl ?_ | refine g_in_exit_ne (by decide) ?_ | refine g_seq ?_ | refine g_region ?_ | refine g_block ?_ | refine g_ret ?_ | refine g_return_n ?_ | refine g_exit ?_ | refine g_skip ?_)
        exact ret1 (K := [psl encE 12 K l]) rfl (resT rfl) ⟨K, c, by rw [← he]; omega, by rw [← he, hl]; rfl, by rw [← he]⟩
      | false =>
        have he := insC_of linElem hs (g2 rfl)
        rw [cond_false] at he
        first | refine g_seq (g_cond_f rfl (by first | rfl | (simp; done) | (simp; omega) | (simp; assumption)) ?_) | refine g_cond_f rfl (by first | rfl | (simp; done) | (simp; omega) | (simp; assumption)) ?_
        refine G.taken (S := K) (xs := l) (enc := encE) (sz := 12) i ?_
        refine G.nil_slice 25 encE 12 ?_
        repeat (first | refine g_endt ?_ | refine g_end ?_ | refine g_then ?_ | refine g_in_normal ?_ | refine g_then_ret ?_ | refine g_in_ret ?_ | refine g_then_exit ?_ | refine g_in_exit rfl ?_ | refine g_in_exit_ne (by decide) ?_ | refine g_seq ?_ | refine g_region ?_ | refine g_block ?_ | refine g_ret ?_ | refine g_return_n ?_ | refine g_exit ?_ | refine g_skip ?_)
        refine o_move ?_
        refine o_move ?_
        refine o_uptoP (k := i) rfl rfl rfl (by omega) ?_
        refine o_append0 (ys := l.take i) rfl rfl rfl rfl hti (by rw [hti]; simp [maxLen]; omega) (by rw [hti]; omega) fun S2 c2 => ?_
        refine o_assign ?_
        first | refine g_endt ?_ | refine g_end ?_
        repeat (first | refine g_endt ?_ | refine g_end ?_ | refine g_then ?_ | refine g_in_normal ?_ | refine g_then_ret ?_ | refine g_in_ret ?_ | refine g_then_exit ?_ | refine g_in_exit rfl ?_ | refine g_in_exit_ne (by decide) ?_ | refine g_seq ?_ | refine g_region ?_ | refine g_block ?_ | refine g_ret ?_ | refine g_return_n ?_ | refine g_exit ?_ | refine g_skip ?_)
        refine o_move ?_
        refine o_loadN (v := e.val) rfl rfl rfl ?_
        refine o_litP (e := 25) encE [e] (e).val.cells (fun w => by kernel_rfl) (by simp [encE]) (by simp [maxLen]) fun _ => ?_
        refine o_append (xs := l.take i) (ys := [e]) (by rw [hti]; rfl) rfl rfl rfl rfl (fun _ => .inr trivial) (by simp [maxLen]; omega) (by simp; omega) fun S3 c3 => ?_
        refine o_assign ?_
        first | refine g_endt ?_ | refine g_end ?_
        refine G.dropped (S := K) (xs := l) (enc := encE) (sz := 12) c i (by omega) ?_
        repeat (first | refine g_endt ?_ | refine g_end ?_ | refine g_then ?_ | refine g_in_normal ?_ | refine g_then_ret ?_ | refine g_in_ret ?_ | refine g_then_exit ?_ | refine g_in_exit rfl ?_ | refine g_in_exit_ne (by decide) ?_ | refine g_seq ?_ | refine g_region ?_ | refine g_block ?_ | refine g_ret ?_ | refine g_return_n ?_ | refine g_exit ?_ | refine g_skip ?_)
        refine o_move ?_
        refine o_move ?_
        refine o_move ?_
        refine o_fromP (k := i) rfl rfl rfl (by omega) ?_
        refine o_append (xs := l.take i ++ [e]) (ys := l.drop i) (by simp only [List.length_append]; rfl) rfl rfl rfl hdi (fun _ => .inr trivial) (by simp [maxLen]; omega) (by simp; omega) fun S4 c4 => ?_
        refine o_assign ?_
        first | refine g_endt ?_ | refine g_end ?_
        rw [show l.take i ++ [e] ++ l.drop i = insC ElemD.cmp l e by rw [← he]; simp]
        refine G.bring [osl 25 encE 12 S4 c4 (insC ElemD.cmp l e)] ?_
        refine G.frzc fun hroom => ?_
        repeat (first | refine g_endt ?_ | refine g_end ?_ | refine g_then ?_ | refine g_in_normal ?_ | refine g_then_ret ?_ | refine g_in_ret ?_ | refine g_then_exit ?_ | refine g_in_exit rfl ?_ | refine g_in_exit_ne (by decide) ?_ | refine g_seq ?_ | refine g_region ?_ | refine g_block ?_ | refine g_ret ?_ | refine g_return_n ?_ | refine g_exit ?_ | refine g_skip ?_)
        exact ret1 (K := [psl encE 12 S4 (insC ElemD.cmp l e)]) rfl (resT (v := .slice S4 ((l.take i ++ [e]).length + (l.drop i).length) c4) rfl) ⟨S4, c4, hroom, by rw [← he]; simp only [List.length_append, List.length_cons, List.length_nil, hti, hdi]; congr 1; omega, rfl⟩
/-- Elements in order, of several that are one the first. -/
def sortE (l : List ElemD) : List ElemD := l.foldl (insC ElemD.cmp) []
theorem sortE_srt : ∀ (l a : List ElemD), Srt ElemD.cmp a → Srt ElemD.cmp (l.foldl (insC ElemD.cmp) a)
  | [], _, h => h
  | x :: l, a, h => sortE_srt l _ (h.insC linElem x)
theorem sortE_len : ∀ (l a : List ElemD), (l.foldl (insC ElemD.cmp) a).length ≤ a.length + l.length
  | [], a => by simp
  | x :: l, a => by
    have h1 := sortE_len l (insC ElemD.cmp a x)
    have h2 := length_insC_le (f := ElemD.cmp) a x
    simp only [List.foldl_cons, List.length_cons]
    omega
theorem sortE_take (l : List ElemD) (i : Nat) (x : ElemD) (h : l[i]? = some x) : sortE (l.take (i + 1)) = insC ElemD.cmp (sortE (l.take i)) x := by
  rw [take_snoc l i x h]
  simp [sortE, List.foldl_append]
theorem SortE_spec (A : Option Addr) (n c : Nat) (l : List ElemD) (hl : l.length = n) (hm : n ≤ 10000) : Ctr Try.prog 28 [.slice A n c] [psl encE 12 A l]
    (fun v M => ∃ T d, (sortE l).length ≤ d ∧ v = .slice T (sortE l).length d ∧ M = [psl encE 12 T (sortE l)]) := by
  refine spec_of Try.func28 rfl Try.ntmps28 rfl fun w0 F => ?_
  -- ponder/ponderref10.Sort
  repeat (first | refine g_endt ?_ | refine g_end ?_ | refine g_then ?_ | refine g_in_normal ?_ | refine g_then_ret ?_ | refine g_in_ret ?_ | refine g_then_exit ?_ | refine g_in_exit rfl ?_ | refine g_in_exit_ne (by decide) ?_ | refine g_seq ?_ | refine g_region ?_ | refine g_block ?_ | refine g_ret ?_ | refine g_return_n ?_ | refine g_exit ?_ | refine g_skip ?_)
  refine o_assign ?_
  first | refine g_endt ?_ | refine g_end ?_
  repeat (first | refine g_endt ?_ | refine g_end ?_ | refine g_then ?_ | refine g_in_normal ?_ | refine g_then_ret ?_ | refine g_in_ret ?_ | refine g_then_exit ?_ | refine g_in_exit rfl ?_ | refine g_in_exit_ne (by decide) ?_ | refine g_seq ?_ | refine g_region ?_ | refine g_block ?_ | refine g_ret ?_ | refine g_return_n ?_ | refine g_exit ?_ | refine g_skip ?_)
  refine o_assign ?_
  first | refine g_endt ?_ | refine g_end ?_
  repeat (first | refine g_endt ?_ | refine g_end ?_ | refine g_then ?_ | refine g_in_normal ?_ | refine g_then_ret ?_ | refine g_in_ret ?_ | refine g_then_exit ?_ | refine g_in_exit rfl ?_ | refine g_in_exit_ne (by decide) ?_ | refine g_seq ?_ | refine g_region ?_ | refine g_block ?_ | refine g_ret ?_ | refine g_return_n ?_ | refine g_exit ?_ | refine g_skip ?_)
  refine o_assign ?_
  first | refine g_endt ?_ | refine g_end ?_
  refine G.nil_slice 25 encE 12 ?_
  refine G.freeze_slice ?_
  repeat (first | refine g_endt ?_ | refine g_end ?_ | refine g_then ?_ | refine g_in_normal ?_ | refine g_then_ret ?_ | refine g_in_ret ?_ | refine g_then_exit ?_ | refine g_in_exit rfl ?_ | refine g_in_exit_ne (by decide) ?_ | refine g_seq ?_ | refine g_region ?_ | refine g_block ?_ | refine g_ret ?_ | refine g_return_n ?_ | refine g_exit ?_ | refine g_skip ?_)
  refine g_loop (σ := {t : Nat × Option Addr × Nat // t.1 ≤ n ∧ (sortE (l.take t.1)).length ≤ t.2.2}) (S := fun t => [(0, .slice A n c), (3, .slice t.1.2.1 (sortE (l.take t.1.1)).length t.1.2.2), (4, .int .i64 (t.1.1 : Int))])
    (H := fun t => [psl encE 12 A l, psl encE 12 t.1.2.1 (sortE (l.take t.1.1))]) (μ := fun t => n - t.1.1) (s0 := ⟨(0, none, 0), Nat.zero_le _, by simp [sortE]⟩) (Sat.mem ⟨rfl, by simp [sortE]; rfl, rfl, trivial⟩) (t := by simp only [List.take_zero]; show Take _ [psl encE 12 A l, psl encE 12 none []] _; infer_instance) ?_
  rintro ⟨⟨i, T, d⟩, hi, hd⟩ ρ'
  dsimp only at hi hd ⊢
  have hsl := sortE_len (l.take i) []
  have hlt : (sortE (l.take i)).length ≤ i := by
    have : (l.take i).length ≤ i := by simp; omega
    unfold sortE
    simp only [List.length_nil] at hsl
    omega
  repeat (first | refine g_endt ?_ | refine g_end ?_ | refine g_then ?_ | refine g_in_normal ?_ | refine g_then_ret ?_ | refine g_in_ret ?_ | refine g_then_exit ?_ | refine g_in_exit rfl ?_ | refine g_in_exit_ne (by decide) ?_ | refine g_seq ?_ | refine g_region ?_ | refine g_block ?_ | refine g_ret ?_ | refine g_return_n ?_ | refine g_exit ?_ | refine g_skip ?_)
  refine o_move ?_
  refine o_move ?_
  refine o_len rfl rfl ?_
  refine o_lss rfl rfl ?_
  first | refine g_endt ?_ | refine g_end ?_
  by_cases h : i < n
  · first | refine g_seq (g_cond_t rfl (by first | rfl | (simp; done) | (simp; omega) | (simp; assumption)) ?_) | refine g_cond_t rfl (by first | rfl | (simp; done) | (simp; omega) | (simp; assumption)) ?_
    obtain ⟨x, hx⟩ : ∃ x, l[i]? = some x := ⟨_, List.getElem?_eq_getElem (by omega)⟩
    have hil : i < l.length := by omega
    repeat (first | refine g_endt ?_ | refine g_end ?_ | refine g_then ?_ | refine g_in_normal ?_ | refine g_then_ret ?_ | refine g_in_ret ?_ | refine g_then_exit ?_ | refine g_in_exit rfl ?_ | refine g_in_exit_ne (by decide) ?_ | refine g_seq ?_ | refine g_region ?_ | refine g_block ?_ | refine g_ret ?_ | refine g_return_n ?_ | refine g_exit ?_ | refine g_skip ?_)
    refine o_move ?_
    refine o_move ?_
    refine o_move ?_
    refine o_indexR rfl rfl rfl (by first | assumption | omega) (by first | rfl | assumption | omega) rfl ?_
    first | refine o_loadN rfl rfl rfl ?_ | refine o_loadE rfl rfl (by assumption) ?_ | refine o_loadEN rfl (by assumption) rfl rfl ?_
    refine o_callp (PutE_spec T (sortE (l.take i)).length d (sortE (l.take i)) x (sortE_srt _ _ Srt.nil) rfl hd (by omega)) rfl rfl ?_
    rintro _ _ ⟨T2, d2, hd2, rfl, rfl⟩
    refine o_assign ?_
    first | refine g_endt ?_ | refine g_end ?_
    rw [← sortE_take l i x hx] at hd2 ⊢
    repeat (first | refine g_endt ?_ | refine g_end ?_ | refine g_then ?_ | refine g_in_normal ?_ | refine g_then_ret ?_ | refine g_in_ret ?_ | refine g_then_exit ?_ | refine g_in_exit rfl ?_ | refine g_in_exit_ne (by decide) ?_ | refine g_seq ?_ | refine g_region ?_ | refine g_block ?_ | refine g_ret ?_ | refine g_return_n ?_ | refine g_exit ?_ | refine g_skip ?_)
    refine o_move ?_
    refine o_add (c := ((i + 1 : Nat) : Int)) rfl rfl (by omega) (by omega) (by omega) ?_
    refine o_assign ?_
    first | refine g_endt ?_ | refine g_end ?_
    repeat (first | refine g_endt ?_ | refine g_end ?_ | refine g_then ?_ | refine g_in_normal ?_ | refine g_then_ret ?_ | refine g_in_ret ?_ | refine g_then_exit ?_ | refine g_in_exit rfl ?_ | refine g_in_exit_ne (by decide) ?_ | refine g_seq ?_ | refine g_region ?_ | refine g_block ?_ | refine g_ret ?_ | refine g_return_n ?_ | refine g_exit ?_ | refine g_skip ?_)
    exact g_meets (⟨(i + 1, T2, d2), h, hd2⟩) (by first | exact trivial | (dsimp only; omega)) (Sat.mem (by repeat (first | exact trivial | refine And.intro rfl ?_)))
  · first | refine g_seq (g_cond_f rfl (by simp; omega) ?_) | refine g_cond_f rfl (by simp; omega) ?_
    have : i = n := by omega
    subst this
    rw [List.take_of_length_le (by omega)] at hd ⊢
    repeat (first | refine g_endt ?_ | refine g_end ?_ | refine g_then ?_ | refine g_in_normal ?_ | refine g_then_ret ?_ | refine g_in_ret ?_ | refine g_then_exit ?_ | refine g_in_exit rfl ?_ | refine g_in_exit_ne (by decide) ?_ | refine g_seq ?_ | refine g_region ?_ | refine g_block ?_ | refine g_ret ?_ | refine g_return_n ?_ | refine g_exit ?_ | refine g_skip ?_)
    refine o_move ?_
    refine o_assign ?_
    first | refine g_endt ?_ | refine g_end ?_
    repeat (first | refine g_endt ?_ | refine g_end ?_ | refine g_then ?_ | refine g_in_normal ?_ | refine g_then_ret ?_ | refine g_in_ret ?_ | refine g_then_exit ?_ | refine g_in_exit rfl ?_ | refine g_in_exit_ne (by decide) ?_ | refine g_seq ?_ | refine g_region ?_ | refine g_block ?_ | refine g_ret ?_ | refine g_return_n ?_ | refine g_exit ?_ | refine g_skip ?_)
    exact ret1 (K := [psl encE 12 T (sortE l)]) rfl (resT rfl) ⟨T, d, hd, rfl, rfl⟩
end Go.Proofs.Ytdpbjoldgiikkaa
/- Words and symbols: which are right. -/
namespace Go.Proofs.Ytdpbjoldgiikkaa
open Go Go.Sl
attribute [local irreducible] Code.wpIn roundPost bodyPostM runL Ret Meets Begin

def smallN (c : Nat) : Bool := decide (97 ≤ c) && decide (c ≤ 122)
def digitN (c : Nat) : Bool := decide (48 ≤ c) && decide (c ≤ 57)
def greatN (c : Nat) : Bool := decide (65 ≤ c) && decide (c ≤ 90)
def partN (c : Nat) : Bool := smallN c || digitN c || decide (c = 45) || decide (c = 95)
def wordS (s : ByteArray) : Bool := decide (1 ≤ s.size) && decide (s.size ≤ 32) && smallN (byteN s 0) && (List.range s.size).all fun i => partN (byteN s i)
def validS (s : SymD) : Bool :=
  if s.kind = 1 then decide (s.text.size = 1) && greatN (byteN s.text 0) && decide (1 ≤ s.n) && decide (s.n ≤ 1048576)
  else if s.kind = 2 then decide (s.text = ByteArray.empty) && decide (-2147483647 ≤ s.n) && decide (s.n ≤ 2147483647)
  else if s.kind = 3 then decide (s.n = 0) && wordS s.text else false
def validE (e : ElemD) : Bool := validS e.id && decide (e.id.kind = 1) && (validS e.attr && decide (e.attr.kind ≠ 1)) && validS e.value

theorem great_spec (c : Nat) : Ctr Try.prog 72 [.int .u8 (c : Int)] [] (fun v M => v = .bool (greatN c) ∧ M = []) := by
  refine spec_of Try.func72 rfl Try.ntmps72 rfl fun w0 F => ?_
  -- ponder/sym.great
  repeat (first | refine g_endt ?_ | refine g_end ?_ | refine g_then ?_ | refine g_in_normal ?_ | refine g_then_ret ?_ | refine g_in_ret ?_ | refine g_then_exit ?_ | refine g_in_exit rfl ?_ | refine g_in_exit_ne (by decide) ?_ | refine g_seq ?_ | refine g_region ?_ | refine g_block ?_ | refine g_ret ?_ | refine g_return_n ?_ | refine g_exit ?_ | refine g_skip ?_)
  refine o_assign ?_
  first | refine g_endt ?_ | refine g_end ?_
  repeat (first | refine g_endt ?_ | refine g_end ?_ | refine g_then ?_ | refine g_in_normal ?_ | refine g_then_ret ?_ | refine g_in_ret ?_ | refine g_then_exit ?_ | refine g_in_exit rfl ?_ | refine g_in_exit_ne (by decide) ?_ | refine g_seq ?_ | refine g_region ?_ | refine g_block ?_ | refine g_ret ?_ | refine g_return_n ?_ | refine g_exit ?_ | refine g_skip ?_)
  refine o_move ?_
  refine o_geq rfl rfl ?_
  refine o_moveB rfl (fun h2 => ?_) (fun h2 => ?_)
  · refine o_want rfl rfl rfl rfl rfl <| o_move ?_
    refine o_want rfl rfl rfl rfl rfl <| o_leq rfl rfl ?_
    refine o_pick_t rfl rfl ?_
    refine o_assign ?_
    first | refine g_endt ?_ | refine g_end ?_
    repeat (first | refine g_endt ?_ | refine g_end ?_ | refine g_then ?_ | refine g_in_normal ?_ | refine g_then_ret ?_ | refine g_in_ret ?_ | refine g_then_exit ?_ | refine g_in_exit rfl ?_ | refine g_in_exit_ne (by decide) ?_ | refine g_seq ?_ | refine g_region ?_ | refine g_block ?_ | refine g_ret ?_ | refine g_return_n ?_ | refine g_exit ?_ | refine g_skip ?_)
    refine ret1 rfl (resT rfl) ⟨congrArg Value.bool ?_, rfl⟩
    (rw [Bool.eq_iff_iff]; simp_all [greatN] <;> omega)
  · refine o_unwanted rfl rfl rfl rfl rfl ?_
    refine o_unwanted rfl rfl rfl rfl rfl ?_
    refine o_pick_f rfl rfl ?_
    refine o_assign ?_
    first | refine g_endt ?_ | refine g_end ?_
    repeat (first | refine g_endt ?_ | refine g_end ?_ | refine g_then ?_ | refine g_in_normal ?_ | refine g_then_ret ?_ | refine g_in_ret ?_ | refine g_then_exit ?_ | refine g_in_exit rfl ?_ | refine g_in_exit_ne (by decide) ?_ | refine g_seq ?_ | refine g_region ?_ | refine g_block ?_ | refine g_ret ?_ | refine g_return_n ?_ | refine g_exit ?_ | refine g_skip ?_)
    refine ret1 rfl (resT rfl) ⟨congrArg Value.bool ?_, rfl⟩
    (rw [Bool.eq_iff_iff]; simp_all [greatN] <;> omega)
theorem small_spec (c : Nat) : Ctr Try.prog 86 [.int .u8 (c : Int)] [] (fun v M => v = .bool (smallN c) ∧ M = []) := by
  refine spec_of Try.func86 rfl Try.ntmps86 rfl fun w0 F => ?_
  -- ponder/sym.small
  repeat (first | refine g_endt ?_ | refine g_end ?_ | refine g_then ?_ | refine g_in_normal ?_ | refine g_then_ret ?_ | refine g_in_ret ?_ | refine g_then_exit ?_ | refine g_in_exit rfl ?_ | refine g_in_exit_ne (by decide) ?_ | refine g_seq ?_ | refine g_region ?_ | refine g_block ?_ | refine g_ret ?_ | refine g_return_n ?_ | refine g_exit ?_ | refine g_skip ?_)
  refine o_assign ?_
  first | refine g_endt ?_ | refine g_end ?_
  repeat (first | refine g_endt ?_ | refine g_end ?_ | refine g_then ?_ | refine g_in_normal ?_ | refine g_then_ret ?_ | refine g_in_ret ?_ | refine g_then_exit ?_ | refine g_in_exit rfl ?_ | refine g_in_exit_ne (by decide) ?_ | refine g_seq ?_ | refine g_region ?_ | refine g_block ?_ | refine g_ret ?_ | refine g_return_n ?_ | refine g_exit ?_ | refine g_skip ?_)
  refine o_move ?_
  refine o_geq rfl rfl ?_
  refine o_moveB rfl (fun h2 => ?_) (fun h2 => ?_)
  · refine o_want rfl rfl rfl rfl rfl <| o_move ?_
    refine o_want rfl rfl rfl rfl rfl <| o_leq rfl rfl ?_
    refine o_pick_t rfl rfl ?_
    refine o_assign ?_
    first | refine g_endt ?_ | refine g_end ?_
    repeat (first | refine g_endt ?_ | refine g_end ?_ | refine g_then ?_ | refine g_in_normal ?_ | refine g_then_ret ?_ | refine g_in_ret ?_ | refine g_then_exit ?_ | refine g_in_exit rfl ?_ | refine g_in_exit_ne (by decide) ?_ | refine g_seq ?_ | refine g_region ?_ | refine g_block ?_ | refine g_ret ?_ | refine g_return_n ?_ | refine g_exit ?_ | refine g_skip ?_)
    refine ret1 rfl (resT rfl) ⟨congrArg Value.bool ?_, rfl⟩
    (rw [Bool.eq_iff_iff]; simp_all [smallN] <;> omega)
  · refine o_unwanted rfl rfl rfl rfl rfl ?_
    refine o_unwanted rfl rfl rfl rfl rfl ?_
    refine o_pick_f rfl rfl ?_
    refine o_assign ?_
    first | refine g_endt ?_ | refine g_end ?_
    repeat (first | refine g_endt ?_ | refine g_end ?_ | refine g_then ?_ | refine g_in_normal ?_ | refine g_then_ret ?_ | refine g_in_ret ?_ | refine g_then_exit ?_ | refine g_in_exit rfl ?_ | refine g_in_exit_ne (by decide) ?_ | refine g_seq ?_ | refine g_region ?_ | refine g_block ?_ | refine g_ret ?_ | refine g_return_n ?_ | refine g_exit ?_ | refine g_skip ?_)
    refine ret1 rfl (resT rfl) ⟨congrArg Value.bool ?_, rfl⟩
    (rw [Bool.eq_iff_iff]; simp_all [smallN] <;> omega)
theorem digit_spec (c : Nat) : Ctr Try.prog 87 [.int .u8 (c : Int)] [] (fun v M => v = .bool (digitN c) ∧ M = []) := by
  refine spec_of Try.func87 rfl Try.ntmps87 rfl fun w0 F => ?_
  -- ponder/sym.digit
  repeat (first | refine g_endt ?_ | refine g_end ?_ | refine g_then ?_ | refine g_in_normal ?_ | refine g_then_ret ?_ | refine g_in_ret ?_ | refine g_then_exit ?_ | refine g_in_exit rfl ?_ | refine g_in_exit_ne (by decide) ?_ | refine g_seq ?_ | refine g_region ?_ | refine g_block ?_ | refine g_ret ?_ | refine g_return_n ?_ | refine g_exit ?_ | refine g_skip ?_)
  refine o_assign ?_
  first | refine g_endt ?_ | refine g_end ?_
  repeat (first | refine g_endt ?_ | refine g_end ?_ | refine g_then ?_ | refine g_in_normal ?_ | refine g_then_ret ?_ | refine g_in_ret ?_ | refine g_then_exit ?_ | refine g_in_exit rfl ?_ | refine g_in_exit_ne (by decide) ?_ | refine g_seq ?_ | refine g_region ?_ | refine g_block ?_ | refine g_ret ?_ | refine g_return_n ?_ | refine g_exit ?_ | refine g_skip ?_)
  refine o_move ?_
  refine o_geq rfl rfl ?_
  refine o_moveB rfl (fun h2 => ?_) (fun h2 => ?_)
  · refine o_want rfl rfl rfl rfl rfl <| o_move ?_
    refine o_want rfl rfl rfl rfl rfl <| o_leq rfl rfl ?_
    refine o_pick_t rfl rfl ?_
    refine o_assign ?_
    first | refine g_endt ?_ | refine g_end ?_
    repeat (first | refine g_endt ?_ | refine g_end ?_ | refine g_then ?_ | refine g_in_normal ?_ | refine g_then_ret ?_ | refine g_in_ret ?_ | refine g_then_exit ?_ | refine g_in_exit rfl ?_ | refine g_in_exit_ne (by decide) ?_ | refine g_seq ?_ | refine g_region ?_ | refine g_block ?_ | refine g_ret ?_ | refine g_return_n ?_ | refine g_exit ?_ | refine g_skip ?_)
    refine ret1 rfl (resT rfl) ⟨congrArg Value.bool ?_, rfl⟩
    (rw [Bool.eq_iff_iff]; simp_all [digitN] <;> omega)
  · refine o_unwanted rfl rfl rfl rfl rfl ?_
    refine o_unwanted rfl rfl rfl rfl rfl ?_
    refine o_pick_f rfl rfl ?_
    refine o_assign ?_
    first | refine g_endt ?_ | refine g_end ?_
    repeat (first | refine g_endt ?_ | refine g_end ?_ | refine g_then ?_ | refine g_in_normal ?_ | refine g_then_ret ?_ | refine g_in_ret ?_ | refine g_then_exit ?_ | refine g_in_exit rfl ?_ | refine g_in_exit_ne (by decide) ?_ | refine g_seq ?_ | refine g_region ?_ | refine g_block ?_ | refine g_ret ?_ | refine g_return_n ?_ | refine g_exit ?_ | refine g_skip ?_)
    refine ret1 rfl (resT rfl) ⟨congrArg Value.bool ?_, rfl⟩
    (rw [Bool.eq_iff_iff]; simp_all [digitN] <;> omega)
theorem Part_spec (c : Nat) : Ctr Try.prog 60 [.int .u8 (c : Int)] [] (fun v M => v = .bool (partN c) ∧ M = []) := by
  refine spec_of Try.func60 rfl Try.ntmps60 rfl fun w0 F => ?_
  -- ponder/ponderref04.Part
  repeat (first | refine g_endt ?_ | refine g_end ?_ | refine g_then ?_ | refine g_in_normal ?_ | refine g_then_ret ?_ | refine g_in_ret ?_ | refine g_then_exit ?_ | refine g_in_exit rfl ?_ | refine g_in_exit_ne (by decide) ?_ | refine g_seq ?_ | refine g_region ?_ | refine g_block ?_ | refine g_ret ?_ | refine g_return_n ?_ | refine g_exit ?_ | refine g_skip ?_)
  refine o_assign ?_
  first | refine g_endt ?_ | refine g_end ?_
  repeat (first | refine g_endt ?_ | refine g_end ?_ | refine g_then ?_ | refine g_in_normal ?_ | refine g_then_ret ?_ | refine g_in_ret ?_ | refine g_then_exit ?_ | refine g_in_exit rfl ?_ | refine g_in_exit_ne (by decide) ?_ | refine g_seq ?_ | refine g_region ?_ | refine g_block ?_ | refine g_ret ?_ | refine g_return_n ?_ | refine g_exit ?_ | refine g_skip ?_)
  refine o_move ?_
  refine o_geq rfl rfl ?_
  refine o_moveB rfl (fun h2 => ?_) (fun h2 => ?_)
  · refine o_want rfl rfl rfl rfl rfl <| o_move ?_
    refine o_want rfl rfl rfl rfl rfl <| o_leq rfl rfl ?_
    refine o_pick_t rfl rfl ?_
    refine o_moveB rfl (fun h6 => ?_) (fun h6 => ?_)
    · refine o_unwanted rfl rfl rfl rfl rfl ?_
      refine o_unwanted rfl rfl rfl rfl rfl ?_
      refine o_unwanted rfl rfl rfl rfl rfl ?_
      refine o_undef rfl rfl rfl ?_
      refine o_undef rfl rfl rfl ?_
      refine o_unwanted rfl rfl rfl rfl rfl ?_
      refine o_pick_t rfl rfl ?_
      refine o_move ?_
      refine o_unwanted rfl rfl rfl rfl rfl ?_
      refine o_unwanted rfl rfl rfl rfl rfl ?_
      refine o_pick_t rfl rfl ?_
      refine o_move ?_
      refine o_unwanted rfl rfl rfl rfl rfl ?_
      refine o_unwanted rfl rfl rfl rfl rfl ?_
      refine o_pick_t rfl rfl ?_
      refine o_assign ?_
      first | refine g_endt ?_ | refine g_end ?_
      repeat (first | refine g_endt ?_ | refine g_end ?_ | refine g_then ?_ | refine g_in_normal ?_ | refine g_then_ret ?_ | refine g_in_ret ?_ | refine g_then_exit ?_ | refine g_in_exit rfl ?_ | refine g_in_exit_ne (by decide) ?_ | refine g_seq ?_ | refine g_region ?_ | refine g_block ?_ | refine g_ret ?_ | refine g_return_n ?_ | refine g_exit ?_ | refine g_skip ?_)
      refine ret1 rfl (resT rfl) ⟨congrArg Value.bool ?_, rfl⟩
      (rw [Bool.eq_iff_iff]; simp_all [partN, smallN, digitN] <;> omega)
    · refine o_want rfl rfl rfl rfl rfl <| o_move ?_
      refine o_want rfl rfl rfl rfl rfl <| o_geq rfl rfl ?_
      refine o_want rfl rfl rfl rfl rfl <| o_moveB rfl (fun h9 => ?_) (fun h9 => ?_)
      · refine o_want rfl rfl rfl rfl rfl <| o_move ?_
        refine o_want rfl rfl rfl rfl rfl <| o_leq rfl rfl ?_
        refine o_want rfl rfl rfl rfl rfl <| o_pick_t rfl rfl ?_
        refine o_pick_f rfl rfl ?_
        refine o_moveB rfl (fun h14 => ?_) (fun h14 => ?_)
        · refine o_unwanted rfl rfl rfl rfl rfl ?_
          refine o_unwanted rfl rfl rfl rfl rfl ?_
          refine o_pick_t rfl rfl ?_
          refine o_move ?_
          refine o_unwanted rfl rfl rfl rfl rfl ?_
          refine o_unwanted rfl rfl rfl rfl rfl ?_
          refine o_pick_t rfl rfl ?_
          refine o_assign ?_
          first | refine g_endt ?_ | refine g_end ?_
          repeat (first | refine g_endt ?_ | refine g_end ?_ | refine g_then ?_ | refine g_in_normal ?_ | refine g_then_ret ?_ | refine g_in_ret ?_ | refine g_then_exit ?_ | refine g_in_exit rfl ?_ | refine g_in_exit_ne (by decide) ?_ | refine g_seq ?_ | refine g_region ?_ | refine g_block ?_ | refine g_ret ?_ | refine g_return_n ?_ | refine g_exit ?_ | refine g_skip ?_)
          refine ret1 rfl (resT rfl) ⟨congrArg Value.bool ?_, rfl⟩
          (rw [Bool.eq_iff_iff]; simp_all [partN, smallN, digitN] <;> omega)
        · refine o_want rfl rfl rfl rfl rfl <| o_move ?_
          refine o_want rfl rfl rfl rfl rfl <| o_eql rfl rfl ?_
          refine o_pick_f rfl rfl ?_
          refine o_moveB rfl (fun h18 => ?_) (fun h18 => ?_)
          · refine o_unwanted rfl rfl rfl rfl rfl ?_
            refine o_unwanted rfl rfl rfl rfl rfl ?_
            refine o_pick_t rfl rfl ?_
            refine o_assign ?_
            first | refine g_endt ?_ | refine g_end ?_
            repeat (first | refine g_endt ?_ | refine g_end ?_ | refine g_then ?_ | refine g_in_normal ?_ | refine g_then_ret ?_ | refine g_in_ret ?_ | refine g_then_exit ?_ | refine g_in_exit rfl ?_ | refine g_in_exit_ne (by decide) ?_ | refine g_seq ?_ | refine g_region ?_ | refine g_block ?_ | refine g_ret ?_ | refine g_return_n ?_ | refine g_exit ?_ | refine g_skip ?_)
            refine ret1 rfl (resT rfl) ⟨congrArg Value.bool ?_, rfl⟩
            (rw [Bool.eq_iff_iff]; simp_all [partN, smallN, digitN] <;> omega)
          · refine o_want rfl rfl rfl rfl rfl <| o_move ?_
            refine o_want rfl rfl rfl rfl rfl <| o_eql rfl rfl ?_
            refine o_pick_f rfl rfl ?_
            refine o_assign ?_
            first | refine g_endt ?_ | refine g_end ?_
            repeat (first | refine g_endt ?_ | refine g_end ?_ | refine g_then ?_ | refine g_in_normal ?_ | refine g_then_ret ?_ | refine g_in_ret ?_ | refine g_then_exit ?_ | refine g_in_exit rfl ?_ | refine g_in_exit_ne (by decide) ?_ | refine g_seq ?_ | refine g_region ?_ | refine g_block ?_ | refine g_ret ?_ | refine g_return_n ?_ | refine g_exit ?_ | refine g_skip ?_)
            refine ret1 rfl (resT rfl) ⟨congrArg Value.bool ?_, rfl⟩
            (rw [Bool.eq_iff_iff]; simp_all [partN, smallN, digitN] <;> omega)
      · refine o_unwanted rfl rfl rfl rfl rfl ?_
        refine o_unwanted rfl rfl rfl rfl rfl ?_
        refine o_want rfl rfl rfl rfl rfl <| o_pick_f rfl rfl ?_
        refine o_pick_f rfl rfl ?_
        refine o_move ?_
        refine o_want rfl rfl rfl rfl rfl <| o_move ?_
        refine o_want rfl rfl rfl rfl rfl <| o_eql rfl rfl ?_
        refine o_pick_f rfl rfl ?_
        refine o_moveB rfl (fun h18 => ?_) (fun h18 => ?_)
        · refine o_unwanted rfl rfl rfl rfl rfl ?_
          refine o_unwanted rfl rfl rfl rfl rfl ?_
          refine o_pick_t rfl rfl ?_
          refine o_assign ?_
          first | refine g_endt ?_ | refine g_end ?_
          repeat (first | refine g_endt ?_ | refine g_end ?_ | refine g_then ?_ | refine g_in_normal ?_ | refine g_then_ret ?_ | refine g_in_ret ?_ | refine g_then_exit ?_ | refine g_in_exit rfl ?_ | refine g_in_exit_ne (by decide) ?_ | refine g_seq ?_ | refine g_region ?_ | refine g_block ?_ | refine g_ret ?_ | refine g_return_n ?_ | refine g_exit ?_ | refine g_skip ?_)
          refine ret1 rfl (resT rfl) ⟨congrArg Value.bool ?_, rfl⟩
          (rw [Bool.eq_iff_iff]; simp_all [partN, smallN, digitN] <;> omega)
        · refine o_want rfl rfl rfl rfl rfl <| o_move ?_
          refine o_want rfl rfl rfl rfl rfl <| o_eql rfl rfl ?_
          refine o_pick_f rfl rfl ?_
          refine o_assign ?_
          first | refine g_endt ?_ | refine g_end ?_
          repeat (first | refine g_endt ?_ | refine g_end ?_ | refine g_then ?_ | refine g_in_normal ?_ | refine g_then_ret ?_ | refine g_in_ret ?_ | refine g_then_exit ?_ | refine g_in_exit rfl ?_ | refine g_in_exit_ne (by decide) ?_ | refine g_seq ?_ | refine g_region ?_ | refine g_block ?_ | refine g_ret ?_ | refine g_return_n ?_ | refine g_exit ?_ | refine g_skip ?_)
          refine ret1 rfl (resT rfl) ⟨congrArg Value.bool ?_, rfl⟩
          (rw [Bool.eq_iff_iff]; simp_all [partN, smallN, digitN] <;> omega)
  · refine o_unwanted rfl rfl rfl rfl rfl ?_
    refine o_unwanted rfl rfl rfl rfl rfl ?_
    refine o_pick_f rfl rfl ?_
    refine o_move ?_
    refine o_want rfl rfl rfl rfl rfl <| o_move ?_
    refine o_want rfl rfl rfl rfl rfl <| o_geq rfl rfl ?_
    refine o_want rfl rfl rfl rfl rfl <| o_moveB rfl (fun h9 => ?_) (fun h9 => ?_)
    · refine o_want rfl rfl rfl rfl rfl <| o_move ?_
      refine o_want rfl rfl rfl rfl rfl <| o_leq rfl rfl ?_
      refine o_want rfl rfl rfl rfl rfl <| o_pick_t rfl rfl ?_
      refine o_pick_f rfl rfl ?_
      refine o_moveB rfl (fun h14 => ?_) (fun h14 => ?_)
      · refine o_unwanted rfl rfl rfl rfl rfl ?_
        refine o_unwanted rfl rfl rfl rfl rfl ?_
        refine o_pick_t rfl rfl ?_
        refine o_move ?_
        refine o_unwanted rfl rfl rfl rfl rfl ?_
        refine o_unwanted rfl rfl rfl rfl rfl ?_
        refine o_pick_t rfl rfl ?_
        refine o_assign ?_
        first | refine g_endt ?_ | refine g_end ?_
        repeat (first | refine g_endt ?_ | refine g_end ?_ | refine g_then ?_ | refine g_in_normal ?_ | refine g_then_ret ?_ | refine g_in_ret ?_ | refine g_then_exit ?_ | refine g_in_exit rfl ?_ | refine g_in_exit_ne (by decide) ?_ | refine g_seq ?_ | refine g_region ?_ | refine g_block ?_ | refine g_ret ?_ | refine g_return_n ?_ | refine g_exit ?_ | refine g_skip ?_)
        refine ret1 rfl (resT rfl) ⟨congrArg Value.bool ?_, rfl⟩
        (rw [Bool.eq_iff_iff]; simp_all [partN, smallN, digitN] <;> omega)
      · refine o_want rfl rfl rfl rfl rfl <| o_move ?_
        refine o_want rfl rfl rfl rfl rfl <| o_eql rfl rfl ?_
        refine o_pick_f rfl rfl ?_
        refine o_moveB rfl (fun h18 => ?_) (fun h18 => ?_)
        · refine o_unwanted rfl rfl rfl rfl rfl ?_
          refine o_unwanted rfl rfl rfl rfl rfl ?_
          refine o_pick_t rfl rfl ?_
          refine o_assign ?_
          first | refine g_endt ?_ | refine g_end ?_
          repeat (first | refine g_endt ?_ | refine g_end ?_ | refine g_then ?_ | refine g_in_normal ?_ | refine g_then_ret ?_ | refine g_in_ret ?_ | refine g_then_exit ?_ | refine g_in_exit rfl ?_ | refine g_in_exit_ne (by decide) ?_ | refine g_seq ?_ | refine g_region ?_ | refine g_block ?_ | refine g_ret ?_ | refine g_return_n ?_ | refine g_exit ?_ | refine g_skip ?_)
          refine ret1 rfl (resT rfl) ⟨congrArg Value.bool ?_, rfl⟩
          (rw [Bool.eq_iff_iff]; simp_all [partN, smallN, digitN] <;> omega)
        · refine o_want rfl rfl rfl rfl rfl <| o_move ?_
          refine o_want rfl rfl rfl rfl rfl <| o_eql rfl rfl ?_
          refine o_pick_f rfl rfl ?_
          refine o_assign ?_
          first | refine g_endt ?_ | refine g_end ?_
          repeat (first | refine g_endt ?_ | refine g_end ?_ | refine g_then ?_ | refine g_in_normal ?_ | refine g_then_ret ?_ | refine g_in_ret ?_ | refine g_then_exit ?_ | refine g_in_exit rfl ?_ | refine g_in_exit_ne (by decide) ?_ | refine g_seq ?_ | refine g_region ?_ | refine g_block ?_ | refine g_ret ?_ | refine g_return_n ?_ | refine g_exit ?_ | refine g_skip ?_)
          refine ret1 rfl (resT rfl) ⟨congrArg Value.bool ?_, rfl⟩
          (rw [Bool.eq_iff_iff]; simp_all [partN, smallN, digitN] <;> omega)
    · refine o_unwanted rfl rfl rfl rfl rfl ?_
      refine o_unwanted rfl rfl rfl rfl rfl ?_
      refine o_want rfl rfl rfl rfl rfl <| o_pick_f rfl rfl ?_
      refine o_pick_f rfl rfl ?_
      refine o_move ?_
      refine o_want rfl rfl rfl rfl rfl <| o_move ?_
      refine o_want rfl rfl rfl rfl rfl <| o_eql rfl rfl ?_
      refine o_pick_f rfl rfl ?_
      refine o_moveB rfl (fun h18 => ?_) (fun h18 => ?_)
      · refine o_unwanted rfl rfl rfl rfl rfl ?_
        refine o_unwanted rfl rfl rfl rfl rfl ?_
        refine o_pick_t rfl rfl ?_
        refine o_assign ?_
        first | refine g_endt ?_ | refine g_end ?_
        repeat (first | refine g_endt ?_ | refine g_end ?_ | refine g_then ?_ | refine g_in_normal ?_ | refine g_then_ret ?_ | refine g_in_ret ?_ | refine g_then_exit ?_ | refine g_in_exit rfl ?_ | refine g_in_exit_ne (by decide) ?_ | refine g_seq ?_ | refine g_region ?_ | refine g_block ?_ | refine g_ret ?_ | refine g_return_n ?_ | refine g_exit ?_ | refine g_skip ?_)
        refine ret1 rfl (resT rfl) ⟨congrArg Value.bool ?_, rfl⟩
        (rw [Bool.eq_iff_iff]; simp_all [partN, smallN, digitN] <;> omega)
      · refine o_want rfl rfl rfl rfl rfl <| o_move ?_
        refine o_want rfl rfl rfl rfl rfl <| o_eql rfl rfl ?_
        refine o_pick_f rfl rfl ?_
        refine o_assign ?_
        first | refine g_endt ?_ | refine g_end ?_
        repeat (first | refine g_endt ?_ | refine g_end ?_ | refine g_then ?_ | refine g_in_normal ?_ | refine g_then_ret ?_ | refine g_in_ret ?_ | refine g_then_exit ?_ | refine g_in_exit rfl ?_ | refine g_in_exit_ne (by decide) ?_ | refine g_seq ?_ | refine g_region ?_ | refine g_block ?_ | refine g_ret ?_ | refine g_return_n ?_ | refine g_exit ?_ | refine g_skip ?_)
        refine ret1 rfl (resT rfl) ⟨congrArg Value.bool ?_, rfl⟩
        (rw [Bool.eq_iff_iff]; simp_all [partN, smallN, digitN] <;> omega)
end Go.Proofs.Ytdpbjoldgiikkaa
/- What working memory is set to: the plain theory. -/
namespace Go.Proofs.Ytdpbjoldgiikkaa
open Go Go.Sl

/-- Is one that is one with it, and has its Goal, among these? -/
def staysD (l : List ElemD) (o : ElemD) : Bool := (getM ElemD.cmp l o).any fun x => x.goal == o.goal
def tagD : Int → List ElemD → List ElemD
  | _, [] => []
  | n, e :: l => { e with tag := n } :: tagD (n + 1) l
theorem tagD_len : ∀ (n : Int) (l : List ElemD), (tagD n l).length = l.length
  | _, [] => rfl
  | n, e :: l => by simp [tagD, tagD_len (n + 1) l]
theorem tagD_snoc : ∀ (n : Int) (l : List ElemD) (e : ElemD), tagD n (l ++ [e]) = tagD n l ++ [{ e with tag := n + l.length }]
  | n, [], e => by simp [tagD]
  | n, x :: l, e => by
    simp only [List.cons_append, tagD, tagD_snoc (n + 1) l e, List.length_cons]
    congr 4
    omega
theorem mem_tagD : ∀ {n : Int} {l : List ElemD} {z : ElemD}, z ∈ tagD n l → ∃ e ∈ l, ∃ t, z = { e with tag := t }
  | _, [], z, h => by cases h
  | n, e :: l, z, h => by
    rcases List.mem_cons.1 h with rfl | h
    · exact ⟨e, List.mem_cons_self, n, rfl⟩
    · obtain ⟨x, hx, t, r⟩ := mem_tagD h; exact ⟨x, List.mem_cons_of_mem _ hx, t, r⟩
def freshD (want ts : List ElemD) : List ElemD := want.filter fun e => !staysD ts e
def stayD (want ts : List ElemD) : List ElemD := ts.filter (staysD want)
def goneD (want ts : List ElemD) : List ElemD := ts.filter fun o => !staysD want o
def rem (ts gs : List ElemD) : List ElemD := ts.filter fun o => !(gs.any fun g => decide (o.tag = g.tag))
theorem rem_nil (ts : List ElemD) : rem ts [] = ts := by simp [rem]
theorem rem_snoc (ts gs : List ElemD) (g : ElemD) : rem ts (gs ++ [g]) = noTag (rem ts gs) g.tag := by
  unfold rem noTag
  rw [List.filter_filter]
  congr 1; funext o
  rw [List.any_append, Bool.not_or, Bool.and_comm]
  simp
theorem rem_gone {want ts : List ElemD} (ht : Tags ts) : rem ts (goneD want ts) = stayD want ts := by
  unfold rem stayD
  refine List.filter_congr fun o ho => ?_
  cases h : staysD want o with
  | true =>
    rw [Bool.not_eq_true', List.any_eq_false]
    intro g hg e
    have hg' := List.mem_filter.1 hg
    have := ht.eq ho hg'.1 (by simpa using e)
    subst this
    rw [h] at hg'; simp at hg'
  | false =>
    rw [Bool.not_eq_false', List.any_eq_true]
    exact ⟨o, List.mem_filter.2 ⟨ho, by rw [h]; rfl⟩, by simp⟩
theorem mem_rem {want ts : List ElemD} (ht : Tags ts) {i : Nat} {g : ElemD} (hg : (goneD want ts)[i]? = some g) : g ∈ rem ts ((goneD want ts).take i) := by
  unfold rem
  rw [List.mem_filter, Bool.not_eq_true', List.any_eq_false]
  refine ⟨(List.mem_filter.1 (List.mem_of_getElem? hg)).1, fun x hx e => ?_⟩
  have hT : Tags (goneD want ts) := ht.filter _
  obtain ⟨j, hj⟩ := List.mem_iff_getElem?.1 hx
  rw [List.getElem?_take] at hj
  split at hj
  · rename_i hji
    obtain ⟨h1, rfl⟩ := List.getElem?_eq_some_iff.1 hj
    obtain ⟨h2, rfl⟩ := List.getElem?_eq_some_iff.1 hg
    have := List.pairwise_iff_getElem.1 hT j i h1 h2 hji
    have e : (goneD want ts)[i].tag = (goneD want ts)[j].tag := by simpa using e
    omega
  · cases hj
theorem getM_uniq {ts : List ElemD} (hu : ∀ a ∈ ts, ∀ b ∈ ts, a.cmp b = 0 → a = b) {o x : ElemD} (ho : o ∈ ts) (h : o.cmp x = 0) : getM ElemD.cmp ts x = some o := by
  cases hg : getM ElemD.cmp ts x with
  | none =>
    have : hasC ElemD.cmp ts x = false := by rw [← getM_isSome, hg]; rfl
    have := List.any_eq_false.1 (show ts.any (fun y => decide (y.cmp x = 0)) = false from this) o ho
    exact absurd (decide_eq_true h) this
  | some y =>
    obtain ⟨h1, h2⟩ := getM_mem hg
    rw [hu y h1 o ho (by
      have e1 := ElemD.cmp_iff.1 h2
      have e2 := ElemD.cmp_iff.1 h
      exact ElemD.cmp_iff.2 ⟨e1.1.trans e2.1.symm, e1.2.1.trans e2.2.1.symm, e1.2.2.1.trans e2.2.2.1.symm, e1.2.2.2.trans e2.2.2.2.symm⟩)]
theorem StI.uniq {next : Int} {ts ys : List ElemD} (h : StI next ts ys) : ∀ a ∈ ts, ∀ b ∈ ts, a.cmp b = 0 → a = b := fun a ha b hb e =>
  h.srt.uniq linElem (h.perm.mem_iff.2 ha) (h.perm.mem_iff.2 hb) e
theorem srt_uniq {ys : List ElemD} (h : Srt ElemD.cmp ys) : ∀ a ∈ ys, ∀ b ∈ ys, a.cmp b = 0 → a = b := fun _ ha _ hb e => h.uniq linElem ha hb e
theorem ecmp_comm {a b : ElemD} (h : a.cmp b = 0) : b.cmp a = 0 := ElemD.cmp_iff.2 (by obtain ⟨h1, h2, h3, h4⟩ := ElemD.cmp_iff.1 h; exact ⟨h1.symm, h2.symm, h3.symm, h4.symm⟩)
theorem stay_has {next : Int} {want ts ys : List ElemD} (hw : Srt ElemD.cmp want) (h : StI next ts ys) {x : ElemD} (hx : x ∈ want) : hasC ElemD.cmp (stayD want ts) x = staysD ts x := by
  have key : ∀ o ∈ ts, o.cmp x = 0 → staysD want o = (x.goal == o.goal) ∧ staysD ts x = (o.goal == x.goal) := fun o ho hc => by
    unfold staysD
    rw [getM_uniq (srt_uniq hw) hx (ecmp_comm hc), getM_uniq h.uniq ho hc]
    exact ⟨rfl, rfl⟩
  rw [Bool.eq_iff_iff]
  unfold hasC
  rw [List.any_eq_true]
  constructor
  · rintro ⟨o, ho, hc⟩
    obtain ⟨h1, h2⟩ := List.mem_filter.1 ho
    obtain ⟨k1, k2⟩ := key o h1 (of_decide_eq_true hc)
    rw [k2]; rw [k1] at h2
    simp only [beq_iff_eq] at h2 ⊢; exact h2.symm
  · intro hs
    cases hg : getM ElemD.cmp ts x with
    | none => unfold staysD at hs; rw [hg] at hs; cases hs
    | some o =>
      obtain ⟨h1, h2⟩ := getM_mem hg
      obtain ⟨k1, k2⟩ := key o h1 h2
      refine ⟨o, List.mem_filter.2 ⟨h1, ?_⟩, decide_eq_true h2⟩
      rw [k1]; rw [k2] at hs
      simp only [beq_iff_eq] at hs ⊢; exact hs.symm
theorem pre_ltE {c pre : List ElemD} {a : ElemD} (hs : Srt ElemD.cmp c) (hp : (pre ++ [a]) <+: c) : ∀ z ∈ pre, z.cmp a < 0 := fun z hz => by
  obtain ⟨t, rfl⟩ := hp
  obtain ⟨i, hi⟩ := List.mem_iff_getElem?.1 hz
  have hil := (List.getElem?_eq_some_iff.1 hi).1
  exact hs i pre.length z a hil (by rw [List.append_assoc, List.getElem?_append_left hil]; exact hi) (by rw [List.append_assoc, List.getElem?_append_right (Nat.le_refl _)]; simp)
theorem new_has {next n : Int} {want ts ys pre : List ElemD} {x : ElemD} (hw : Srt ElemD.cmp want) (h : StI next ts ys) (hp : (pre ++ [x]) <+: want) : hasC ElemD.cmp (stayD want ts ++ tagD n (freshD pre ts)) x = staysD ts x := by
  have hx : x ∈ want := hp.subset (by simp)
  rw [← stay_has hw h hx]
  unfold hasC
  rw [List.any_append, Bool.or_eq_left_iff_imp]
  intro h2
  exfalso
  obtain ⟨z, hz, hc⟩ := List.any_eq_true.1 h2
  obtain ⟨e, he, t, rfl⟩ := mem_tagD hz
  have := pre_ltE hw hp e (List.mem_filter.1 he).1
  have hc : ElemD.cmp { e with tag := t } x = 0 := of_decide_eq_true hc
  have e2 : ElemD.cmp { e with tag := t } x = e.cmp x := rfl
  omega
theorem fresh_snoc (pre ts : List ElemD) (x : ElemD) : freshD (pre ++ [x]) ts = freshD pre ts ++ (if staysD ts x then [] else [x]) := by
  unfold freshD
  rw [List.filter_append]
  cases h : staysD ts x <;> simp [h]
theorem gone_snoc (want pre : List ElemD) (x : ElemD) : goneD want (pre ++ [x]) = goneD want pre ++ (if staysD want x then [] else [x]) := by
  unfold goneD
  rw [List.filter_append]
  cases h : staysD want x <;> simp [h]
structure RD where
  added : List ElemD
  gone : List ElemD
  err : Int
  next : Int
  ts : List ElemD
def setD (room next : Int) (ts l : List ElemD) : RD :=
  if l.all validE = false then ⟨[], [], 9, next, ts⟩
  else if room < ((sortE l).length : Int) then ⟨[], [], 23, next, ts⟩
  else ⟨tagD next (freshD (sortE l) ts), goneD (sortE l) ts, 0, next + (freshD (sortE l) ts).length, stayD (sortE l) ts ++ tagD next (freshD (sortE l) ts)⟩
end Go.Proofs.Ytdpbjoldgiikkaa
/- An ordered set's functions, for one type of members: told in order; made; how many; at a place. -/
namespace Go.Proofs.Ytdpbjoldgiikkaa
open Go Go.Sl
attribute [local irreducible] Code.wpIn roundPost bodyPostM runL Ret Meets Begin

theorem fromTE_spec (p k : Nat) (ys : List PgTE) (hl : ys.length < 1000000000) (hk : k ≤ ys.length) (l : Nat) (J Jx : List PgTE → List SProp) {M : List SProp} [tk : Take1 (J []) (SetATE p ys) M]
    (hy : ∀ pre x, (pre ++ [x]) <+: ys.drop k → Sl.Yields Try.prog l (PgTE.enc' x) (J pre) (J (pre ++ [x])) (Jx (pre ++ [x]))) :
    Ctr Try.prog 81 [.pointer (some ⟨p, 0, none⟩), .int .i64 (k : Int), .func (.yield l) #[] #[]] (J []) (fun _ L' => L' = J (ys.drop k) ∨ ∃ pre, pre <+: ys.drop k ∧ L' = Jx pre) := by
  refine spec_of Try.func81 rfl Try.ntmps81 rfl fun w0 F => ?_
  repeat (first | refine g_endt ?_ | refine g_end ?_ | refine g_then ?_ | refine g_in_normal ?_ | refine g_then_ret ?_ | refine g_in_ret ?_ | refine g_then_exit ?_ | refine g_in_exit rfl ?_ | refine g_in_exit_ne (by decide) ?_ | refine g_seq ?_ | refine g_region ?_ | refine g_block ?_ | refine g_ret ?_ | refine g_return_n ?_ | refine g_exit ?_ | refine g_skip ?_)
  refine openTE p ys fun S c b => ?_
  refine o_move ?_
  refine o_nil rfl ?_
  refine o_field rfl ?_
  refine o_store (v := .bool true) rfl rfl rfl rfl rfl ?_
  refine g_endt ?_
  refine G.norm p #[.slice S ys.length c, .bool true] rfl ?_
  refine G.bring [row 101 PgTE.enc 13 b S c ys] ?_
  refine G.see1 ?_
  repeat (first | refine g_endt ?_ | refine g_end ?_ | refine g_then ?_ | refine g_in_normal ?_ | refine g_then_ret ?_ | refine g_in_ret ?_ | refine g_then_exit ?_ | refine g_in_exit rfl ?_ | refine g_in_exit_ne (by decide) ?_ | refine g_seq ?_ | refine g_region ?_ | refine g_block ?_ | refine g_ret ?_ | refine g_return_n ?_ | refine g_exit ?_ | refine g_skip ?_)
  refine o_move ?_
  refine o_nil rfl ?_
  refine o_field rfl ?_
  refine o_load1 (v := .slice S ys.length c) rfl rfl ?_
  refine o_assign ?_
  refine g_endt ?_
  refine G.dup (psl PgTE.enc 13 S ys) ?_
  refine shutTTE p ys S c rfl ?_
  repeat (first | refine g_endt ?_ | refine g_end ?_ | refine g_then ?_ | refine g_in_normal ?_ | refine g_then_ret ?_ | refine g_in_ret ?_ | refine g_then_exit ?_ | refine g_in_exit rfl ?_ | refine g_in_exit_ne (by decide) ?_ | refine g_seq ?_ | refine g_region ?_ | refine g_block ?_ | refine g_ret ?_ | refine g_return_n ?_ | refine g_exit ?_ | refine g_skip ?_)
  refine o_move ?_
  refine o_assign ?_
  first | refine g_endt ?_ | refine g_end ?_
  repeat (first | refine g_endt ?_ | refine g_end ?_ | refine g_then ?_ | refine g_in_normal ?_ | refine g_then_ret ?_ | refine g_in_ret ?_ | refine g_then_exit ?_ | refine g_in_exit rfl ?_ | refine g_in_exit_ne (by decide) ?_ | refine g_seq ?_ | refine g_region ?_ | refine g_block ?_ | refine g_ret ?_ | refine g_return_n ?_ | refine g_exit ?_ | refine g_skip ?_)
  refine g_loop (σ := {i : Nat // k ≤ i ∧ i ≤ ys.length}) (S := fun i => [(2, .func (.yield l) #[] #[]), (6, .slice S ys.length c), (7, .int .i64 (i.1 : Int))])
    (H := fun i => psl PgTE.enc 13 S ys :: J ((ys.drop k).take (i.1 - k))) (μ := fun i => ys.length - i.1) (s0 := ⟨k, Nat.le_refl _, hk⟩) (Sat.mem ⟨rfl, rfl, rfl, trivial⟩)
    (t := by simp only [Nat.sub_self, List.take_zero]; exact Take.setback) ?_
  rintro ⟨i, h1, h2⟩ ρ'
  dsimp only at h1 h2 ⊢
  repeat (first | refine g_endt ?_ | refine g_end ?_ | refine g_then ?_ | refine g_in_normal ?_ | refine g_then_ret ?_ | refine g_in_ret ?_ | refine g_then_exit ?_ | refine g_in_exit rfl ?_ | refine g_in_exit_ne (by decide) ?_ | refine g_seq ?_ | refine g_region ?_ | refine g_block ?_ | refine g_ret ?_ | refine g_return_n ?_ | refine g_exit ?_ | refine g_skip ?_)
  refine o_move ?_
  refine o_move ?_
  refine o_len rfl rfl ?_
  refine o_lss rfl rfl ?_
  first | refine g_endt ?_ | refine g_end ?_
  by_cases h : i < ys.length
  · first | refine g_seq (g_cond_t rfl (by simpa using h) ?_) | refine g_cond_t rfl (by simpa using h) ?_
    repeat (first | refine g_endt ?_ | refine g_end ?_ | refine g_then ?_ | refine g_in_normal ?_ | refine g_then_ret ?_ | refine g_in_ret ?_ | refine g_then_exit ?_ | refine g_in_exit rfl ?_ | refine g_in_exit_ne (by decide) ?_ | refine g_seq ?_ | refine g_region ?_ | refine g_block ?_ | refine g_ret ?_ | refine g_return_n ?_ | refine g_exit ?_ | refine g_skip ?_)
    obtain ⟨y, hz⟩ : ∃ y, ys[i]? = some y := ⟨_, List.getElem?_eq_getElem h⟩
    have ht : (ys.drop k).take (i + 1 - k) = (ys.drop k).take (i - k) ++ [y] := by
      rw [show i + 1 - k = (i - k) + 1 by omega]
      exact take_snocPTE _ _ _ (by rw [List.getElem?_drop, show k + (i - k) = i by omega, hz])
    have hp : ((ys.drop k).take (i - k) ++ [y]) <+: ys.drop k := ⟨(ys.drop k).drop (i + 1 - k), by rw [← ht, List.take_append_drop]⟩
    refine o_move ?_
    refine o_move ?_
    refine o_move ?_
    refine o_indexR (i := i) rfl rfl rfl h rfl rfl ?_
    refine o_loadE (enc := PgTE.enc) rfl rfl hz ?_
    refine o_yield (hy _ y hp) rfl rfl ?_ ?_
    · refine o_not rfl ?_
      refine g_endt ?_
      refine g_cond_f rfl rfl ?_
      repeat (first | refine g_endt ?_ | refine g_end ?_ | refine g_then ?_ | refine g_in_normal ?_ | refine g_then_ret ?_ | refine g_in_ret ?_ | refine g_then_exit ?_ | refine g_in_exit rfl ?_ | refine g_in_exit_ne (by decide) ?_ | refine g_seq ?_ | refine g_region ?_ | refine g_block ?_ | refine g_ret ?_ | refine g_return_n ?_ | refine g_exit ?_ | refine g_skip ?_)
      refine o_move ?_
      refine o_add (c := ((i + 1 : Nat) : Int)) rfl rfl (by omega) (by omega) (by omega) ?_
      refine o_assign ?_
      refine g_endt ?_
      repeat (first | refine g_endt ?_ | refine g_end ?_ | refine g_then ?_ | refine g_in_normal ?_ | refine g_then_ret ?_ | refine g_in_ret ?_ | refine g_then_exit ?_ | refine g_in_exit rfl ?_ | refine g_in_exit_ne (by decide) ?_ | refine g_seq ?_ | refine g_region ?_ | refine g_block ?_ | refine g_ret ?_ | refine g_return_n ?_ | refine g_exit ?_ | refine g_skip ?_)
      exact g_meets ⟨i + 1, by omega, h⟩ (by show ys.length - (i + 1) < ys.length - i; omega) (Sat.mem ⟨rfl, rfl, rfl, trivial⟩) (t := by rw [ht]; infer_instance)
    · refine o_not rfl ?_
      refine g_endt ?_
      refine g_cond_t rfl rfl ?_
      repeat (first | refine g_endt ?_ | refine g_end ?_ | refine g_then ?_ | refine g_in_normal ?_ | refine g_then_ret ?_ | refine g_in_ret ?_ | refine g_then_exit ?_ | refine g_in_exit rfl ?_ | refine g_in_exit_ne (by decide) ?_ | refine g_seq ?_ | refine g_region ?_ | refine g_block ?_ | refine g_ret ?_ | refine g_return_n ?_ | refine g_exit ?_ | refine g_skip ?_)
      exact ret0 rfl (.inr ⟨_, hp, rfl⟩)
  · first | refine g_seq (g_cond_f rfl (by simpa using h) ?_) | refine g_cond_f rfl (by simpa using h) ?_
    repeat (first | refine g_endt ?_ | refine g_end ?_ | refine g_then ?_ | refine g_in_normal ?_ | refine g_then_ret ?_ | refine g_in_ret ?_ | refine g_then_exit ?_ | refine g_in_exit rfl ?_ | refine g_in_exit_ne (by decide) ?_ | refine g_seq ?_ | refine g_region ?_ | refine g_block ?_ | refine g_ret ?_ | refine g_return_n ?_ | refine g_exit ?_ | refine g_skip ?_)
    have he : (ys.drop k).take (i - k) = ys.drop k := List.take_of_length_le (by simp; omega)
    exact ret0 (K := J ((ys.drop k).take (i - k))) rfl (.inl (by rw [he]))
theorem All1TE_iter (p b : Nat) (ys : List PgTE) (hl : ys.length < 1000000000) (J0 : List SProp) {M : List SProp} [tk : Take1 J0 (SetATE p ys) M] [HasP J0 (pblk b (.cells #[.pointer (some ⟨p, 0, none⟩)] 96 (0, 0)))] :
    Iter Try.prog 80 [.pointer (some ⟨b, 0, none⟩)] PgTE.enc' ys J0 := by
  intro l J Jx hJ hy
  subst hJ
  refine spec_of Try.func80 rfl Try.ntmps80 rfl fun w0 F => ?_
  refine G.dup (pblk b (.cells #[.pointer (some ⟨p, 0, none⟩)] 96 (0, 0))) ?_
  repeat (first | refine g_endt ?_ | refine g_end ?_ | refine g_then ?_ | refine g_in_normal ?_ | refine g_then_ret ?_ | refine g_in_ret ?_ | refine g_then_exit ?_ | refine g_in_exit rfl ?_ | refine g_in_exit_ne (by decide) ?_ | refine g_seq ?_ | refine g_region ?_ | refine g_block ?_ | refine g_ret ?_ | refine g_return_n ?_ | refine g_exit ?_ | refine g_skip ?_)
  refine o_load1 (v := .pointer (some ⟨p, 0, none⟩)) rfl rfl ?_
  refine o_pneq rfl ?_
  refine g_endt ?_
  first | refine g_seq (g_cond_t rfl (rfl) ?_) | refine g_cond_t rfl (rfl) ?_
  repeat (first | refine g_endt ?_ | refine g_end ?_ | refine g_then ?_ | refine g_in_normal ?_ | refine g_then_ret ?_ | refine g_in_ret ?_ | refine g_then_exit ?_ | refine g_in_exit rfl ?_ | refine g_in_exit_ne (by decide) ?_ | refine g_seq ?_ | refine g_region ?_ | refine g_block ?_ | refine g_ret ?_ | refine g_return_n ?_ | refine g_exit ?_ | refine g_skip ?_)
  refine o_load1 (v := .pointer (some ⟨p, 0, none⟩)) rfl rfl ?_
  refine o_move ?_
  refine o_call (fromTE_spec p 0 ys hl (Nat.zero_le _) l J Jx (by simpa using hy)) rfl rfl ?_
  intro v L' hR
  repeat (first | refine g_endt ?_ | refine g_end ?_ | refine g_then ?_ | refine g_in_normal ?_ | refine g_then_ret ?_ | refine g_in_ret ?_ | refine g_then_exit ?_ | refine g_in_exit rfl ?_ | refine g_in_exit_ne (by decide) ?_ | refine g_seq ?_ | refine g_region ?_ | refine g_block ?_ | refine g_ret ?_ | refine g_return_n ?_ | refine g_exit ?_ | refine g_skip ?_)
  exact ret0 (K := L') rfl (by simpa using hR)
theorem AllTE_spec (p : Nat) : Ctr Try.prog 64 [.pointer (some ⟨p, 0, none⟩)] []
    (fun v M => ∃ b, v = .func (.func 80) #[] #[.pointer (some ⟨b, 0, none⟩)] ∧ M = [pblk b (.cells #[.pointer (some ⟨p, 0, none⟩)] 96 (0, 0))]) := by
  refine spec_of Try.func64 rfl Try.ntmps64 rfl fun w0 F => ?_
  repeat (first | refine g_endt ?_ | refine g_end ?_ | refine g_then ?_ | refine g_in_normal ?_ | refine g_then_ret ?_ | refine g_in_ret ?_ | refine g_then_exit ?_ | refine g_in_exit rfl ?_ | refine g_in_exit_ne (by decide) ?_ | refine g_seq ?_ | refine g_region ?_ | refine g_block ?_ | refine g_ret ?_ | refine g_return_n ?_ | refine g_exit ?_ | refine g_skip ?_)
  refine o_boxc #[.pointer (some ⟨p, 0, none⟩)] rfl rfl fun b => ?_
  refine G.freeze ?_
  refine o_assign ?_
  first | refine g_endt ?_ | refine g_end ?_
  repeat (first | refine g_endt ?_ | refine g_end ?_ | refine g_then ?_ | refine g_in_normal ?_ | refine g_then_ret ?_ | refine g_in_ret ?_ | refine g_then_exit ?_ | refine g_in_exit rfl ?_ | refine g_in_exit_ne (by decide) ?_ | refine g_seq ?_ | refine g_region ?_ | refine g_block ?_ | refine g_ret ?_ | refine g_return_n ?_ | refine g_exit ?_ | refine g_skip ?_)
  refine o_func ?_
  refine o_assign ?_
  first | refine g_endt ?_ | refine g_end ?_
  repeat (first | refine g_endt ?_ | refine g_end ?_ | refine g_then ?_ | refine g_in_normal ?_ | refine g_then_ret ?_ | refine g_in_ret ?_ | refine g_then_exit ?_ | refine g_in_exit rfl ?_ | refine g_in_exit_ne (by decide) ?_ | refine g_seq ?_ | refine g_region ?_ | refine g_block ?_ | refine g_ret ?_ | refine g_return_n ?_ | refine g_exit ?_ | refine g_skip ?_)
  exact ret1 rfl (resT rfl) ⟨b, rfl, rfl⟩
end Go.Proofs.Ytdpbjoldgiikkaa
/- An ordered map's functions, for one type of keys and one of values: told in order. -/
namespace Go.Proofs.Ytdpbjoldgiikkaa
open Go Go.Sl
attribute [local irreducible] Code.wpIn roundPost bodyPostM runL Ret Meets Begin

theorem AllM1TE_iter (m b : Nat) (ys : List PgTE) (hl : ys.length < 1000000000) (J0 : List SProp) {M : List SProp} [tk : Take1 J0 (MapATE m ys) M] [HasP J0 (pblk b (.cells #[.pointer (some ⟨m, 0, none⟩)] 70 (0, 0)))] :
    Iter Try.prog 63 [.pointer (some ⟨b, 0, none⟩)] PgTE.enc2 ys J0 := by
  intro l J Jx hJ hy
  subst hJ
  refine spec_of Try.func63 rfl Try.ntmps63 rfl fun w0 F => ?_
  refine G.dup (pblk b (.cells #[.pointer (some ⟨m, 0, none⟩)] 70 (0, 0))) ?_
  repeat (first | refine g_endt ?_ | refine g_end ?_ | refine g_then ?_ | refine g_in_normal ?_ | refine g_then_ret ?_ | refine g_in_ret ?_ | refine g_then_exit ?_ | refine g_in_exit rfl ?_ | refine g_in_exit_ne (by decide) ?_ | refine g_seq ?_ | refine g_region ?_ | refine g_block ?_ | refine g_ret ?_ | refine g_return_n ?_ | refine g_exit ?_ | refine g_skip ?_)
  refine o_boxc #[.func (.yield l) #[] #[]] rfl rfl fun q => ?_
  refine g_endt ?_
  repeat (first | refine g_endt ?_ | refine g_end ?_ | refine g_then ?_ | refine g_in_normal ?_ | refine g_then_ret ?_ | refine g_in_ret ?_ | refine g_then_exit ?_ | refine g_in_exit rfl ?_ | refine g_in_exit_ne (by decide) ?_ | refine g_seq ?_ | refine g_region ?_ | refine g_block ?_ | refine g_ret ?_ | refine g_return_n ?_ | refine g_exit ?_ | refine g_skip ?_)
  refine o_load1 (v := .pointer (some ⟨m, 0, none⟩)) rfl rfl ?_
  refine o_peql rfl ?_
  refine g_endt ?_
  first | refine g_seq (g_cond_f rfl (rfl) ?_) | refine g_cond_f rfl (rfl) ?_
  repeat (first | refine g_endt ?_ | refine g_end ?_ | refine g_then ?_ | refine g_in_normal ?_ | refine g_then_ret ?_ | refine g_in_ret ?_ | refine g_then_exit ?_ | refine g_in_exit rfl ?_ | refine g_in_exit_ne (by decide) ?_ | refine g_seq ?_ | refine g_region ?_ | refine g_block ?_ | refine g_ret ?_ | refine g_return_n ?_ | refine g_exit ?_ | refine g_skip ?_)
  refine openMTE m ys fun p => ?_
  refine o_load1 (v := .pointer (some ⟨m, 0, none⟩)) rfl rfl ?_
  refine o_nil rfl ?_
  refine o_field rfl ?_
  refine o_load1 (v := .pointer (some ⟨p, 0, none⟩)) rfl rfl ?_
  refine o_call (AllTE_spec p) rfl rfl ?_
  rintro _ _ ⟨b2, rfl, rfl⟩
  refine g_endt ?_
  repeat (first | refine g_endt ?_ | refine g_end ?_ | refine g_then ?_ | refine g_in_normal ?_ | refine g_then_ret ?_ | refine g_in_ret ?_ | refine g_then_exit ?_ | refine g_in_exit rfl ?_ | refine g_in_exit_ne (by decide) ?_ | refine g_seq ?_ | refine g_region ?_ | refine g_block ?_ | refine g_ret ?_ | refine g_return_n ?_ | refine g_exit ?_ | refine g_skip ?_)
  have hO : Ent (sl (SetATE p ys :: cellsB m #[.pointer (some ⟨p, 0, none⟩)] 98 :: M)) (sl (J [])) := MapATE_of m p ys
  refine g_range (ps := [11]) (lb := [.pointer (some ⟨b2, 0, none⟩)]) (enc := PgTE.enc') (xs := ys) rfl
    (fun pre => cellsB q #[.func (.yield l) #[] #[]] 93 :: pblk b2 (.cells #[.pointer (some ⟨p, 0, none⟩)] 96 (0, 0)) :: Jin (SetATE p ys :: cellsB m #[.pointer (some ⟨p, 0, none⟩)] 98 :: M) J pre)
    (fun c pre => pu (c = .ret) :: Jx pre)
    (fun K => All1TE_iter p b2 ys hl (K :: cellsB q #[.func (.yield l) #[] #[]] 93 :: pblk b2 (.cells #[.pointer (some ⟨p, 0, none⟩)] 96 (0, 0)) :: SetATE p ys :: cellsB m #[.pointer (some ⟨p, 0, none⟩)] 98 :: M))
    (fun _ => rfl) (tk := (inferInstance : Take _ (cellsB q #[.func (.yield l) #[] #[]] 93 :: pblk b2 (.cells #[.pointer (some ⟨p, 0, none⟩)] 96 (0, 0)) :: SetATE p ys :: cellsB m #[.pointer (some ⟨p, 0, none⟩)] 98 :: M) _)) ?_ ?_ ?_
  · intro w0 F l' r pre x hp
    refine G.ent (L' := cellsB q #[.func (.yield l) #[] #[]] 93 :: pblk b2 (.cells #[.pointer (some ⟨p, 0, none⟩)] 96 (0, 0)) :: J pre) ((Ent.refl _).star ((Ent.refl _).star (Jin_ent hO pre))) ?_
    repeat (first | refine g_endt ?_ | refine g_end ?_ | refine g_then ?_ | refine g_in_normal ?_ | refine g_then_ret ?_ | refine g_in_ret ?_ | refine g_then_exit ?_ | refine g_in_exit rfl ?_ | refine g_in_exit_ne (by decide) ?_ | refine g_seq ?_ | refine g_region ?_ | refine g_block ?_ | refine g_ret ?_ | refine g_return_n ?_ | refine g_exit ?_ | refine g_skip ?_)
    refine o_alloc fun c => ?_
    refine o_store (v := x.val) rfl rfl rfl rfl rfl ?_
    refine g_endt ?_
    refine G.norm c x.val.cells rfl ?_
    repeat (first | refine g_endt ?_ | refine g_end ?_ | refine g_then ?_ | refine g_in_normal ?_ | refine g_then_ret ?_ | refine g_in_ret ?_ | refine g_then_exit ?_ | refine g_in_exit rfl ?_ | refine g_in_exit_ne (by decide) ?_ | refine g_seq ?_ | refine g_region ?_ | refine g_block ?_ | refine g_ret ?_ | refine g_return_n ?_ | refine g_exit ?_ | refine g_skip ?_)
    refine g_begin ?_
    repeat (first | refine g_endt ?_ | refine g_end ?_ | refine g_then ?_ | refine g_in_normal ?_ | refine g_then_ret ?_ | refine g_in_ret ?_ | refine g_then_exit ?_ | refine g_in_exit rfl ?_ | refine g_in_exit_ne (by decide) ?_ | refine g_seq ?_ | refine g_region ?_ | refine g_block ?_ | refine g_ret ?_ | refine g_return_n ?_ | refine g_exit ?_ | refine g_skip ?_)
    refine o_load1 (v := .func (.yield l) #[] #[]) rfl rfl ?_
    refine o_field rfl ?_
    refine o_load1 (v := x.k.val) rfl rfl ?_
    refine o_field rfl ?_
    refine o_loadN (v := PgTE.vval x.v) rfl rfl rfl ?_
    refine o_yield (hy pre x hp) rfl rfl ?_ ?_
    · refine o_not rfl ?_
      refine g_endt ?_
      first | refine g_seq (g_cond_f rfl (rfl) ?_) | refine g_cond_f rfl (rfl) ?_
      repeat (first | refine g_endt ?_ | refine g_end ?_ | refine g_then ?_ | refine g_in_normal ?_ | refine g_then_ret ?_ | refine g_in_ret ?_ | refine g_then_exit ?_ | refine g_in_exit rfl ?_ | refine g_in_exit_ne (by decide) ?_ | refine g_seq ?_ | refine g_region ?_ | refine g_block ?_ | refine g_ret ?_ | refine g_return_n ?_ | refine g_exit ?_ | refine g_skip ?_)
      exact g_next (tk := by rw [Jin_snoc]; infer_instance)
    · refine o_not rfl ?_
      refine g_endt ?_
      first | refine g_seq (g_cond_t rfl (rfl) ?_) | refine g_cond_t rfl (rfl) ?_
      repeat (first | refine g_endt ?_ | refine g_end ?_ | refine g_then ?_ | refine g_in_normal ?_ | refine g_then_ret ?_ | refine g_in_ret ?_ | refine g_then_exit ?_ | refine g_in_exit rfl ?_ | refine g_in_exit_ne (by decide) ?_ | refine g_seq ?_ | refine g_region ?_ | refine g_block ?_ | refine g_ret ?_ | refine g_return_n ?_ | refine g_exit ?_ | refine g_skip ?_)
      refine G.pu_in (q := Code.ret = Code.ret) rfl ?_
      exact g_leave_ret
  · intro D
    refine G.ent (L' := cellsB q #[.func (.yield l) #[] #[]] 93 :: pblk b2 (.cells #[.pointer (some ⟨p, 0, none⟩)] 96 (0, 0)) :: J ys) ((Ent.refl _).star ((Ent.refl _).star (Jin_ent hO ys))) ?_
    repeat (first | refine g_endt ?_ | refine g_end ?_ | refine g_then ?_ | refine g_in_normal ?_ | refine g_then_ret ?_ | refine g_in_ret ?_ | refine g_then_exit ?_ | refine g_in_exit rfl ?_ | refine g_in_exit_ne (by decide) ?_ | refine g_seq ?_ | refine g_region ?_ | refine g_block ?_ | refine g_ret ?_ | refine g_return_n ?_ | refine g_exit ?_ | refine g_skip ?_)
    exact ret0 (K := J ys) rfl (.inl rfl)
  · intro D c pre hp
    refine G.pu fun h => ?_
    subst h
    repeat (first | refine g_endt ?_ | refine g_end ?_ | refine g_then ?_ | refine g_in_normal ?_ | refine g_then_ret ?_ | refine g_in_ret ?_ | refine g_then_exit ?_ | refine g_in_exit rfl ?_ | refine g_in_exit_ne (by decide) ?_ | refine g_seq ?_ | refine g_region ?_ | refine g_block ?_ | refine g_ret ?_ | refine g_return_n ?_ | refine g_exit ?_ | refine g_skip ?_)
    exact ret0 (K := Jx pre) rfl (.inr ⟨pre, hp, rfl⟩)
theorem AllMTE_spec (m : Nat) : Ctr Try.prog 41 [.pointer (some ⟨m, 0, none⟩)] []
    (fun v M => ∃ b, v = .func (.func 63) #[] #[.pointer (some ⟨b, 0, none⟩)] ∧ M = [pblk b (.cells #[.pointer (some ⟨m, 0, none⟩)] 70 (0, 0))]) := by
  refine spec_of Try.func41 rfl Try.ntmps41 rfl fun w0 F => ?_
  repeat (first | refine g_endt ?_ | refine g_end ?_ | refine g_then ?_ | refine g_in_normal ?_ | refine g_then_ret ?_ | refine g_in_ret ?_ | refine g_then_exit ?_ | refine g_in_exit rfl ?_ | refine g_in_exit_ne (by decide) ?_ | refine g_seq ?_ | refine g_region ?_ | refine g_block ?_ | refine g_ret ?_ | refine g_return_n ?_ | refine g_exit ?_ | refine g_skip ?_)
  refine o_boxc #[.pointer (some ⟨m, 0, none⟩)] rfl rfl fun b => ?_
  refine G.freeze ?_
  refine o_assign ?_
  first | refine g_endt ?_ | refine g_end ?_
  repeat (first | refine g_endt ?_ | refine g_end ?_ | refine g_then ?_ | refine g_in_normal ?_ | refine g_then_ret ?_ | refine g_in_ret ?_ | refine g_then_exit ?_ | refine g_in_exit rfl ?_ | refine g_in_exit_ne (by decide) ?_ | refine g_seq ?_ | refine g_region ?_ | refine g_block ?_ | refine g_ret ?_ | refine g_return_n ?_ | refine g_exit ?_ | refine g_skip ?_)
  refine o_func ?_
  refine o_assign ?_
  first | refine g_endt ?_ | refine g_end ?_
  repeat (first | refine g_endt ?_ | refine g_end ?_ | refine g_then ?_ | refine g_in_normal ?_ | refine g_then_ret ?_ | refine g_in_ret ?_ | refine g_then_exit ?_ | refine g_in_exit rfl ?_ | refine g_in_exit_ne (by decide) ?_ | refine g_seq ?_ | refine g_region ?_ | refine g_block ?_ | refine g_ret ?_ | refine g_return_n ?_ | refine g_exit ?_ | refine g_skip ?_)
  exact ret1 rfl (resT rfl) ⟨b, rfl, rfl⟩
end Go.Proofs.Ytdpbjoldgiikkaa
/- Words and symbols, elements: which are right. -/
namespace Go.Proofs.Ytdpbjoldgiikkaa
open Go Go.Sl
attribute [local irreducible] Code.wpIn roundPost bodyPostM runL Ret Meets Begin

/-- The head of a word: its length, its first letter. -/
def headS (s : ByteArray) : Bool := decide (1 ≤ s.size) && decide (s.size ≤ 32) && smallN (byteN s 0)
theorem wordS_head (s : ByteArray) : wordS s = (headS s && (List.range s.size).all fun i => partN (byteN s i)) := rfl
theorem range_all {n : Nat} {p : Nat → Bool} (h : ∀ i, i < n → p i = true) : (List.range n).all p = true := List.all_eq_true.2 fun i hi => h i (List.mem_range.1 hi)
theorem range_not {n i : Nat} {p : Nat → Bool} (hi : i < n) (h : p i = false) : (List.range n).all p = false := by
  cases hc : (List.range n).all p with
  | false => rfl
  | true => rw [List.all_eq_true.1 hc i (List.mem_range.2 hi)] at h; cases h
theorem Word_spec (s : ByteArray) (hb : s.size ≤ 4611686018427387904) : Ctr Try.prog 73 [.string s] [] (fun v M => v = .bool (wordS s) ∧ M = []) := by
  refine spec_of Try.func73 rfl Try.ntmps73 rfl fun w0 F => ?_
  -- ponder/sym.Word
  repeat (first | refine g_endt ?_ | refine g_end ?_ | refine g_then ?_ | refine g_in_normal ?_ | refine g_then_ret ?_ | refine g_in_ret ?_ | refine g_then_exit ?_ | refine g_in_exit rfl ?_ | refine g_in_exit_ne (by decide) ?_ | refine g_seq ?_ | refine g_region ?_ | refine g_block ?_ | refine g_ret ?_ | refine g_return_n ?_ | refine g_exit ?_ | refine g_skip ?_)
  refine o_assign ?_
  first | refine g_endt ?_ | refine g_end ?_
  repeat (first | refine g_endt ?_ | refine g_end ?_ | refine g_then ?_ | refine g_in_normal ?_ | refine g_then_ret ?_ | refine g_in_ret ?_ | refine g_then_exit ?_ | refine g_in_exit rfl ?_ | refine g_in_exit_ne (by decide) ?_ | refine g_seq ?_ | refine g_block ?_ | refine g_ret ?_ | refine g_return_n ?_ | refine g_exit ?_ | refine g_skip ?_)
  refine g_cutk (σ := Unit) (ds' := []) (S := fun _ => [(0, .string s), (17, .bool (!headS s))]) (H := fun _ => []) (ok := fun _ => True) ?_ ?_
  · skip
    repeat (first | refine g_endt ?_ | refine g_end ?_ | refine g_then ?_ | refine g_in_normal ?_ | refine g_then_ret ?_ | refine g_in_ret ?_ | refine g_then_exit ?_ | refine g_in_exit rfl ?_ | refine g_in_exit_ne (by decide) ?_ | refine g_seq ?_ | refine g_region ?_ | refine g_block ?_ | refine g_ret ?_ | refine g_return_n ?_ | refine g_exit ?_ | refine g_skip ?_)
    refine o_move ?_
    refine o_slen rfl rfl (by kernel_rfl) ?_
    refine o_lss rfl rfl ?_
    refine o_moveB rfl (fun h3 => ?_) (fun h3 => ?_)
    · refine o_unwanted rfl rfl rfl rfl rfl ?_
      refine o_unwanted rfl rfl rfl rfl rfl ?_
      refine o_unwanted rfl rfl rfl rfl rfl ?_
      refine o_pick_t rfl rfl ?_
      refine o_move ?_
      refine o_unwanted rfl rfl rfl rfl rfl ?_
      refine o_unwanted rfl rfl rfl rfl rfl ?_
      refine o_unwanted rfl rfl rfl rfl rfl ?_
      refine o_unwanted rfl rfl rfl rfl rfl ?_
      refine o_pick_t rfl rfl ?_
      first | refine g_endt ?_ | refine g_end ?_
      refine g_meets () trivial (Sat.mem ⟨rfl, congrArg Value.bool ?_, trivial⟩)
      ((try (simp only [decide_eq_true_eq, decide_eq_false_iff_not, ge_iff_le, gt_iff_lt] at *)); unfold headS; generalize s.size = n at *; cases hsm : smallN (byteN s 0) <;> simp <;> omega)
    · refine o_want rfl rfl rfl rfl rfl <| o_move ?_
      refine o_want rfl rfl rfl rfl rfl <| o_slen rfl rfl (by kernel_rfl) ?_
      refine o_want rfl rfl rfl rfl rfl <| o_gtr rfl rfl ?_
      refine o_pick_f rfl rfl ?_
      refine o_moveB rfl (fun h8 => ?_) (fun h8 => ?_)
      · refine o_unwanted rfl rfl rfl rfl rfl ?_
        refine o_unwanted rfl rfl rfl rfl rfl ?_
        refine o_unwanted rfl rfl rfl rfl rfl ?_
        refine o_unwanted rfl rfl rfl rfl rfl ?_
        refine o_pick_t rfl rfl ?_
        first | refine g_endt ?_ | refine g_end ?_
        refine g_meets () trivial (Sat.mem ⟨rfl, congrArg Value.bool ?_, trivial⟩)
        ((try (simp only [decide_eq_true_eq, decide_eq_false_iff_not, ge_iff_le, gt_iff_lt] at *)); unfold headS; generalize s.size = n at *; cases hsm : smallN (byteN s 0) <;> simp <;> omega)
      · refine o_want rfl rfl rfl rfl rfl <| o_move ?_
        refine o_want rfl rfl rfl rfl rfl <| o_sindex (i := 0) rfl rfl rfl (by have := of_decide_eq_false h3; omega) (by kernel_rfl) ?_
        refine o_want rfl rfl rfl rfl rfl <| o_call (small_spec (byteN s 0)) rfl rfl ?_
        rintro _ _ ⟨rfl, rfl⟩
        refine o_want rfl rfl rfl rfl rfl <| o_not rfl ?_
        refine o_pick_f rfl rfl ?_
        first | refine g_endt ?_ | refine g_end ?_
        refine g_meets () trivial (Sat.mem ⟨rfl, congrArg Value.bool ?_, trivial⟩)
        ((try (simp only [decide_eq_true_eq, decide_eq_false_iff_not, ge_iff_le, gt_iff_lt] at *)); unfold headS; generalize s.size = n at *; cases hsm : smallN (byteN s 0) <;> simp <;> omega)
  intro _ ρ1 _
  cases hh : headS s with
  | false =>
    first | refine g_seq (g_cond_t rfl (by first | rfl | (simp; done) | (simp; omega) | (simp; assumption)) ?_) | refine g_cond_t rfl (by first | rfl | (simp; done) | (simp; omega) | (simp; assumption)) ?_
    repeat (first | refine g_endt ?_ | refine g_end ?_ | refine g_then ?_ | refine g_in_normal ?_ | refine g_then_ret ?_ | refine g_in_ret ?_ | refine g_then_exit ?_ | refine g_in_exit rfl ?_ | refine g_in_exit_ne (by decide) ?_ | refine g_seq ?_ | refine g_region ?_ | refine g_block ?_ | refine g_ret ?_ | refine g_return_n ?_ | refine g_exit ?_ | refine g_skip ?_)
    refine o_assign ?_
    first | refine g_endt ?_ | refine g_end ?_
    repeat (first | refine g_endt ?_ | refine g_end ?_ | refine g_then ?_ | refine g_in_normal ?_ | refine g_then_ret ?_ | refine g_in_ret ?_ | refine g_then_exit ?_ | refine g_in_exit rfl ?_ | refine g_in_exit_ne (by decide) ?_ | refine g_seq ?_ | refine g_region ?_ | refine g_block ?_ | refine g_ret ?_ | refine g_return_n ?_ | refine g_exit ?_ | refine g_skip ?_)
    exact ret1 (K := []) rfl (resT rfl) ⟨by rw [wordS_head, hh]; rfl, rfl⟩
  | true =>
    have h1 : 1 ≤ s.size := by simp [headS] at hh; omega
    have h0 : partN (byteN s 0) = true := by simp [headS] at hh; simp [partN, hh]
    have h01 : ∀ j, j < 1 → partN (byteN s j) = true := fun j hj => by
      have : j = 0 := by omega
      subst this; exact h0
    first | refine g_seq (g_cond_f rfl (by first | rfl | (simp; done) | (simp; omega) | (simp; assumption)) ?_) | refine g_cond_f rfl (by first | rfl | (simp; done) | (simp; omega) | (simp; assumption)) ?_
    repeat (first | refine g_endt ?_ | refine g_end ?_ | refine g_then ?_ | refine g_in_normal ?_ | refine g_then_ret ?_ | refine g_in_ret ?_ | refine g_then_exit ?_ | refine g_in_exit rfl ?_ | refine g_in_exit_ne (by decide) ?_ | refine g_seq ?_ | refine g_region ?_ | refine g_block ?_ | refine g_ret ?_ | refine g_return_n ?_ | refine g_exit ?_ | refine g_skip ?_)
    refine o_assign ?_
    first | refine g_endt ?_ | refine g_end ?_
    repeat (first | refine g_endt ?_ | refine g_end ?_ | refine g_then ?_ | refine g_in_normal ?_ | refine g_then_ret ?_ | refine g_in_ret ?_ | refine g_then_exit ?_ | refine g_in_exit rfl ?_ | refine g_in_exit_ne (by decide) ?_ | refine g_seq ?_ | refine g_region ?_ | refine g_block ?_ | refine g_ret ?_ | refine g_return_n ?_ | refine g_exit ?_ | refine g_skip ?_)
    refine g_loop (σ := {i : Nat // 1 ≤ i ∧ i ≤ s.size ∧ ∀ j, j < i → partN (byteN s j) = true}) (S := fun i => [(0, .string s), (3, .int .i64 (i.1 : Int))]) (H := fun _ => []) (μ := fun i => s.size - i.1)
      (s0 := ⟨1, Nat.le_refl _, h1, h01⟩) (Sat.mem ⟨rfl, rfl, trivial⟩) ?_
    rintro ⟨i, hi1, hi, hp⟩ ρ2
    dsimp only at hi1 hi hp ⊢
    repeat (first | refine g_endt ?_ | refine g_end ?_ | refine g_then ?_ | refine g_in_normal ?_ | refine g_then_ret ?_ | refine g_in_ret ?_ | refine g_then_exit ?_ | refine g_in_exit rfl ?_ | refine g_in_exit_ne (by decide) ?_ | refine g_seq ?_ | refine g_region ?_ | refine g_block ?_ | refine g_ret ?_ | refine g_return_n ?_ | refine g_exit ?_ | refine g_skip ?_)
    refine o_move ?_
    refine o_move ?_
    refine o_slen rfl rfl (by kernel_rfl) ?_
    refine o_lss rfl rfl ?_
    first | refine g_endt ?_ | refine g_end ?_
    by_cases h : i < s.size
    · first | refine g_seq (g_cond_t rfl (by first | rfl | (simp; done) | (simp; omega) | (simp; assumption)) ?_) | refine g_cond_t rfl (by first | rfl | (simp; done) | (simp; omega) | (simp; assumption)) ?_
      repeat (first | refine g_endt ?_ | refine g_end ?_ | refine g_then ?_ | refine g_in_normal ?_ | refine g_then_ret ?_ | refine g_in_ret ?_ | refine g_then_exit ?_ | refine g_in_exit rfl ?_ | refine g_in_exit_ne (by decide) ?_ | refine g_seq ?_ | refine g_block ?_ | refine g_ret ?_ | refine g_return_n ?_ | refine g_exit ?_ | refine g_skip ?_)
      refine g_cutk (σ := Unit) (ds' := []) (S := fun _ => [(0, .string s), (3, .int .i64 (i : Int)), (47, .bool (!partN (byteN s i)))]) (H := fun _ => []) (ok := fun _ => True) ?_ ?_
      · skip
        repeat (first | refine g_endt ?_ | refine g_end ?_ | refine g_then ?_ | refine g_in_normal ?_ | refine g_then_ret ?_ | refine g_in_ret ?_ | refine g_then_exit ?_ | refine g_in_exit rfl ?_ | refine g_in_exit_ne (by decide) ?_ | refine g_seq ?_ | refine g_region ?_ | refine g_block ?_ | refine g_ret ?_ | refine g_return_n ?_ | refine g_exit ?_ | refine g_skip ?_)
        refine o_move ?_
        refine o_move ?_
        refine o_sindex (i := i) rfl rfl rfl h (by kernel_rfl) ?_
        refine o_call (small_spec (byteN s i)) rfl rfl ?_
        rintro _ _ ⟨rfl, rfl⟩
        refine o_not rfl ?_
        refine o_moveB rfl (fun h5 => ?_) (fun h5 => ?_)
        · refine o_want rfl rfl rfl rfl rfl <| o_move ?_
          refine o_want rfl rfl rfl rfl rfl <| o_move ?_
          refine o_want rfl rfl rfl rfl rfl <| o_sindex (i := i) rfl rfl rfl h (by kernel_rfl) ?_
          refine o_want rfl rfl rfl rfl rfl <| o_call (digit_spec (byteN s i)) rfl rfl ?_
          rintro _ _ ⟨rfl, rfl⟩
          refine o_want rfl rfl rfl rfl rfl <| o_not rfl ?_
          refine o_pick_t rfl rfl ?_
          refine o_moveB rfl (fun h12 => ?_) (fun h12 => ?_)
          · refine o_want rfl rfl rfl rfl rfl <| o_move ?_
            refine o_want rfl rfl rfl rfl rfl <| o_move ?_
            refine o_want rfl rfl rfl rfl rfl <| o_sindex (i := i) rfl rfl rfl h (by kernel_rfl) ?_
            refine o_want rfl rfl rfl rfl rfl <| o_neq rfl rfl ?_
            refine o_pick_t rfl rfl ?_
            refine o_moveB rfl (fun h18 => ?_) (fun h18 => ?_)
            · refine o_want rfl rfl rfl rfl rfl <| o_move ?_
              refine o_want rfl rfl rfl rfl rfl <| o_move ?_
              refine o_want rfl rfl rfl rfl rfl <| o_sindex (i := i) rfl rfl rfl h (by kernel_rfl) ?_
              refine o_want rfl rfl rfl rfl rfl <| o_neq rfl rfl ?_
              refine o_pick_t rfl rfl ?_
              first | refine g_endt ?_ | refine g_end ?_
              refine g_meets () trivial (Sat.mem ⟨rfl, rfl, congrArg Value.bool ?_, trivial⟩)
              (simp only [partN]; cases hsm : smallN (byteN s i) <;> cases hdg : digitN (byteN s i) <;> (rw [Bool.eq_iff_iff]; simp [hsm, hdg] at * <;> omega))
            · refine o_unwanted rfl rfl rfl rfl rfl ?_
              refine o_unwanted rfl rfl rfl rfl rfl ?_
              refine o_unwanted rfl rfl rfl rfl rfl ?_
              refine o_unwanted rfl rfl rfl rfl rfl ?_
              refine o_pick_f rfl rfl ?_
              first | refine g_endt ?_ | refine g_end ?_
              refine g_meets () trivial (Sat.mem ⟨rfl, rfl, congrArg Value.bool ?_, trivial⟩)
              (simp only [partN]; cases hsm : smallN (byteN s i) <;> cases hdg : digitN (byteN s i) <;> (rw [Bool.eq_iff_iff]; simp [hsm, hdg] at * <;> omega))
          · refine o_unwanted rfl rfl rfl rfl rfl ?_
            refine o_unwanted rfl rfl rfl rfl rfl ?_
            refine o_unwanted rfl rfl rfl rfl rfl ?_
            refine o_unwanted rfl rfl rfl rfl rfl ?_
            refine o_pick_f rfl rfl ?_
            refine o_move ?_
            refine o_unwanted rfl rfl rfl rfl rfl ?_
            refine o_unwanted rfl rfl rfl rfl rfl ?_
            refine o_unwanted rfl rfl rfl rfl rfl ?_
            refine o_unwanted rfl rfl rfl rfl rfl ?_
            refine o_pick_f rfl rfl ?_
            first | refine g_endt ?_ | refine g_end ?_
            refine g_meets () trivial (Sat.mem ⟨rfl, rfl, congrArg Value.bool ?_, trivial⟩)
            (simp only [partN]; cases hsm : smallN (byteN s i) <;> cases hdg : digitN (byteN s i) <;> (rw [Bool.eq_iff_iff]; simp [hsm, hdg] at * <;> omega))
        · refine o_unwanted rfl rfl rfl rfl rfl ?_
          refine o_unwanted rfl rfl rfl rfl rfl ?_
          refine o_unwanted rfl rfl rfl rfl rfl ?_
          refine o_unwanted rfl rfl rfl rfl rfl ?_
          refine o_unwanted rfl rfl rfl rfl rfl ?_
          refine o_pick_f rfl rfl ?_
          refine o_move ?_
          refine o_unwanted rfl rfl rfl rfl rfl ?_
          refine o_unwanted rfl rfl rfl rfl rfl ?_
          refine o_unwanted rfl rfl rfl rfl rfl ?_
          refine o_unwanted rfl rfl rfl rfl rfl ?_
          refine o_pick_f rfl rfl ?_
          refine o_move ?_
          refine o_unwanted rfl rfl rfl rfl rfl ?_
          refine o_unwanted rfl rfl rfl rfl rfl ?_
          refine o_unwanted rfl rfl rfl rfl rfl ?_
          refine o_unwanted rfl rfl rfl rfl rfl ?_
          refine o_pick_f rfl rfl ?_
          first | refine g_endt ?_ | refine g_end ?_
          refine g_meets () trivial (Sat.mem ⟨rfl, rfl, congrArg Value.bool ?_, trivial⟩)
          (simp only [partN]; cases hsm : smallN (byteN s i) <;> cases hdg : digitN (byteN s i) <;> (rw [Bool.eq_iff_iff]; simp [hsm, hdg] at * <;> omega))
      intro _ ρ3 _
      cases hc : partN (byteN s i) with
      | false =>
        first | refine g_seq (g_cond_t rfl (by first | rfl | (simp; done) | (simp; omega) | (simp; assumption)) ?_) | refine g_cond_t rfl (by first | rfl | (simp; done) | (simp; omega) | (simp; assumption)) ?_
        repeat (first | refine g_endt ?_ | refine g_end ?_ | refine g_then ?_ | refine g_in_normal ?_ | refine g_then_ret ?_ | refine g_in_ret ?_ | refine g_then_exit ?_ | refine g_in_exit rfl ?_ | refine g_in_exit_ne (by decide) ?_ | refine g_seq ?_ | refine g_region ?_ | refine g_block ?_ | refine g_ret ?_ | refine g_return_n ?_ | refine g_exit ?_ | refine g_skip ?_)
        refine o_assign ?_
        first | refine g_endt ?_ | refine g_end ?_
        repeat (first | refine g_endt ?_ | refine g_end ?_ | refine g_then ?_ | refine g_in_normal ?_ | refine g_then_ret ?_ | refine g_in_ret ?_ | refine g_then_exit ?_ | refine g_in_exit rfl ?_ | refine g_in_exit_ne (by decide) ?_ | refine g_seq ?_ | refine g_region ?_ | refine g_block ?_ | refine g_ret ?_ | refine g_return_n ?_ | refine g_exit ?_ | refine g_skip ?_)
        exact ret1 (K := []) rfl (resT (v := .bool false) rfl) ⟨by rw [wordS_head, range_not h hc, Bool.and_false], rfl⟩
      | true =>
        first | refine g_seq (g_cond_f rfl (by first | rfl | (simp; done) | (simp; omega) | (simp; assumption)) ?_) | refine g_cond_f rfl (by first | rfl | (simp; done) | (simp; omega) | (simp; assumption)) ?_
        repeat (first | refine g_endt ?_ | refine g_end ?_ | refine g_then ?_ | refine g_in_normal ?_ | refine g_then_ret ?_ | refine g_in_ret ?_ | refine g_then_exit ?_ | refine g_in_exit rfl ?_ | refine g_in_exit_ne (by decide) ?_ | refine g_seq ?_ | refine g_region ?_ | refine g_block ?_ | refine g_ret ?_ | refine g_return_n ?_ | refine g_exit ?_ | refine g_skip ?_)
        refine o_move ?_
        refine o_add (c := ((i + 1 : Nat) : Int)) rfl rfl (by omega) (by omega) (by omega) ?_
        refine o_assign ?_
        first | refine g_endt ?_ | refine g_end ?_
        repeat (first | refine g_endt ?_ | refine g_end ?_ | refine g_then ?_ | refine g_in_normal ?_ | refine g_then_ret ?_ | refine g_in_ret ?_ | refine g_then_exit ?_ | refine g_in_exit rfl ?_ | refine g_in_exit_ne (by decide) ?_ | refine g_seq ?_ | refine g_region ?_ | refine g_block ?_ | refine g_ret ?_ | refine g_return_n ?_ | refine g_exit ?_ | refine g_skip ?_)
        have hn : ∀ j, j < i + 1 → partN (byteN s j) = true := fun j hj => by
          by_cases e : j = i
          · subst e; exact hc
          · exact hp j (by omega)
        exact g_meets (⟨i + 1, by omega, h, hn⟩) (by first | exact trivial | (dsimp only; omega)) (Sat.mem (by repeat (first | exact trivial | refine And.intro rfl ?_)))
    · first | refine g_seq (g_cond_f rfl (by simp; omega) ?_) | refine g_cond_f rfl (by simp; omega) ?_
      repeat (first | refine g_endt ?_ | refine g_end ?_ | refine g_then ?_ | refine g_in_normal ?_ | refine g_then_ret ?_ | refine g_in_ret ?_ | refine g_then_exit ?_ | refine g_in_exit rfl ?_ | refine g_in_exit_ne (by decide) ?_ | refine g_seq ?_ | refine g_region ?_ | refine g_block ?_ | refine g_ret ?_ | refine g_return_n ?_ | refine g_exit ?_ | refine g_skip ?_)
      refine o_assign ?_
      first | refine g_endt ?_ | refine g_end ?_
      repeat (first | refine g_endt ?_ | refine g_end ?_ | refine g_then ?_ | refine g_in_normal ?_ | refine g_then_ret ?_ | refine g_in_ret ?_ | refine g_then_exit ?_ | refine g_in_exit rfl ?_ | refine g_in_exit_ne (by decide) ?_ | refine g_seq ?_ | refine g_region ?_ | refine g_block ?_ | refine g_ret ?_ | refine g_return_n ?_ | refine g_exit ?_ | refine g_skip ?_)
      exact ret1 (K := []) rfl (resT rfl) ⟨by rw [wordS_head, hh, range_all fun j hj => hp j (by omega)]; rfl, rfl⟩
theorem Word04_spec (s : ByteArray) (hb : s.size ≤ 4611686018427387904) : Ctr Try.prog 37 [.string s] [] (fun v M => v = .bool (wordS s) ∧ M = []) := by
  refine spec_of Try.func37 rfl Try.ntmps37 rfl fun w0 F => ?_
  -- ponder/ponderref04.Word
  repeat (first | refine g_endt ?_ | refine g_end ?_ | refine g_then ?_ | refine g_in_normal ?_ | refine g_then_ret ?_ | refine g_in_ret ?_ | refine g_then_exit ?_ | refine g_in_exit rfl ?_ | refine g_in_exit_ne (by decide) ?_ | refine g_seq ?_ | refine g_region ?_ | refine g_block ?_ | refine g_ret ?_ | refine g_return_n ?_ | refine g_exit ?_ | refine g_skip ?_)
  refine o_assign ?_
  first | refine g_endt ?_ | refine g_end ?_
  repeat (first | refine g_endt ?_ | refine g_end ?_ | refine g_then ?_ | refine g_in_normal ?_ | refine g_then_ret ?_ | refine g_in_ret ?_ | refine g_then_exit ?_ | refine g_in_exit rfl ?_ | refine g_in_exit_ne (by decide) ?_ | refine g_seq ?_ | refine g_block ?_ | refine g_ret ?_ | refine g_return_n ?_ | refine g_exit ?_ | refine g_skip ?_)
  refine g_cutk (σ := Unit) (ds' := []) (S := fun _ => [(0, .string s), (21, .bool (!headS s))]) (H := fun _ => []) (ok := fun _ => True) ?_ ?_
  · skip
    repeat (first | refine g_endt ?_ | refine g_end ?_ | refine g_then ?_ | refine g_in_normal ?_ | refine g_then_ret ?_ | refine g_in_ret ?_ | refine g_then_exit ?_ | refine g_in_exit rfl ?_ | refine g_in_exit_ne (by decide) ?_ | refine g_seq ?_ | refine g_region ?_ | refine g_block ?_ | refine g_ret ?_ | refine g_return_n ?_ | refine g_exit ?_ | refine g_skip ?_)
    refine o_move ?_
    refine o_slen rfl rfl (by kernel_rfl) ?_
    refine o_lss rfl rfl ?_
    refine o_moveB rfl (fun h3 => ?_) (fun h3 => ?_)
    · refine o_unwanted rfl rfl rfl rfl rfl ?_
      refine o_unwanted rfl rfl rfl rfl rfl ?_
      refine o_unwanted rfl rfl rfl rfl rfl ?_
      refine o_pick_t rfl rfl ?_
      refine o_move ?_
      refine o_unwanted rfl rfl rfl rfl rfl ?_
      refine o_unwanted rfl rfl rfl rfl rfl ?_
      refine o_unwanted rfl rfl rfl rfl rfl ?_
      refine o_pick_t rfl rfl ?_
      refine o_move ?_
      refine o_unwanted rfl rfl rfl rfl rfl ?_
      refine o_unwanted rfl rfl rfl rfl rfl ?_
      refine o_unwanted rfl rfl rfl rfl rfl ?_
      refine o_pick_t rfl rfl ?_
      first | refine g_endt ?_ | refine g_end ?_
      refine g_meets () trivial (Sat.mem ⟨rfl, congrArg Value.bool ?_, trivial⟩)
      ((try (simp only [decide_eq_true_eq, decide_eq_false_iff_not, ge_iff_le, gt_iff_lt] at *)); unfold headS smallN; generalize s.size = n at *; rw [Bool.eq_iff_iff]; simp <;> omega)
    · refine o_want rfl rfl rfl rfl rfl <| o_move ?_
      refine o_want rfl rfl rfl rfl rfl <| o_slen rfl rfl (by kernel_rfl) ?_
      refine o_want rfl rfl rfl rfl rfl <| o_gtr rfl rfl ?_
      refine o_pick_f rfl rfl ?_
      refine o_moveB rfl (fun h8 => ?_) (fun h8 => ?_)
      · refine o_unwanted rfl rfl rfl rfl rfl ?_
        refine o_unwanted rfl rfl rfl rfl rfl ?_
        refine o_unwanted rfl rfl rfl rfl rfl ?_
        refine o_pick_t rfl rfl ?_
        refine o_move ?_
        refine o_unwanted rfl rfl rfl rfl rfl ?_
        refine o_unwanted rfl rfl rfl rfl rfl ?_
        refine o_unwanted rfl rfl rfl rfl rfl ?_
        refine o_pick_t rfl rfl ?_
        first | refine g_endt ?_ | refine g_end ?_
        refine g_meets () trivial (Sat.mem ⟨rfl, congrArg Value.bool ?_, trivial⟩)
        ((try (simp only [decide_eq_true_eq, decide_eq_false_iff_not, ge_iff_le, gt_iff_lt] at *)); unfold headS smallN; generalize s.size = n at *; rw [Bool.eq_iff_iff]; simp <;> omega)
      · refine o_want rfl rfl rfl rfl rfl <| o_move ?_
        refine o_want rfl rfl rfl rfl rfl <| o_sindex (i := 0) rfl rfl rfl (by have := of_decide_eq_false h3; omega) (by kernel_rfl) ?_
        refine o_want rfl rfl rfl rfl rfl <| o_lss rfl rfl ?_
        refine o_pick_f rfl rfl ?_
        refine o_moveB rfl (fun h13 => ?_) (fun h13 => ?_)
        · refine o_unwanted rfl rfl rfl rfl rfl ?_
          refine o_unwanted rfl rfl rfl rfl rfl ?_
          refine o_unwanted rfl rfl rfl rfl rfl ?_
          refine o_pick_t rfl rfl ?_
          first | refine g_endt ?_ | refine g_end ?_
          refine g_meets () trivial (Sat.mem ⟨rfl, congrArg Value.bool ?_, trivial⟩)
          ((try (simp only [decide_eq_true_eq, decide_eq_false_iff_not, ge_iff_le, gt_iff_lt] at *)); unfold headS smallN; generalize s.size = n at *; rw [Bool.eq_iff_iff]; simp <;> omega)
        · refine o_want rfl rfl rfl rfl rfl <| o_move ?_
          refine o_want rfl rfl rfl rfl rfl <| o_sindex (i := 0) rfl rfl rfl (by have := of_decide_eq_false h3; omega) (by kernel_rfl) ?_
          refine o_want rfl rfl rfl rfl rfl <| o_gtr rfl rfl ?_
          refine o_pick_f rfl rfl ?_
          first | refine g_endt ?_ | refine g_end ?_
          refine g_meets () trivial (Sat.mem ⟨rfl, congrArg Value.bool ?_, trivial⟩)
          ((try (simp only [decide_eq_true_eq, decide_eq_false_iff_not, ge_iff_le, gt_iff_lt] at *)); unfold headS smallN; generalize s.size = n at *; rw [Bool.eq_iff_iff]; simp <;> omega)
  intro _ ρ1 _
  cases hh : headS s with
  | false =>
    first | refine g_seq (g_cond_t rfl (by first | rfl | (simp; done) | (simp; omega) | (simp; assumption)) ?_) | refine g_cond_t rfl (by first | rfl | (simp; done) | (simp; omega) | (simp; assumption)) ?_
    repeat (first | refine g_endt ?_ | refine g_end ?_ | refine g_then ?_ | refine g_in_normal ?_ | refine g_then_ret ?_ | refine g_in_ret ?_ | refine g_then_exit ?_ | refine g_in_exit rfl ?_ | refine g_in_exit_ne (by decide) ?_ | refine g_seq ?_ | refine g_region ?_ | refine g_block ?_ | refine g_ret ?_ | refine g_return_n ?_ | refine g_exit ?_ | refine g_skip ?_)
    refine o_assign ?_
    first | refine g_endt ?_ | refine g_end ?_
    repeat (first | refine g_endt ?_ | refine g_end ?_ | refine g_then ?_ | refine g_in_normal ?_ | refine g_then_ret ?_ | refine g_in_ret ?_ | refine g_then_exit ?_ | refine g_in_exit rfl ?_ | refine g_in_exit_ne (by decide) ?_ | refine g_seq ?_ | refine g_region ?_ | refine g_block ?_ | refine g_ret ?_ | refine g_return_n ?_ | refine g_exit ?_ | refine g_skip ?_)
    exact ret1 (K := []) rfl (resT rfl) ⟨by rw [wordS_head, hh]; rfl, rfl⟩
  | true =>
    first | refine g_seq (g_cond_f rfl (by first | rfl | (simp; done) | (simp; omega) | (simp; assumption)) ?_) | refine g_cond_f rfl (by first | rfl | (simp; done) | (simp; omega) | (simp; assumption)) ?_
    repeat (first | refine g_endt ?_ | refine g_end ?_ | refine g_then ?_ | refine g_in_normal ?_ | refine g_then_ret ?_ | refine g_in_ret ?_ | refine g_then_exit ?_ | refine g_in_exit rfl ?_ | refine g_in_exit_ne (by decide) ?_ | refine g_seq ?_ | refine g_region ?_ | refine g_block ?_ | refine g_ret ?_ | refine g_return_n ?_ | refine g_exit ?_ | refine g_skip ?_)
    refine o_assign ?_
    first | refine g_endt ?_ | refine g_end ?_
    repeat (first | refine g_endt ?_ | refine g_end ?_ | refine g_then ?_ | refine g_in_normal ?_ | refine g_then_ret ?_ | refine g_in_ret ?_ | refine g_then_exit ?_ | refine g_in_exit rfl ?_ | refine g_in_exit_ne (by decide) ?_ | refine g_seq ?_ | refine g_region ?_ | refine g_block ?_ | refine g_ret ?_ | refine g_return_n ?_ | refine g_exit ?_ | refine g_skip ?_)
    refine g_loop (σ := {i : Nat // i ≤ s.size ∧ ∀ j, j < i → partN (byteN s j) = true}) (S := fun i => [(0, .string s), (3, .int .i64 (i.1 : Int))]) (H := fun _ => []) (μ := fun i => s.size - i.1)
      (s0 := ⟨0, Nat.zero_le _, fun j hj => absurd hj (Nat.not_lt_zero j)⟩) (Sat.mem ⟨rfl, rfl, trivial⟩) ?_
    rintro ⟨i, hi, hp⟩ ρ2
    dsimp only at hi hp ⊢
    repeat (first | refine g_endt ?_ | refine g_end ?_ | refine g_then ?_ | refine g_in_normal ?_ | refine g_then_ret ?_ | refine g_in_ret ?_ | refine g_then_exit ?_ | refine g_in_exit rfl ?_ | refine g_in_exit_ne (by decide) ?_ | refine g_seq ?_ | refine g_region ?_ | refine g_block ?_ | refine g_ret ?_ | refine g_return_n ?_ | refine g_exit ?_ | refine g_skip ?_)
    refine o_move ?_
    refine o_move ?_
    refine o_slen rfl rfl (by kernel_rfl) ?_
    refine o_lss rfl rfl ?_
    first | refine g_endt ?_ | refine g_end ?_
    by_cases h : i < s.size
    · first | refine g_seq (g_cond_t rfl (by first | rfl | (simp; done) | (simp; omega) | (simp; assumption)) ?_) | refine g_cond_t rfl (by first | rfl | (simp; done) | (simp; omega) | (simp; assumption)) ?_
      repeat (first | refine g_endt ?_ | refine g_end ?_ | refine g_then ?_ | refine g_in_normal ?_ | refine g_then_ret ?_ | refine g_in_ret ?_ | refine g_then_exit ?_ | refine g_in_exit rfl ?_ | refine g_in_exit_ne (by decide) ?_ | refine g_seq ?_ | refine g_region ?_ | refine g_block ?_ | refine g_ret ?_ | refine g_return_n ?_ | refine g_exit ?_ | refine g_skip ?_)
      refine o_move ?_
      refine o_move ?_
      refine o_sindex (i := i) rfl rfl rfl h (by kernel_rfl) ?_
      refine o_call (Part_spec (byteN s i)) rfl rfl ?_
      rintro _ _ ⟨rfl, rfl⟩
      refine o_not rfl ?_
      first | refine g_endt ?_ | refine g_end ?_
      cases hc : partN (byteN s i) with
      | false =>
        first | refine g_seq (g_cond_t rfl (by first | rfl | (simp; done) | (simp; omega) | (simp; assumption)) ?_) | refine g_cond_t rfl (by first | rfl | (simp; done) | (simp; omega) | (simp; assumption)) ?_
        repeat (first | refine g_endt ?_ | refine g_end ?_ | refine g_then ?_ | refine g_in_normal ?_ | refine g_then_ret ?_ | refine g_in_ret ?_ | refine g_then_exit ?_ | refine g_in_exit rfl ?_ | refine g_in_exit_ne (by decide) ?_ | refine g_seq ?_ | refine g_region ?_ | refine g_block ?_ | refine g_ret ?_ | refine g_return_n ?_ | refine g_exit ?_ | refine g_skip ?_)
        refine o_assign ?_
        first | refine g_endt ?_ | refine g_end ?_
        repeat (first | refine g_endt ?_ | refine g_end ?_ | refine g_then ?_ | refine g_in_normal ?_ | refine g_then_ret ?_ | refine g_in_ret ?_ | refine g_then_exit ?_ | refine g_in_exit rfl ?_ | refine g_in_exit_ne (by decide) ?_ | refine g_seq ?_ | refine g_region ?_ | refine g_block ?_ | refine g_ret ?_ | refine g_return_n ?_ | refine g_exit ?_ | refine g_skip ?_)
        exact ret1 (K := []) rfl (resT (v := .bool false) rfl) ⟨by rw [wordS_head, range_not h hc, Bool.and_false], rfl⟩
      | true =>
        first | refine g_seq (g_cond_f rfl (by first | rfl | (simp; done) | (simp; omega) | (simp; assumption)) ?_) | refine g_cond_f rfl (by first | rfl | (simp; done) | (simp; omega) | (simp; assumption)) ?_
        repeat (first | refine g_endt ?_ | refine g_end ?_ | refine g_then ?_ | refine g_in_normal ?_ | refine g_then_ret ?_ | refine g_in_ret ?_ | refine g_then_exit ?_ | refine g_in_exit rfl ?_ | refine g_in_exit_ne (by decide) ?_ | refine g_seq ?_ | refine g_region ?_ | refine g_block ?_ | refine g_ret ?_ | refine g_return_n ?_ | refine g_exit ?_ | refine g_skip ?_)
        refine o_move ?_
        refine o_add (c := ((i + 1 : Nat) : Int)) rfl rfl (by omega) (by omega) (by omega) ?_
        refine o_assign ?_
        first | refine g_endt ?_ | refine g_end ?_
        repeat (first | refine g_endt ?_ | refine g_end ?_ | refine g_then ?_ | refine g_in_normal ?_ | refine g_then_ret ?_ | refine g_in_ret ?_ | refine g_then_exit ?_ | refine g_in_exit rfl ?_ | refine g_in_exit_ne (by decide) ?_ | refine g_seq ?_ | refine g_region ?_ | refine g_block ?_ | refine g_ret ?_ | refine g_return_n ?_ | refine g_exit ?_ | refine g_skip ?_)
        have hn : ∀ j, j < i + 1 → partN (byteN s j) = true := fun j hj => by
          by_cases e : j = i
          · subst e; exact hc
          · exact hp j (by omega)
        exact g_meets (⟨i + 1, h, hn⟩) (by first | exact trivial | (dsimp only; omega)) (Sat.mem (by repeat (first | exact trivial | refine And.intro rfl ?_)))
    · first | refine g_seq (g_cond_f rfl (by simp; omega) ?_) | refine g_cond_f rfl (by simp; omega) ?_
      repeat (first | refine g_endt ?_ | refine g_end ?_ | refine g_then ?_ | refine g_in_normal ?_ | refine g_then_ret ?_ | refine g_in_ret ?_ | refine g_then_exit ?_ | refine g_in_exit rfl ?_ | refine g_in_exit_ne (by decide) ?_ | refine g_seq ?_ | refine g_region ?_ | refine g_block ?_ | refine g_ret ?_ | refine g_return_n ?_ | refine g_exit ?_ | refine g_skip ?_)
      refine o_assign ?_
      first | refine g_endt ?_ | refine g_end ?_
      repeat (first | refine g_endt ?_ | refine g_end ?_ | refine g_then ?_ | refine g_in_normal ?_ | refine g_then_ret ?_ | refine g_in_ret ?_ | refine g_then_exit ?_ | refine g_in_exit rfl ?_ | refine g_in_exit_ne (by decide) ?_ | refine g_seq ?_ | refine g_region ?_ | refine g_block ?_ | refine g_ret ?_ | refine g_return_n ?_ | refine g_exit ?_ | refine g_skip ?_)
      exact ret1 (K := []) rfl (resT rfl) ⟨by rw [wordS_head, hh, range_all fun j hj => hp j (by omega)]; rfl, rfl⟩
end Go.Proofs.Ytdpbjoldgiikkaa
/- Symbols, elements: which are right. -/
namespace Go.Proofs.Ytdpbjoldgiikkaa
open Go Go.Sl
attribute [local irreducible] Code.wpIn roundPost bodyPostM runL Ret Meets Begin

theorem text_empty (s : ByteArray) : (s.toList == ByteArray.empty.toList) = decide (s = ByteArray.empty) := by
  rw [Bool.eq_iff_iff, beq_iff_eq, decide_eq_true_eq, toList_inj]
theorem Valid_spec (s : SymD) (hb : s.text.size ≤ 4611686018427387904) : Ctr Try.prog 47 [s.val] [] (fun v M => v = .bool (validS s) ∧ M = []) := by
  refine spec_of Try.func47 rfl Try.ntmps47 rfl fun w0 F => ?_
  -- ponder/sym.Valid
  repeat (first | refine g_endt ?_ | refine g_end ?_ | refine g_then ?_ | refine g_in_normal ?_ | refine g_then_ret ?_ | refine g_in_ret ?_ | refine g_then_exit ?_ | refine g_in_exit rfl ?_ | refine g_in_exit_ne (by decide) ?_ | refine g_seq ?_ | refine g_region ?_ | refine g_block ?_ | refine g_ret ?_ | refine g_return_n ?_ | refine g_exit ?_ | refine g_skip ?_)
  refine o_boxc s.val.cells rfl rfl fun q => ?_
  refine o_assign ?_
  first | refine g_endt ?_ | refine g_end ?_
  repeat (first | refine g_endt ?_ | refine g_end ?_ | refine g_then ?_ | refine g_in_normal ?_ | refine g_then_ret ?_ | refine g_in_ret ?_ | refine g_then_exit ?_ | refine g_in_exit rfl ?_ | refine g_in_exit_ne (by decide) ?_ | refine g_seq ?_ | refine g_region ?_ | refine g_block ?_ | refine g_ret ?_ | refine g_return_n ?_ | refine g_exit ?_ | refine g_skip ?_)
  first | refine o_field rfl ?_ | refine o_fieldR rfl (by omega) ?_
  refine o_load1 (v := .int .i64 s.kind) rfl rfl ?_
  first | refine g_endt ?_ | refine g_end ?_
  repeat (first | refine g_endt ?_ | refine g_end ?_ | refine g_then ?_ | refine g_in_normal ?_ | refine g_then_ret ?_ | refine g_in_ret ?_ | refine g_then_exit ?_ | refine g_in_exit rfl ?_ | refine g_in_exit_ne (by decide) ?_ | refine g_seq ?_ | refine g_region ?_ | refine g_block ?_ | refine g_ret ?_ | refine g_return_n ?_ | refine g_exit ?_ | refine g_skip ?_)
  refine o_eql rfl rfl ?_
  refine o_assign ?_
  first | refine g_endt ?_ | refine g_end ?_
  by_cases k1 : s.kind = 1
  · first | refine g_seq (g_cond_t rfl (by simpa using k1) ?_) | refine g_cond_t rfl (by simpa using k1) ?_
    repeat (first | refine g_endt ?_ | refine g_end ?_ | refine g_then ?_ | refine g_in_normal ?_ | refine g_then_ret ?_ | refine g_in_ret ?_ | refine g_then_exit ?_ | refine g_in_exit rfl ?_ | refine g_in_exit_ne (by decide) ?_ | refine g_seq ?_ | refine g_region ?_ | refine g_block ?_ | refine g_ret ?_ | refine g_return_n ?_ | refine g_exit ?_ | refine g_skip ?_)
    first | refine o_field rfl ?_ | refine o_fieldR rfl (by omega) ?_
    refine o_load1 (v := .string s.text) rfl rfl ?_
    refine o_slen rfl rfl (by kernel_rfl) ?_
    refine o_eql rfl rfl ?_
    refine o_moveB rfl (fun h4 => ?_) (fun h4 => ?_)
    · first | refine o_want rfl rfl rfl rfl rfl <| o_field rfl ?_ | refine o_want rfl rfl rfl rfl rfl <| o_fieldR rfl (by omega) ?_
      refine o_want rfl rfl rfl rfl rfl <| o_load1 (v := .string s.text) rfl rfl ?_
      refine o_want rfl rfl rfl rfl rfl <| o_sindex (i := 0) rfl rfl rfl (by have := beq_iff_eq.1 h4; omega) (by kernel_rfl) ?_
      refine o_want rfl rfl rfl rfl rfl <| o_call (great_spec (byteN s.text 0)) rfl rfl ?_
      rintro _ _ ⟨rfl, rfl⟩
      refine o_pick_t rfl rfl ?_
      refine o_moveB rfl (fun h10 => ?_) (fun h10 => ?_)
      · first | refine o_want rfl rfl rfl rfl rfl <| o_field rfl ?_ | refine o_want rfl rfl rfl rfl rfl <| o_fieldR rfl (by omega) ?_
        refine o_want rfl rfl rfl rfl rfl <| o_load1 (v := .int .i64 s.n) rfl rfl ?_
        refine o_want rfl rfl rfl rfl rfl <| o_geq rfl rfl ?_
        refine o_pick_t rfl rfl ?_
        refine o_moveB rfl (fun h15 => ?_) (fun h15 => ?_)
        · first | refine o_want rfl rfl rfl rfl rfl <| o_field rfl ?_ | refine o_want rfl rfl rfl rfl rfl <| o_fieldR rfl (by omega) ?_
          refine o_want rfl rfl rfl rfl rfl <| o_load1 (v := .int .i64 s.n) rfl rfl ?_
          refine o_want rfl rfl rfl rfl rfl <| o_leq rfl rfl ?_
          refine o_pick_t rfl rfl ?_
          refine o_assign ?_
          first | refine g_endt ?_ | refine g_end ?_
          repeat (first | refine g_endt ?_ | refine g_end ?_ | refine g_then ?_ | refine g_in_normal ?_ | refine g_then_ret ?_ | refine g_in_ret ?_ | refine g_then_exit ?_ | refine g_in_exit rfl ?_ | refine g_in_exit_ne (by decide) ?_ | refine g_seq ?_ | refine g_region ?_ | refine g_block ?_ | refine g_ret ?_ | refine g_return_n ?_ | refine g_exit ?_ | refine g_skip ?_)
          refine ret1 rfl (resT rfl) ⟨congrArg Value.bool ?_, rfl⟩
          ((try (simp only [decide_eq_true_eq, decide_eq_false_iff_not, ge_iff_le, gt_iff_lt, beq_iff_eq, beq_eq_false_iff_ne, ne_eq] at *)); unfold validS; rw [if_pos k1]; generalize s.text.size = m at *; cases hgr : greatN (byteN s.text 0) <;> (rw [Bool.eq_iff_iff]; simp_all <;> omega))
        · refine o_unwanted rfl rfl rfl rfl rfl ?_
          refine o_unwanted rfl rfl rfl rfl rfl ?_
          refine o_unwanted rfl rfl rfl rfl rfl ?_
          refine o_pick_f rfl rfl ?_
          refine o_assign ?_
          first | refine g_endt ?_ | refine g_end ?_
          repeat (first | refine g_endt ?_ | refine g_end ?_ | refine g_then ?_ | refine g_in_normal ?_ | refine g_then_ret ?_ | refine g_in_ret ?_ | refine g_then_exit ?_ | refine g_in_exit rfl ?_ | refine g_in_exit_ne (by decide) ?_ | refine g_seq ?_ | refine g_region ?_ | refine g_block ?_ | refine g_ret ?_ | refine g_return_n ?_ | refine g_exit ?_ | refine g_skip ?_)
          refine ret1 rfl (resT rfl) ⟨congrArg Value.bool ?_, rfl⟩
          ((try (simp only [decide_eq_true_eq, decide_eq_false_iff_not, ge_iff_le, gt_iff_lt, beq_iff_eq, beq_eq_false_iff_ne, ne_eq] at *)); unfold validS; rw [if_pos k1]; generalize s.text.size = m at *; cases hgr : greatN (byteN s.text 0) <;> (rw [Bool.eq_iff_iff]; simp_all <;> omega))
      · refine o_unwanted rfl rfl rfl rfl rfl ?_
        refine o_unwanted rfl rfl rfl rfl rfl ?_
        refine o_unwanted rfl rfl rfl rfl rfl ?_
        refine o_pick_f rfl rfl ?_
        refine o_move ?_
        refine o_unwanted rfl rfl rfl rfl rfl ?_
        refine o_unwanted rfl rfl rfl rfl rfl ?_
        refine o_unwanted rfl rfl rfl rfl rfl ?_
        refine o_pick_f rfl rfl ?_
        refine o_assign ?_
        first | refine g_endt ?_ | refine g_end ?_
        repeat (first | refine g_endt ?_ | refine g_end ?_ | refine g_then ?_ | refine g_in_normal ?_ | refine g_then_ret ?_ | refine g_in_ret ?_ | refine g_then_exit ?_ | refine g_in_exit rfl ?_ | refine g_in_exit_ne (by decide) ?_ | refine g_seq ?_ | refine g_region ?_ | refine g_block ?_ | refine g_ret ?_ | refine g_return_n ?_ | refine g_exit ?_ | refine g_skip ?_)
        refine ret1 rfl (resT rfl) ⟨congrArg Value.bool ?_, rfl⟩
        ((try (simp only [decide_eq_true_eq, decide_eq_false_iff_not, ge_iff_le, gt_iff_lt, beq_iff_eq, beq_eq_false_iff_ne, ne_eq] at *)); unfold validS; rw [if_pos k1]; generalize s.text.size = m at *; cases hgr : greatN (byteN s.text 0) <;> (rw [Bool.eq_iff_iff]; simp_all <;> omega))
    · refine o_unwanted rfl rfl rfl rfl rfl ?_
      refine o_unwanted rfl rfl rfl rfl rfl ?_
      refine o_unwanted rfl rfl rfl rfl rfl ?_
      refine o_unwanted rfl rfl rfl rfl rfl ?_
      refine o_pick_f rfl rfl ?_
      refine o_move ?_
      refine o_unwanted rfl rfl rfl rfl rfl ?_
      refine o_unwanted rfl rfl rfl rfl rfl ?_
      refine o_unwanted rfl rfl rfl rfl rfl ?_
      refine o_pick_f rfl rfl ?_
      refine o_move ?_
      refine o_unwanted rfl rfl rfl rfl rfl ?_
      refine o_unwanted rfl rfl rfl rfl rfl ?_
      refine o_unwanted rfl rfl rfl rfl rfl ?_
      refine o_pick_f rfl rfl ?_
      refine o_assign ?_
      first | refine g_endt ?_ | refine g_end ?_
      repeat (first | refine g_endt ?_ | refine g_end ?_ | refine g_then ?_ | refine g_in_normal ?_ | refine g_then_ret ?_ | refine g_in_ret ?_ | refine g_then_exit ?_ | refine g_in_exit rfl ?_ | refine g_in_exit_ne (by decide) ?_ | refine g_seq ?_ | refine g_region ?_ | refine g_block ?_ | refine g_ret ?_ | refine g_return_n ?_ | refine g_exit ?_ | refine g_skip ?_)
      refine ret1 rfl (resT rfl) ⟨congrArg Value.bool ?_, rfl⟩
      ((try (simp only [decide_eq_true_eq, decide_eq_false_iff_not, ge_iff_le, gt_iff_lt, beq_iff_eq, beq_eq_false_iff_ne, ne_eq] at *)); unfold validS; rw [if_pos k1]; generalize s.text.size = m at *; cases hgr : greatN (byteN s.text 0) <;> (rw [Bool.eq_iff_iff]; simp_all <;> omega))
  first | refine g_seq (g_cond_f rfl (by simpa using k1) ?_) | refine g_cond_f rfl (by simpa using k1) ?_
  repeat (first | refine g_endt ?_ | refine g_end ?_ | refine g_then ?_ | refine g_in_normal ?_ | refine g_then_ret ?_ | refine g_in_ret ?_ | refine g_then_exit ?_ | refine g_in_exit rfl ?_ | refine g_in_exit_ne (by decide) ?_ | refine g_seq ?_ | refine g_region ?_ | refine g_block ?_ | refine g_ret ?_ | refine g_return_n ?_ | refine g_exit ?_ | refine g_skip ?_)
  refine o_eql rfl rfl ?_
  refine o_assign ?_
  first | refine g_endt ?_ | refine g_end ?_
  by_cases k2 : s.kind = 2
  · first | refine g_seq (g_cond_t rfl (by simpa using k2) ?_) | refine g_cond_t rfl (by simpa using k2) ?_
    repeat (first | refine g_endt ?_ | refine g_end ?_ | refine g_then ?_ | refine g_in_normal ?_ | refine g_then_ret ?_ | refine g_in_ret ?_ | refine g_then_exit ?_ | refine g_in_exit rfl ?_ | refine g_in_exit_ne (by decide) ?_ | refine g_seq ?_ | refine g_region ?_ | refine g_block ?_ | refine g_ret ?_ | refine g_return_n ?_ | refine g_exit ?_ | refine g_skip ?_)
    first | refine o_field rfl ?_ | refine o_fieldR rfl (by omega) ?_
    refine o_load1 (v := .string s.text) rfl rfl ?_
    refine o_seql rfl rfl ?_
    refine o_moveB rfl (fun h3 => ?_) (fun h3 => ?_)
    · first | refine o_want rfl rfl rfl rfl rfl <| o_field rfl ?_ | refine o_want rfl rfl rfl rfl rfl <| o_fieldR rfl (by omega) ?_
      refine o_want rfl rfl rfl rfl rfl <| o_load1 (v := .int .i64 s.n) rfl rfl ?_
      refine o_want rfl rfl rfl rfl rfl <| o_geq rfl rfl ?_
      refine o_pick_t rfl rfl ?_
      refine o_moveB rfl (fun h8 => ?_) (fun h8 => ?_)
      · first | refine o_want rfl rfl rfl rfl rfl <| o_field rfl ?_ | refine o_want rfl rfl rfl rfl rfl <| o_fieldR rfl (by omega) ?_
        refine o_want rfl rfl rfl rfl rfl <| o_load1 (v := .int .i64 s.n) rfl rfl ?_
        refine o_want rfl rfl rfl rfl rfl <| o_leq rfl rfl ?_
        refine o_pick_t rfl rfl ?_
        refine o_assign ?_
        first | refine g_endt ?_ | refine g_end ?_
        repeat (first | refine g_endt ?_ | refine g_end ?_ | refine g_then ?_ | refine g_in_normal ?_ | refine g_then_ret ?_ | refine g_in_ret ?_ | refine g_then_exit ?_ | refine g_in_exit rfl ?_ | refine g_in_exit_ne (by decide) ?_ | refine g_seq ?_ | refine g_region ?_ | refine g_block ?_ | refine g_ret ?_ | refine g_return_n ?_ | refine g_exit ?_ | refine g_skip ?_)
        refine ret1 rfl (resT rfl) ⟨congrArg Value.bool ?_, rfl⟩
        (unfold validS; rw [if_neg k1, if_pos k2, show (decide (s.text = ByteArray.empty)) = (s.text.toList == ({ data := #[] } : ByteArray).toList) from (text_empty s.text).symm]; generalize (s.text.toList == ({ data := #[] } : ByteArray).toList) = tb at *; (try (simp only [decide_eq_true_eq, decide_eq_false_iff_not, ge_iff_le, gt_iff_lt] at *)); cases tb <;> (rw [Bool.eq_iff_iff]; simp_all <;> omega))
      · refine o_unwanted rfl rfl rfl rfl rfl ?_
        refine o_unwanted rfl rfl rfl rfl rfl ?_
        refine o_unwanted rfl rfl rfl rfl rfl ?_
        refine o_pick_f rfl rfl ?_
        refine o_assign ?_
        first | refine g_endt ?_ | refine g_end ?_
        repeat (first | refine g_endt ?_ | refine g_end ?_ | refine g_then ?_ | refine g_in_normal ?_ | refine g_then_ret ?_ | refine g_in_ret ?_ | refine g_then_exit ?_ | refine g_in_exit rfl ?_ | refine g_in_exit_ne (by decide) ?_ | refine g_seq ?_ | refine g_region ?_ | refine g_block ?_ | refine g_ret ?_ | refine g_return_n ?_ | refine g_exit ?_ | refine g_skip ?_)
        refine ret1 rfl (resT rfl) ⟨congrArg Value.bool ?_, rfl⟩
        (unfold validS; rw [if_neg k1, if_pos k2, show (decide (s.text = ByteArray.empty)) = (s.text.toList == ({ data := #[] } : ByteArray).toList) from (text_empty s.text).symm]; generalize (s.text.toList == ({ data := #[] } : ByteArray).toList) = tb at *; (try (simp only [decide_eq_true_eq, decide_eq_false_iff_not, ge_iff_le, gt_iff_lt] at *)); cases tb <;> (rw [Bool.eq_iff_iff]; simp_all <;> omega))
    · refine o_unwanted rfl rfl rfl rfl rfl ?_
      refine o_unwanted rfl rfl rfl rfl rfl ?_
      refine o_unwanted rfl rfl rfl rfl rfl ?_
      refine o_pick_f rfl rfl ?_
      refine o_move ?_
      refine o_unwanted rfl rfl rfl rfl rfl ?_
      refine o_unwanted rfl rfl rfl rfl rfl ?_
      refine o_unwanted rfl rfl rfl rfl rfl ?_
      refine o_pick_f rfl rfl ?_
      refine o_assign ?_
      first | refine g_endt ?_ | refine g_end ?_
      repeat (first | refine g_endt ?_ | refine g_end ?_ | refine g_then ?_ | refine g_in_normal ?_ | refine g_then_ret ?_ | refine g_in_ret ?_ | refine g_then_exit ?_ | refine g_in_exit rfl ?_ | refine g_in_exit_ne (by decide) ?_ | refine g_seq ?_ | refine g_region ?_ | refine g_block ?_ | refine g_ret ?_ | refine g_return_n ?_ | refine g_exit ?_ | refine g_skip ?_)
      refine ret1 rfl (resT rfl) ⟨congrArg Value.bool ?_, rfl⟩
      (unfold validS; rw [if_neg k1, if_pos k2, show (decide (s.text = ByteArray.empty)) = (s.text.toList == ({ data := #[] } : ByteArray).toList) from (text_empty s.text).symm]; generalize (s.text.toList == ({ data := #[] } : ByteArray).toList) = tb at *; (try (simp only [decide_eq_true_eq, decide_eq_false_iff_not, ge_iff_le, gt_iff_lt] at *)); cases tb <;> (rw [Bool.eq_iff_iff]; simp_all <;> omega))
  first | refine g_seq (g_cond_f rfl (by simpa using k2) ?_) | refine g_cond_f rfl (by simpa using k2) ?_
  repeat (first | refine g_endt ?_ | refine g_end ?_ | refine g_then ?_ | refine g_in_normal ?_ | refine g_then_ret ?_ | refine g_in_ret ?_ | refine g_then_exit ?_ | refine g_in_exit rfl ?_ | refine g_in_exit_ne (by decide) ?_ | refine g_seq ?_ | refine g_region ?_ | refine g_block ?_ | refine g_ret ?_ | refine g_return_n ?_ | refine g_exit ?_ | refine g_skip ?_)
  refine o_eql rfl rfl ?_
  refine o_assign ?_
  first | refine g_endt ?_ | refine g_end ?_
  by_cases k3 : s.kind = 3
  · first | refine g_seq (g_cond_t rfl (by simpa using k3) ?_) | refine g_cond_t rfl (by simpa using k3) ?_
    repeat (first | refine g_endt ?_ | refine g_end ?_ | refine g_then ?_ | refine g_in_normal ?_ | refine g_then_ret ?_ | refine g_in_ret ?_ | refine g_then_exit ?_ | refine g_in_exit rfl ?_ | refine g_in_exit_ne (by decide) ?_ | refine g_seq ?_ | refine g_region ?_ | refine g_block ?_ | refine g_ret ?_ | refine g_return_n ?_ | refine g_exit ?_ | refine g_skip ?_)
    first | refine o_field rfl ?_ | refine o_fieldR rfl (by omega) ?_
    refine o_load1 (v := .int .i64 s.n) rfl rfl ?_
    refine o_eql rfl rfl ?_
    refine o_moveB rfl (fun h3 => ?_) (fun h3 => ?_)
    · first | refine o_want rfl rfl rfl rfl rfl <| o_field rfl ?_ | refine o_want rfl rfl rfl rfl rfl <| o_fieldR rfl (by omega) ?_
      refine o_want rfl rfl rfl rfl rfl <| o_load1 (v := .string s.text) rfl rfl ?_
      refine o_want rfl rfl rfl rfl rfl <| o_call (Word_spec s.text hb) rfl rfl ?_
      rintro _ _ ⟨rfl, rfl⟩
      refine o_pick_t rfl rfl ?_
      refine o_assign ?_
      first | refine g_endt ?_ | refine g_end ?_
      repeat (first | refine g_endt ?_ | refine g_end ?_ | refine g_then ?_ | refine g_in_normal ?_ | refine g_then_ret ?_ | refine g_in_ret ?_ | refine g_then_exit ?_ | refine g_in_exit rfl ?_ | refine g_in_exit_ne (by decide) ?_ | refine g_seq ?_ | refine g_region ?_ | refine g_block ?_ | refine g_ret ?_ | refine g_return_n ?_ | refine g_exit ?_ | refine g_skip ?_)
      refine ret1 rfl (resT rfl) ⟨congrArg Value.bool ?_, rfl⟩
      (unfold validS; rw [if_neg k1, if_neg k2, if_pos k3]; simp only [beq_iff_eq, beq_eq_false_iff_ne, ne_eq] at *; simp_all)
    · refine o_unwanted rfl rfl rfl rfl rfl ?_
      refine o_unwanted rfl rfl rfl rfl rfl ?_
      refine o_unwanted rfl rfl rfl rfl rfl ?_
      refine o_pick_f rfl rfl ?_
      refine o_assign ?_
      first | refine g_endt ?_ | refine g_end ?_
      repeat (first | refine g_endt ?_ | refine g_end ?_ | refine g_then ?_ | refine g_in_normal ?_ | refine g_then_ret ?_ | refine g_in_ret ?_ | refine g_then_exit ?_ | refine g_in_exit rfl ?_ | refine g_in_exit_ne (by decide) ?_ | refine g_seq ?_ | refine g_region ?_ | refine g_block ?_ | refine g_ret ?_ | refine g_return_n ?_ | refine g_exit ?_ | refine g_skip ?_)
      refine ret1 rfl (resT rfl) ⟨congrArg Value.bool ?_, rfl⟩
      (unfold validS; rw [if_neg k1, if_neg k2, if_pos k3]; simp only [beq_iff_eq, beq_eq_false_iff_ne, ne_eq] at *; simp_all)
  first | refine g_seq (g_cond_f rfl (by simpa using k3) ?_) | refine g_cond_f rfl (by simpa using k3) ?_
  repeat (first | refine g_endt ?_ | refine g_end ?_ | refine g_then ?_ | refine g_in_normal ?_ | refine g_then_ret ?_ | refine g_in_ret ?_ | refine g_then_exit ?_ | refine g_in_exit rfl ?_ | refine g_in_exit_ne (by decide) ?_ | refine g_seq ?_ | refine g_region ?_ | refine g_block ?_ | refine g_ret ?_ | refine g_return_n ?_ | refine g_exit ?_ | refine g_skip ?_)
  refine o_assign ?_
  first | refine g_endt ?_ | refine g_end ?_
  repeat (first | refine g_endt ?_ | refine g_end ?_ | refine g_then ?_ | refine g_in_normal ?_ | refine g_then_ret ?_ | refine g_in_ret ?_ | refine g_then_exit ?_ | refine g_in_exit rfl ?_ | refine g_in_exit_ne (by decide) ?_ | refine g_seq ?_ | refine g_region ?_ | refine g_block ?_ | refine g_ret ?_ | refine g_return_n ?_ | refine g_exit ?_ | refine g_skip ?_)
  exact ret1 rfl (resT (v := .bool false) rfl) ⟨by unfold validS; rw [if_neg k1, if_neg k2, if_neg k3], rfl⟩
theorem Valid04_spec (s : SymD) (hb : s.text.size ≤ 4611686018427387904) : Ctr Try.prog 12 [s.val] [] (fun v M => v = .bool (validS s) ∧ M = []) := by
  refine spec_of Try.func12 rfl Try.ntmps12 rfl fun w0 F => ?_
  -- ponder/ponderref04.Valid
  repeat (first | refine g_endt ?_ | refine g_end ?_ | refine g_then ?_ | refine g_in_normal ?_ | refine g_then_ret ?_ | refine g_in_ret ?_ | refine g_then_exit ?_ | refine g_in_exit rfl ?_ | refine g_in_exit_ne (by decide) ?_ | refine g_seq ?_ | refine g_region ?_ | refine g_block ?_ | refine g_ret ?_ | refine g_return_n ?_ | refine g_exit ?_ | refine g_skip ?_)
  refine o_boxc s.val.cells rfl rfl fun q => ?_
  refine o_assign ?_
  first | refine g_endt ?_ | refine g_end ?_
  repeat (first | refine g_endt ?_ | refine g_end ?_ | refine g_then ?_ | refine g_in_normal ?_ | refine g_then_ret ?_ | refine g_in_ret ?_ | refine g_then_exit ?_ | refine g_in_exit rfl ?_ | refine g_in_exit_ne (by decide) ?_ | refine g_seq ?_ | refine g_region ?_ | refine g_block ?_ | refine g_ret ?_ | refine g_return_n ?_ | refine g_exit ?_ | refine g_skip ?_)
  first | refine o_field rfl ?_ | refine o_fieldR rfl (by omega) ?_
  refine o_load1 (v := .int .i64 s.kind) rfl rfl ?_
  first | refine g_endt ?_ | refine g_end ?_
  repeat (first | refine g_endt ?_ | refine g_end ?_ | refine g_then ?_ | refine g_in_normal ?_ | refine g_then_ret ?_ | refine g_in_ret ?_ | refine g_then_exit ?_ | refine g_in_exit rfl ?_ | refine g_in_exit_ne (by decide) ?_ | refine g_seq ?_ | refine g_region ?_ | refine g_block ?_ | refine g_ret ?_ | refine g_return_n ?_ | refine g_exit ?_ | refine g_skip ?_)
  refine o_eql rfl rfl ?_
  refine o_assign ?_
  first | refine g_endt ?_ | refine g_end ?_
  by_cases k1 : s.kind = 1
  · first | refine g_seq (g_cond_t rfl (by simpa using k1) ?_) | refine g_cond_t rfl (by simpa using k1) ?_
    repeat (first | refine g_endt ?_ | refine g_end ?_ | refine g_then ?_ | refine g_in_normal ?_ | refine g_then_ret ?_ | refine g_in_ret ?_ | refine g_then_exit ?_ | refine g_in_exit rfl ?_ | refine g_in_exit_ne (by decide) ?_ | refine g_seq ?_ | refine g_region ?_ | refine g_block ?_ | refine g_ret ?_ | refine g_return_n ?_ | refine g_exit ?_ | refine g_skip ?_)
    first | refine o_field rfl ?_ | refine o_fieldR rfl (by omega) ?_
    refine o_load1 (v := .string s.text) rfl rfl ?_
    refine o_slen rfl rfl (by kernel_rfl) ?_
    refine o_eql rfl rfl ?_
    refine o_moveB rfl (fun h4 => ?_) (fun h4 => ?_)
    · first | refine o_want rfl rfl rfl rfl rfl <| o_field rfl ?_ | refine o_want rfl rfl rfl rfl rfl <| o_fieldR rfl (by omega) ?_
      refine o_want rfl rfl rfl rfl rfl <| o_load1 (v := .string s.text) rfl rfl ?_
      refine o_want rfl rfl rfl rfl rfl <| o_sindex (i := 0) rfl rfl rfl (by have := beq_iff_eq.1 h4; omega) (by kernel_rfl) ?_
      refine o_want rfl rfl rfl rfl rfl <| o_geq rfl rfl ?_
      refine o_pick_t rfl rfl ?_
      refine o_moveB rfl (fun h10 => ?_) (fun h10 => ?_)
      · first | refine o_want rfl rfl rfl rfl rfl <| o_field rfl ?_ | refine o_want rfl rfl rfl rfl rfl <| o_fieldR rfl (by omega) ?_
        refine o_want rfl rfl rfl rfl rfl <| o_load1 (v := .string s.text) rfl rfl ?_
        refine o_want rfl rfl rfl rfl rfl <| o_sindex (i := 0) rfl rfl rfl (by have := beq_iff_eq.1 h4; omega) (by kernel_rfl) ?_
        refine o_want rfl rfl rfl rfl rfl <| o_leq rfl rfl ?_
        refine o_pick_t rfl rfl ?_
        refine o_moveB rfl (fun h16 => ?_) (fun h16 => ?_)
        · first | refine o_want rfl rfl rfl rfl rfl <| o_field rfl ?_ | refine o_want rfl rfl rfl rfl rfl <| o_fieldR rfl (by omega) ?_
          refine o_want rfl rfl rfl rfl rfl <| o_load1 (v := .int .i64 s.n) rfl rfl ?_
          refine o_want rfl rfl rfl rfl rfl <| o_geq rfl rfl ?_
          refine o_pick_t rfl rfl ?_
          refine o_moveB rfl (fun h21 => ?_) (fun h21 => ?_)
          · first | refine o_want rfl rfl rfl rfl rfl <| o_field rfl ?_ | refine o_want rfl rfl rfl rfl rfl <| o_fieldR rfl (by omega) ?_
            refine o_want rfl rfl rfl rfl rfl <| o_load1 (v := .int .i64 s.n) rfl rfl ?_
            refine o_want rfl rfl rfl rfl rfl <| o_leq rfl rfl ?_
            refine o_pick_t rfl rfl ?_
            refine o_assign ?_
            first | refine g_endt ?_ | refine g_end ?_
            repeat (first | refine g_endt ?_ | refine g_end ?_ | refine g_then ?_ | refine g_in_normal ?_ | refine g_then_ret ?_ | refine g_in_ret ?_ | refine g_then_exit ?_ | refine g_in_exit rfl ?_ | refine g_in_exit_ne (by decide) ?_ | refine g_seq ?_ | refine g_region ?_ | refine g_block ?_ | refine g_ret ?_ | refine g_return_n ?_ | refine g_exit ?_ | refine g_skip ?_)
            refine ret1 rfl (resT rfl) ⟨congrArg Value.bool ?_, rfl⟩
            ((try (simp only [decide_eq_true_eq, decide_eq_false_iff_not, ge_iff_le, gt_iff_lt, beq_iff_eq, beq_eq_false_iff_ne, ne_eq] at *)); unfold validS greatN; rw [if_pos k1]; generalize s.text.size = m at *; (rw [Bool.eq_iff_iff]; simp_all <;> omega))
          · refine o_unwanted rfl rfl rfl rfl rfl ?_
            refine o_unwanted rfl rfl rfl rfl rfl ?_
            refine o_unwanted rfl rfl rfl rfl rfl ?_
            refine o_pick_f rfl rfl ?_
            refine o_assign ?_
            first | refine g_endt ?_ | refine g_end ?_
            repeat (first | refine g_endt ?_ | refine g_end ?_ | refine g_then ?_ | refine g_in_normal ?_ | refine g_then_ret ?_ | refine g_in_ret ?_ | refine g_then_exit ?_ | refine g_in_exit rfl ?_ | refine g_in_exit_ne (by decide) ?_ | refine g_seq ?_ | refine g_region ?_ | refine g_block ?_ | refine g_ret ?_ | refine g_return_n ?_ | refine g_exit ?_ | refine g_skip ?_)
            refine ret1 rfl (resT rfl) ⟨congrArg Value.bool ?_, rfl⟩
            ((try (simp only [decide_eq_true_eq, decide_eq_false_iff_not, ge_iff_le, gt_iff_lt, beq_iff_eq, beq_eq_false_iff_ne, ne_eq] at *)); unfold validS greatN; rw [if_pos k1]; generalize s.text.size = m at *; (rw [Bool.eq_iff_iff]; simp_all <;> omega))
        · refine o_unwanted rfl rfl rfl rfl rfl ?_
          refine o_unwanted rfl rfl rfl rfl rfl ?_
          refine o_unwanted rfl rfl rfl rfl rfl ?_
          refine o_pick_f rfl rfl ?_
          refine o_move ?_
          refine o_unwanted rfl rfl rfl rfl rfl ?_
          refine o_unwanted rfl rfl rfl rfl rfl ?_
          refine o_unwanted rfl rfl rfl rfl rfl ?_
          refine o_pick_f rfl rfl ?_
          refine o_assign ?_
          first | refine g_endt ?_ | refine g_end ?_
          repeat (first | refine g_endt ?_ | refine g_end ?_ | refine g_then ?_ | refine g_in_normal ?_ | refine g_then_ret ?_ | refine g_in_ret ?_ | refine g_then_exit ?_ | refine g_in_exit rfl ?_ | refine g_in_exit_ne (by decide) ?_ | refine g_seq ?_ | refine g_region ?_ | refine g_block ?_ | refine g_ret ?_ | refine g_return_n ?_ | refine g_exit ?_ | refine g_skip ?_)
          refine ret1 rfl (resT rfl) ⟨congrArg Value.bool ?_, rfl⟩
          ((try (simp only [decide_eq_true_eq, decide_eq_false_iff_not, ge_iff_le, gt_iff_lt, beq_iff_eq, beq_eq_false_iff_ne, ne_eq] at *)); unfold validS greatN; rw [if_pos k1]; generalize s.text.size = m at *; (rw [Bool.eq_iff_iff]; simp_all <;> omega))
      · refine o_unwanted rfl rfl rfl rfl rfl ?_
        refine o_unwanted rfl rfl rfl rfl rfl ?_
        refine o_unwanted rfl rfl rfl rfl rfl ?_
        refine o_unwanted rfl rfl rfl rfl rfl ?_
        refine o_pick_f rfl rfl ?_
        refine o_move ?_
        refine o_unwanted rfl rfl rfl rfl rfl ?_
        refine o_unwanted rfl rfl rfl rfl rfl ?_
        refine o_unwanted rfl rfl rfl rfl rfl ?_
        refine o_pick_f rfl rfl ?_
        refine o_move ?_
        refine o_unwanted rfl rfl rfl rfl rfl ?_
        refine o_unwanted rfl rfl rfl rfl rfl ?_
        refine o_unwanted rfl rfl rfl rfl rfl ?_
        refine o_pick_f rfl rfl ?_
        refine o_assign ?_
        first | refine g_endt ?_ | refine g_end ?_
        repeat (first | refine g_endt ?_ | refine g_end ?_ | refine g_then ?_ | refine g_in_normal ?_ | refine g_then_ret ?_ | refine g_in_ret ?_ | refine g_then_exit ?_ | refine g_in_exit rfl ?_ | refine g_in_exit_ne (by decide) ?_ | refine g_seq ?_ | refine g_region ?_ | refine g_block ?_ | refine g_ret ?_ | refine g_return_n ?_ | refine g_exit ?_ | refine g_skip ?_)
        refine ret1 rfl (resT rfl) ⟨congrArg Value.bool ?_, rfl⟩
        ((try (simp only [decide_eq_true_eq, decide_eq_false_iff_not, ge_iff_le, gt_iff_lt, beq_iff_eq, beq_eq_false_iff_ne, ne_eq] at *)); unfold validS greatN; rw [if_pos k1]; generalize s.text.size = m at *; (rw [Bool.eq_iff_iff]; simp_all <;> omega))
    · refine o_unwanted rfl rfl rfl rfl rfl ?_
      refine o_unwanted rfl rfl rfl rfl rfl ?_
      refine o_unwanted rfl rfl rfl rfl rfl ?_
      refine o_unwanted rfl rfl rfl rfl rfl ?_
      refine o_pick_f rfl rfl ?_
      refine o_move ?_
      refine o_unwanted rfl rfl rfl rfl rfl ?_
      refine o_unwanted rfl rfl rfl rfl rfl ?_
      refine o_unwanted rfl rfl rfl rfl rfl ?_
      refine o_unwanted rfl rfl rfl rfl rfl ?_
      refine o_pick_f rfl rfl ?_
      refine o_move ?_
      refine o_unwanted rfl rfl rfl rfl rfl ?_
      refine o_unwanted rfl rfl rfl rfl rfl ?_
      refine o_unwanted rfl rfl rfl rfl rfl ?_
      refine o_pick_f rfl rfl ?_
      refine o_move ?_
      refine o_unwanted rfl rfl rfl rfl rfl ?_
      refine o_unwanted rfl rfl rfl rfl rfl ?_
      refine o_unwanted rfl rfl rfl rfl rfl ?_
      refine o_pick_f rfl rfl ?_
      refine o_assign ?_
      first | refine g_endt ?_ | refine g_end ?_
      repeat (first | refine g_endt ?_ | refine g_end ?_ | refine g_then ?_ | refine g_in_normal ?_ | refine g_then_ret ?_ | refine g_in_ret ?_ | refine g_then_exit ?_ | refine g_in_exit rfl ?_ | refine g_in_exit_ne (by decide) ?_ | refine g_seq ?_ | refine g_region ?_ | refine g_block ?_ | refine g_ret ?_ | refine g_return_n ?_ | refine g_exit ?_ | refine g_skip ?_)
      refine ret1 rfl (resT rfl) ⟨congrArg Value.bool ?_, rfl⟩
      ((try (simp only [decide_eq_true_eq, decide_eq_false_iff_not, ge_iff_le, gt_iff_lt, beq_iff_eq, beq_eq_false_iff_ne, ne_eq] at *)); unfold validS greatN; rw [if_pos k1]; generalize s.text.size = m at *; (rw [Bool.eq_iff_iff]; simp_all <;> omega))
  first | refine g_seq (g_cond_f rfl (by simpa using k1) ?_) | refine g_cond_f rfl (by simpa using k1) ?_
  repeat (first | refine g_endt ?_ | refine g_end ?_ | refine g_then ?_ | refine g_in_normal ?_ | refine g_then_ret ?_ | refine g_in_ret ?_ | refine g_then_exit ?_ | refine g_in_exit rfl ?_ | refine g_in_exit_ne (by decide) ?_ | refine g_seq ?_ | refine g_region ?_ | refine g_block ?_ | refine g_ret ?_ | refine g_return_n ?_ | refine g_exit ?_ | refine g_skip ?_)
  refine o_eql rfl rfl ?_
  refine o_assign ?_
  first | refine g_endt ?_ | refine g_end ?_
  by_cases k2 : s.kind = 2
  · first | refine g_seq (g_cond_t rfl (by simpa using k2) ?_) | refine g_cond_t rfl (by simpa using k2) ?_
    repeat (first | refine g_endt ?_ | refine g_end ?_ | refine g_then ?_ | refine g_in_normal ?_ | refine g_then_ret ?_ | refine g_in_ret ?_ | refine g_then_exit ?_ | refine g_in_exit rfl ?_ | refine g_in_exit_ne (by decide) ?_ | refine g_seq ?_ | refine g_region ?_ | refine g_block ?_ | refine g_ret ?_ | refine g_return_n ?_ | refine g_exit ?_ | refine g_skip ?_)
    first | refine o_field rfl ?_ | refine o_fieldR rfl (by omega) ?_
    refine o_load1 (v := .string s.text) rfl rfl ?_
    refine o_seql rfl rfl ?_
    refine o_moveB rfl (fun h3 => ?_) (fun h3 => ?_)
    · first | refine o_want rfl rfl rfl rfl rfl <| o_field rfl ?_ | refine o_want rfl rfl rfl rfl rfl <| o_fieldR rfl (by omega) ?_
      refine o_want rfl rfl rfl rfl rfl <| o_load1 (v := .int .i64 s.n) rfl rfl ?_
      refine o_want rfl rfl rfl rfl rfl <| o_geq rfl rfl ?_
      refine o_pick_t rfl rfl ?_
      refine o_moveB rfl (fun h8 => ?_) (fun h8 => ?_)
      · first | refine o_want rfl rfl rfl rfl rfl <| o_field rfl ?_ | refine o_want rfl rfl rfl rfl rfl <| o_fieldR rfl (by omega) ?_
        refine o_want rfl rfl rfl rfl rfl <| o_load1 (v := .int .i64 s.n) rfl rfl ?_
        refine o_want rfl rfl rfl rfl rfl <| o_leq rfl rfl ?_
        refine o_pick_t rfl rfl ?_
        refine o_assign ?_
        first | refine g_endt ?_ | refine g_end ?_
        repeat (first | refine g_endt ?_ | refine g_end ?_ | refine g_then ?_ | refine g_in_normal ?_ | refine g_then_ret ?_ | refine g_in_ret ?_ | refine g_then_exit ?_ | refine g_in_exit rfl ?_ | refine g_in_exit_ne (by decide) ?_ | refine g_seq ?_ | refine g_region ?_ | refine g_block ?_ | refine g_ret ?_ | refine g_return_n ?_ | refine g_exit ?_ | refine g_skip ?_)
        refine ret1 rfl (resT rfl) ⟨congrArg Value.bool ?_, rfl⟩
        (unfold validS; rw [if_neg k1, if_pos k2, show (decide (s.text = ByteArray.empty)) = (s.text.toList == ({ data := #[] } : ByteArray).toList) from (text_empty s.text).symm]; generalize (s.text.toList == ({ data := #[] } : ByteArray).toList) = tb at *; (try (simp only [decide_eq_true_eq, decide_eq_false_iff_not, ge_iff_le, gt_iff_lt] at *)); cases tb <;> (rw [Bool.eq_iff_iff]; simp_all <;> omega))
      · refine o_unwanted rfl rfl rfl rfl rfl ?_
        refine o_unwanted rfl rfl rfl rfl rfl ?_
        refine o_unwanted rfl rfl rfl rfl rfl ?_
        refine o_pick_f rfl rfl ?_
        refine o_assign ?_
        first | refine g_endt ?_ | refine g_end ?_
        repeat (first | refine g_endt ?_ | refine g_end ?_ | refine g_then ?_ | refine g_in_normal ?_ | refine g_then_ret ?_ | refine g_in_ret ?_ | refine g_then_exit ?_ | refine g_in_exit rfl ?_ | refine g_in_exit_ne (by decide) ?_ | refine g_seq ?_ | refine g_region ?_ | refine g_block ?_ | refine g_ret ?_ | refine g_return_n ?_ | refine g_exit ?_ | refine g_skip ?_)
        refine ret1 rfl (resT rfl) ⟨congrArg Value.bool ?_, rfl⟩
        (unfold validS; rw [if_neg k1, if_pos k2, show (decide (s.text = ByteArray.empty)) = (s.text.toList == ({ data := #[] } : ByteArray).toList) from (text_empty s.text).symm]; generalize (s.text.toList == ({ data := #[] } : ByteArray).toList) = tb at *; (try (simp only [decide_eq_true_eq, decide_eq_false_iff_not, ge_iff_le, gt_iff_lt] at *)); cases tb <;> (rw [Bool.eq_iff_iff]; simp_all <;> omega))
    · refine o_unwanted rfl rfl rfl rfl rfl ?_
      refine o_unwanted rfl rfl rfl rfl rfl ?_
      refine o_unwanted rfl rfl rfl rfl rfl ?_
      refine o_pick_f rfl rfl ?_
      refine o_move ?_
      refine o_unwanted rfl rfl rfl rfl rfl ?_
      refine o_unwanted rfl rfl rfl rfl rfl ?_
      refine o_unwanted rfl rfl rfl rfl rfl ?_
      refine o_pick_f rfl rfl ?_
      refine o_assign ?_
      first | refine g_endt ?_ | refine g_end ?_
      repeat (first | refine g_endt ?_ | refine g_end ?_ | refine g_then ?_ | refine g_in_normal ?_ | refine g_then_ret ?_ | refine g_in_ret ?_ | refine g_then_exit ?_ | refine g_in_exit rfl ?_ | refine g_in_exit_ne (by decide) ?_ | refine g_seq ?_ | refine g_region ?_ | refine g_block ?_ | refine g_ret ?_ | refine g_return_n ?_ | refine g_exit ?_ | refine g_skip ?_)
      refine ret1 rfl (resT rfl) ⟨congrArg Value.bool ?_, rfl⟩
      (unfold validS; rw [if_neg k1, if_pos k2, show (decide (s.text = ByteArray.empty)) = (s.text.toList == ({ data := #[] } : ByteArray).toList) from (text_empty s.text).symm]; generalize (s.text.toList == ({ data := #[] } : ByteArray).toList) = tb at *; (try (simp only [decide_eq_true_eq, decide_eq_false_iff_not, ge_iff_le, gt_iff_lt] at *)); cases tb <;> (rw [Bool.eq_iff_iff]; simp_all <;> omega))
  first | refine g_seq (g_cond_f rfl (by simpa using k2) ?_) | refine g_cond_f rfl (by simpa using k2) ?_
  repeat (first | refine g_endt ?_ | refine g_end ?_ | refine g_then ?_ | refine g_in_normal ?_ | refine g_then_ret ?_ | refine g_in_ret ?_ | refine g_then_exit ?_ | refine g_in_exit rfl ?_ | refine g_in_exit_ne (by decide) ?_ | refine g_seq ?_ | refine g_region ?_ | refine g_block ?_ | refine g_ret ?_ | refine g_return_n ?_ | refine g_exit ?_ | refine g_skip ?_)
  refine o_eql rfl rfl ?_
  refine o_assign ?_
  first | refine g_endt ?_ | refine g_end ?_
  by_cases k3 : s.kind = 3
  · first | refine g_seq (g_cond_t rfl (by simpa using k3) ?_) | refine g_cond_t rfl (by simpa using k3) ?_
    repeat (first | refine g_endt ?_ | refine g_end ?_ | refine g_then ?_ | refine g_in_normal ?_ | refine g_then_ret ?_ | refine g_in_ret ?_ | refine g_then_exit ?_ | refine g_in_exit rfl ?_ | refine g_in_exit_ne (by decide) ?_ | refine g_seq ?_ | refine g_region ?_ | refine g_block ?_ | refine g_ret ?_ | refine g_return_n ?_ | refine g_exit ?_ | refine g_skip ?_)
    first | refine o_field rfl ?_ | refine o_fieldR rfl (by omega) ?_
    refine o_load1 (v := .int .i64 s.n) rfl rfl ?_
    refine o_eql rfl rfl ?_
    refine o_moveB rfl (fun h3 => ?_) (fun h3 => ?_)
    · first | refine o_want rfl rfl rfl rfl rfl <| o_field rfl ?_ | refine o_want rfl rfl rfl rfl rfl <| o_fieldR rfl (by omega) ?_
      refine o_want rfl rfl rfl rfl rfl <| o_load1 (v := .string s.text) rfl rfl ?_
      refine o_want rfl rfl rfl rfl rfl <| o_call (Word04_spec s.text hb) rfl rfl ?_
      rintro _ _ ⟨rfl, rfl⟩
      refine o_pick_t rfl rfl ?_
      refine o_assign ?_
      first | refine g_endt ?_ | refine g_end ?_
      repeat (first | refine g_endt ?_ | refine g_end ?_ | refine g_then ?_ | refine g_in_normal ?_ | refine g_then_ret ?_ | refine g_in_ret ?_ | refine g_then_exit ?_ | refine g_in_exit rfl ?_ | refine g_in_exit_ne (by decide) ?_ | refine g_seq ?_ | refine g_region ?_ | refine g_block ?_ | refine g_ret ?_ | refine g_return_n ?_ | refine g_exit ?_ | refine g_skip ?_)
      refine ret1 rfl (resT rfl) ⟨congrArg Value.bool ?_, rfl⟩
      (unfold validS; rw [if_neg k1, if_neg k2, if_pos k3]; simp only [beq_iff_eq, beq_eq_false_iff_ne, ne_eq] at *; simp_all)
    · refine o_unwanted rfl rfl rfl rfl rfl ?_
      refine o_unwanted rfl rfl rfl rfl rfl ?_
      refine o_unwanted rfl rfl rfl rfl rfl ?_
      refine o_pick_f rfl rfl ?_
      refine o_assign ?_
      first | refine g_endt ?_ | refine g_end ?_
      repeat (first | refine g_endt ?_ | refine g_end ?_ | refine g_then ?_ | refine g_in_normal ?_ | refine g_then_ret ?_ | refine g_in_ret ?_ | refine g_then_exit ?_ | refine g_in_exit rfl ?_ | refine g_in_exit_ne (by decide) ?_ | refine g_seq ?_ | refine g_region ?_ | refine g_block ?_ | refine g_ret ?_ | refine g_return_n ?_ | refine g_exit ?_ | refine g_skip ?_)
      refine ret1 rfl (resT rfl) ⟨congrArg Value.bool ?_, rfl⟩
      (unfold validS; rw [if_neg k1, if_neg k2, if_pos k3]; simp only [beq_iff_eq, beq_eq_false_iff_ne, ne_eq] at *; simp_all)
  first | refine g_seq (g_cond_f rfl (by simpa using k3) ?_) | refine g_cond_f rfl (by simpa using k3) ?_
  repeat (first | refine g_endt ?_ | refine g_end ?_ | refine g_then ?_ | refine g_in_normal ?_ | refine g_then_ret ?_ | refine g_in_ret ?_ | refine g_then_exit ?_ | refine g_in_exit rfl ?_ | refine g_in_exit_ne (by decide) ?_ | refine g_seq ?_ | refine g_region ?_ | refine g_block ?_ | refine g_ret ?_ | refine g_return_n ?_ | refine g_exit ?_ | refine g_skip ?_)
  refine o_assign ?_
  first | refine g_endt ?_ | refine g_end ?_
  repeat (first | refine g_endt ?_ | refine g_end ?_ | refine g_then ?_ | refine g_in_normal ?_ | refine g_then_ret ?_ | refine g_in_ret ?_ | refine g_then_exit ?_ | refine g_in_exit rfl ?_ | refine g_in_exit_ne (by decide) ?_ | refine g_seq ?_ | refine g_region ?_ | refine g_block ?_ | refine g_ret ?_ | refine g_return_n ?_ | refine g_exit ?_ | refine g_skip ?_)
  exact ret1 rfl (resT (v := .bool false) rfl) ⟨by unfold validS; rw [if_neg k1, if_neg k2, if_neg k3], rfl⟩
theorem Const_spec (s : SymD) (hb : s.text.size ≤ 4611686018427387904) : Ctr Try.prog 13 [s.val] [] (fun v M => v = .bool (validS s && decide (s.kind ≠ 1)) ∧ M = []) := by
  refine spec_of Try.func13 rfl Try.ntmps13 rfl fun w0 F => ?_
  -- ponder/ponderref04.Const
  repeat (first | refine g_endt ?_ | refine g_end ?_ | refine g_then ?_ | refine g_in_normal ?_ | refine g_then_ret ?_ | refine g_in_ret ?_ | refine g_then_exit ?_ | refine g_in_exit rfl ?_ | refine g_in_exit_ne (by decide) ?_ | refine g_seq ?_ | refine g_region ?_ | refine g_block ?_ | refine g_ret ?_ | refine g_return_n ?_ | refine g_exit ?_ | refine g_skip ?_)
  refine o_boxc s.val.cells rfl rfl fun q => ?_
  refine o_assign ?_
  first | refine g_endt ?_ | refine g_end ?_
  repeat (first | refine g_endt ?_ | refine g_end ?_ | refine g_then ?_ | refine g_in_normal ?_ | refine g_then_ret ?_ | refine g_in_ret ?_ | refine g_then_exit ?_ | refine g_in_exit rfl ?_ | refine g_in_exit_ne (by decide) ?_ | refine g_seq ?_ | refine g_region ?_ | refine g_block ?_ | refine g_ret ?_ | refine g_return_n ?_ | refine g_exit ?_ | refine g_skip ?_)
  refine o_loadN (v := s.val) rfl rfl rfl ?_
  refine o_call (Valid04_spec s hb) rfl rfl ?_
  rintro _ _ ⟨rfl, rfl⟩
  refine o_moveB rfl (fun h2 => ?_) (fun h2 => ?_)
  · first | refine o_want rfl rfl rfl rfl rfl <| o_field rfl ?_ | refine o_want rfl rfl rfl rfl rfl <| o_fieldR rfl (by omega) ?_
    refine o_want rfl rfl rfl rfl rfl <| o_load1 (v := .int .i64 s.kind) rfl rfl ?_
    refine o_want rfl rfl rfl rfl rfl <| o_neq rfl rfl ?_
    refine o_pick_t rfl rfl ?_
    refine o_assign ?_
    first | refine g_endt ?_ | refine g_end ?_
    repeat (first | refine g_endt ?_ | refine g_end ?_ | refine g_then ?_ | refine g_in_normal ?_ | refine g_then_ret ?_ | refine g_in_ret ?_ | refine g_then_exit ?_ | refine g_in_exit rfl ?_ | refine g_in_exit_ne (by decide) ?_ | refine g_seq ?_ | refine g_region ?_ | refine g_block ?_ | refine g_ret ?_ | refine g_return_n ?_ | refine g_exit ?_ | refine g_skip ?_)
    refine ret1 rfl (resT rfl) ⟨congrArg Value.bool ?_, rfl⟩
    (rw [h2]; rw [Bool.eq_iff_iff]; simp)
  · refine o_unwanted rfl rfl rfl rfl rfl ?_
    refine o_unwanted rfl rfl rfl rfl rfl ?_
    refine o_unwanted rfl rfl rfl rfl rfl ?_
    refine o_pick_f rfl rfl ?_
    refine o_assign ?_
    first | refine g_endt ?_ | refine g_end ?_
    repeat (first | refine g_endt ?_ | refine g_end ?_ | refine g_then ?_ | refine g_in_normal ?_ | refine g_then_ret ?_ | refine g_in_ret ?_ | refine g_then_exit ?_ | refine g_in_exit rfl ?_ | refine g_in_exit_ne (by decide) ?_ | refine g_seq ?_ | refine g_region ?_ | refine g_block ?_ | refine g_ret ?_ | refine g_return_n ?_ | refine g_exit ?_ | refine g_skip ?_)
    refine ret1 rfl (resT rfl) ⟨congrArg Value.bool ?_, rfl⟩
    (rw [h2]; rw [Bool.eq_iff_iff]; simp)
/-- The texts of an element are short enough to be walked. -/
def ElemD.small (e : ElemD) : Prop := e.id.text.size ≤ 4611686018427387904 ∧ e.attr.text.size ≤ 4611686018427387904 ∧ e.value.text.size ≤ 4611686018427387904
theorem ValidR_spec (e : ElemD) (hb : e.small) : Ctr Try.prog 54 [e.val] [] (fun v M => v = .bool (validE e) ∧ M = []) := by
  refine spec_of Try.func54 rfl Try.ntmps54 rfl fun w0 F => ?_
  -- ponder/ponderref10.Valid
  repeat (first | refine g_endt ?_ | refine g_end ?_ | refine g_then ?_ | refine g_in_normal ?_ | refine g_then_ret ?_ | refine g_in_ret ?_ | refine g_then_exit ?_ | refine g_in_exit rfl ?_ | refine g_in_exit_ne (by decide) ?_ | refine g_seq ?_ | refine g_region ?_ | refine g_block ?_ | refine g_ret ?_ | refine g_return_n ?_ | refine g_exit ?_ | refine g_skip ?_)
  refine o_boxc e.val.cells rfl rfl fun q => ?_
  refine o_assign ?_
  first | refine g_endt ?_ | refine g_end ?_
  repeat (first | refine g_endt ?_ | refine g_end ?_ | refine g_then ?_ | refine g_in_normal ?_ | refine g_then_ret ?_ | refine g_in_ret ?_ | refine g_then_exit ?_ | refine g_in_exit rfl ?_ | refine g_in_exit_ne (by decide) ?_ | refine g_seq ?_ | refine g_region ?_ | refine g_block ?_ | refine g_ret ?_ | refine g_return_n ?_ | refine g_exit ?_ | refine g_skip ?_)
  first | refine o_field rfl ?_ | refine o_fieldR rfl (by omega) ?_
  refine o_loadN (v := e.id.val) rfl rfl rfl ?_
  refine o_call (Valid04_spec e.id hb.1) rfl rfl ?_
  rintro _ _ ⟨rfl, rfl⟩
  refine o_moveB rfl (fun h3 => ?_) (fun h3 => ?_)
  · first | refine o_want rfl rfl rfl rfl rfl <| o_field rfl ?_ | refine o_want rfl rfl rfl rfl rfl <| o_fieldR rfl (by omega) ?_
    first | refine o_want rfl rfl rfl rfl rfl <| o_field rfl ?_ | refine o_want rfl rfl rfl rfl rfl <| o_fieldR rfl (by omega) ?_
    refine o_want rfl rfl rfl rfl rfl <| o_load1 (v := .int .i64 e.id.kind) rfl rfl ?_
    refine o_want rfl rfl rfl rfl rfl <| o_eql rfl rfl ?_
    refine o_pick_t rfl rfl ?_
    refine o_moveB rfl (fun h9 => ?_) (fun h9 => ?_)
    · first | refine o_want rfl rfl rfl rfl rfl <| o_field rfl ?_ | refine o_want rfl rfl rfl rfl rfl <| o_fieldR rfl (by omega) ?_
      refine o_want rfl rfl rfl rfl rfl <| o_loadN (v := e.attr.val) rfl rfl rfl ?_
      refine o_want rfl rfl rfl rfl rfl <| o_call (Const_spec e.attr hb.2.1) rfl rfl ?_
      rintro _ _ ⟨rfl, rfl⟩
      refine o_pick_t rfl rfl ?_
      refine o_moveB rfl (fun h14 => ?_) (fun h14 => ?_)
      · first | refine o_want rfl rfl rfl rfl rfl <| o_field rfl ?_ | refine o_want rfl rfl rfl rfl rfl <| o_fieldR rfl (by omega) ?_
        refine o_want rfl rfl rfl rfl rfl <| o_loadN (v := e.value.val) rfl rfl rfl ?_
        refine o_want rfl rfl rfl rfl rfl <| o_call (Valid04_spec e.value hb.2.2) rfl rfl ?_
        rintro _ _ ⟨rfl, rfl⟩
        refine o_pick_t rfl rfl ?_
        refine o_assign ?_
        first | refine g_endt ?_ | refine g_end ?_
        repeat (first | refine g_endt ?_ | refine g_end ?_ | refine g_then ?_ | refine g_in_normal ?_ | refine g_then_ret ?_ | refine g_in_ret ?_ | refine g_then_exit ?_ | refine g_in_exit rfl ?_ | refine g_in_exit_ne (by decide) ?_ | refine g_seq ?_ | refine g_region ?_ | refine g_block ?_ | refine g_ret ?_ | refine g_return_n ?_ | refine g_exit ?_ | refine g_skip ?_)
        refine ret1 rfl (resT rfl) ⟨congrArg Value.bool ?_, rfl⟩
        (unfold validE; generalize validS e.id = a1 at *; generalize validS e.attr = a2 at *; generalize validS e.value = a3 at *; simp only [beq_iff_eq, beq_eq_false_iff_ne, ne_eq] at *; simp_all)
      · refine o_unwanted rfl rfl rfl rfl rfl ?_
        refine o_unwanted rfl rfl rfl rfl rfl ?_
        refine o_unwanted rfl rfl rfl rfl rfl ?_
        refine o_pick_f rfl rfl ?_
        refine o_assign ?_
        first | refine g_endt ?_ | refine g_end ?_
        repeat (first | refine g_endt ?_ | refine g_end ?_ | refine g_then ?_ | refine g_in_normal ?_ | refine g_then_ret ?_ | refine g_in_ret ?_ | refine g_then_exit ?_ | refine g_in_exit rfl ?_ | refine g_in_exit_ne (by decide) ?_ | refine g_seq ?_ | refine g_region ?_ | refine g_block ?_ | refine g_ret ?_ | refine g_return_n ?_ | refine g_exit ?_ | refine g_skip ?_)
        refine ret1 rfl (resT rfl) ⟨congrArg Value.bool ?_, rfl⟩
        (unfold validE; generalize validS e.id = a1 at *; generalize validS e.attr = a2 at *; generalize validS e.value = a3 at *; simp only [beq_iff_eq, beq_eq_false_iff_ne, ne_eq] at *; simp_all)
    · refine o_unwanted rfl rfl rfl rfl rfl ?_
      refine o_unwanted rfl rfl rfl rfl rfl ?_
      refine o_unwanted rfl rfl rfl rfl rfl ?_
      refine o_pick_f rfl rfl ?_
      refine o_move ?_
      refine o_unwanted rfl rfl rfl rfl rfl ?_
      refine o_unwanted rfl rfl rfl rfl rfl ?_
      refine o_unwanted rfl rfl rfl rfl rfl ?_
      refine o_pick_f rfl rfl ?_
      refine o_assign ?_
      first | refine g_endt ?_ | refine g_end ?_
      repeat (first | refine g_endt ?_ | refine g_end ?_ | refine g_then ?_ | refine g_in_normal ?_ | refine g_then_ret ?_ | refine g_in_ret ?_ | refine g_then_exit ?_ | refine g_in_exit rfl ?_ | refine g_in_exit_ne (by decide) ?_ | refine g_seq ?_ | refine g_region ?_ | refine g_block ?_ | refine g_ret ?_ | refine g_return_n ?_ | refine g_exit ?_ | refine g_skip ?_)
      refine ret1 rfl (resT rfl) ⟨congrArg Value.bool ?_, rfl⟩
      (unfold validE; generalize validS e.id = a1 at *; generalize validS e.attr = a2 at *; generalize validS e.value = a3 at *; simp only [beq_iff_eq, beq_eq_false_iff_ne, ne_eq] at *; simp_all)
  · refine o_unwanted rfl rfl rfl rfl rfl ?_
    refine o_unwanted rfl rfl rfl rfl rfl ?_
    refine o_unwanted rfl rfl rfl rfl rfl ?_
    refine o_unwanted rfl rfl rfl rfl rfl ?_
    refine o_pick_f rfl rfl ?_
    refine o_move ?_
    refine o_unwanted rfl rfl rfl rfl rfl ?_
    refine o_unwanted rfl rfl rfl rfl rfl ?_
    refine o_unwanted rfl rfl rfl rfl rfl ?_
    refine o_pick_f rfl rfl ?_
    refine o_move ?_
    refine o_unwanted rfl rfl rfl rfl rfl ?_
    refine o_unwanted rfl rfl rfl rfl rfl ?_
    refine o_unwanted rfl rfl rfl rfl rfl ?_
    refine o_pick_f rfl rfl ?_
    refine o_assign ?_
    first | refine g_endt ?_ | refine g_end ?_
    repeat (first | refine g_endt ?_ | refine g_end ?_ | refine g_then ?_ | refine g_in_normal ?_ | refine g_then_ret ?_ | refine g_in_ret ?_ | refine g_then_exit ?_ | refine g_in_exit rfl ?_ | refine g_in_exit_ne (by decide) ?_ | refine g_seq ?_ | refine g_region ?_ | refine g_block ?_ | refine g_ret ?_ | refine g_return_n ?_ | refine g_exit ?_ | refine g_skip ?_)
    refine ret1 rfl (resT rfl) ⟨congrArg Value.bool ?_, rfl⟩
    (unfold validE; generalize validS e.id = a1 at *; generalize validS e.attr = a2 at *; generalize validS e.value = a3 at *; simp only [beq_iff_eq, beq_eq_false_iff_ne, ne_eq] at *; simp_all)
theorem ValidM_spec (e : ElemD) (hb : e.small) : Ctr Try.prog 15 [e.val] [] (fun v M => v = .bool (validE e) ∧ M = []) := by
  refine spec_of Try.func15 rfl Try.ntmps15 rfl fun w0 F => ?_
  -- ponder/mem.Valid
  repeat (first | refine g_endt ?_ | refine g_end ?_ | refine g_then ?_ | refine g_in_normal ?_ | refine g_then_ret ?_ | refine g_in_ret ?_ | refine g_then_exit ?_ | refine g_in_exit rfl ?_ | refine g_in_exit_ne (by decide) ?_ | refine g_seq ?_ | refine g_region ?_ | refine g_block ?_ | refine g_ret ?_ | refine g_return_n ?_ | refine g_exit ?_ | refine g_skip ?_)
  refine o_boxc e.val.cells rfl rfl fun q => ?_
  refine o_assign ?_
  first | refine g_endt ?_ | refine g_end ?_
  repeat (first | refine g_endt ?_ | refine g_end ?_ | refine g_then ?_ | refine g_in_normal ?_ | refine g_then_ret ?_ | refine g_in_ret ?_ | refine g_then_exit ?_ | refine g_in_exit rfl ?_ | refine g_in_exit_ne (by decide) ?_ | refine g_seq ?_ | refine g_region ?_ | refine g_block ?_ | refine g_ret ?_ | refine g_return_n ?_ | refine g_exit ?_ | refine g_skip ?_)
  first | refine o_field rfl ?_ | refine o_fieldR rfl (by omega) ?_
  first | refine o_field rfl ?_ | refine o_fieldR rfl (by omega) ?_
  refine o_load1 (v := .int .i64 e.id.kind) rfl rfl ?_
  refine o_eql rfl rfl ?_
  refine o_moveB rfl (fun h4 => ?_) (fun h4 => ?_)
  · first | refine o_want rfl rfl rfl rfl rfl <| o_field rfl ?_ | refine o_want rfl rfl rfl rfl rfl <| o_fieldR rfl (by omega) ?_
    first | refine o_want rfl rfl rfl rfl rfl <| o_field rfl ?_ | refine o_want rfl rfl rfl rfl rfl <| o_fieldR rfl (by omega) ?_
    refine o_want rfl rfl rfl rfl rfl <| o_load1 (v := .int .i64 e.attr.kind) rfl rfl ?_
    refine o_want rfl rfl rfl rfl rfl <| o_neq rfl rfl ?_
    refine o_pick_t rfl rfl ?_
    refine o_moveB rfl (fun h10 => ?_) (fun h10 => ?_)
    · first | refine o_want rfl rfl rfl rfl rfl <| o_field rfl ?_ | refine o_want rfl rfl rfl rfl rfl <| o_fieldR rfl (by omega) ?_
      refine o_want rfl rfl rfl rfl rfl <| o_loadN (v := e.id.val) rfl rfl rfl ?_
      refine o_want rfl rfl rfl rfl rfl <| o_call (Valid_spec e.id hb.1) rfl rfl ?_
      rintro _ _ ⟨rfl, rfl⟩
      refine o_pick_t rfl rfl ?_
      refine o_moveB rfl (fun h15 => ?_) (fun h15 => ?_)
      · first | refine o_want rfl rfl rfl rfl rfl <| o_field rfl ?_ | refine o_want rfl rfl rfl rfl rfl <| o_fieldR rfl (by omega) ?_
        refine o_want rfl rfl rfl rfl rfl <| o_loadN (v := e.attr.val) rfl rfl rfl ?_
        refine o_want rfl rfl rfl rfl rfl <| o_call (Valid_spec e.attr hb.2.1) rfl rfl ?_
        rintro _ _ ⟨rfl, rfl⟩
        refine o_pick_t rfl rfl ?_
        refine o_moveB rfl (fun h20 => ?_) (fun h20 => ?_)
        · first | refine o_want rfl rfl rfl rfl rfl <| o_field rfl ?_ | refine o_want rfl rfl rfl rfl rfl <| o_fieldR rfl (by omega) ?_
          refine o_want rfl rfl rfl rfl rfl <| o_loadN (v := e.value.val) rfl rfl rfl ?_
          refine o_want rfl rfl rfl rfl rfl <| o_call (Valid_spec e.value hb.2.2) rfl rfl ?_
          rintro _ _ ⟨rfl, rfl⟩
          refine o_pick_t rfl rfl ?_
          refine o_assign ?_
          first | refine g_endt ?_ | refine g_end ?_
          repeat (first | refine g_endt ?_ | refine g_end ?_ | refine g_then ?_ | refine g_in_normal ?_ | refine g_then_ret ?_ | refine g_in_ret ?_ | refine g_then_exit ?_ | refine g_in_exit rfl ?_ | refine g_in_exit_ne (by decide) ?_ | refine g_seq ?_ | refine g_region ?_ | refine g_block ?_ | refine g_ret ?_ | refine g_return_n ?_ | refine g_exit ?_ | refine g_skip ?_)
          refine ret1 rfl (resT rfl) ⟨congrArg Value.bool ?_, rfl⟩
          (unfold validE; generalize validS e.id = a1 at *; generalize validS e.attr = a2 at *; generalize validS e.value = a3 at *; simp only [beq_iff_eq, beq_eq_false_iff_ne, bne_iff_ne, ne_eq] at *; simp_all)
        · refine o_unwanted rfl rfl rfl rfl rfl ?_
          refine o_unwanted rfl rfl rfl rfl rfl ?_
          refine o_unwanted rfl rfl rfl rfl rfl ?_
          refine o_pick_f rfl rfl ?_
          refine o_assign ?_
          first | refine g_endt ?_ | refine g_end ?_
          repeat (first | refine g_endt ?_ | refine g_end ?_ | refine g_then ?_ | refine g_in_normal ?_ | refine g_then_ret ?_ | refine g_in_ret ?_ | refine g_then_exit ?_ | refine g_in_exit rfl ?_ | refine g_in_exit_ne (by decide) ?_ | refine g_seq ?_ | refine g_region ?_ | refine g_block ?_ | refine g_ret ?_ | refine g_return_n ?_ | refine g_exit ?_ | refine g_skip ?_)
          refine ret1 rfl (resT rfl) ⟨congrArg Value.bool ?_, rfl⟩
          (unfold validE; generalize validS e.id = a1 at *; generalize validS e.attr = a2 at *; generalize validS e.value = a3 at *; simp only [beq_iff_eq, beq_eq_false_iff_ne, bne_iff_ne, ne_eq] at *; simp_all)
      · refine o_unwanted rfl rfl rfl rfl rfl ?_
        refine o_unwanted rfl rfl rfl rfl rfl ?_
        refine o_unwanted rfl rfl rfl rfl rfl ?_
        refine o_pick_f rfl rfl ?_
        refine o_move ?_
        refine o_unwanted rfl rfl rfl rfl rfl ?_
        refine o_unwanted rfl rfl rfl rfl rfl ?_
        refine o_unwanted rfl rfl rfl rfl rfl ?_
        refine o_pick_f rfl rfl ?_
        refine o_assign ?_
        first | refine g_endt ?_ | refine g_end ?_
        repeat (first | refine g_endt ?_ | refine g_end ?_ | refine g_then ?_ | refine g_in_normal ?_ | refine g_then_ret ?_ | refine g_in_ret ?_ | refine g_then_exit ?_ | refine g_in_exit rfl ?_ | refine g_in_exit_ne (by decide) ?_ | refine g_seq ?_ | refine g_region ?_ | refine g_block ?_ | refine g_ret ?_ | refine g_return_n ?_ | refine g_exit ?_ | refine g_skip ?_)
        refine ret1 rfl (resT rfl) ⟨congrArg Value.bool ?_, rfl⟩
        (unfold validE; generalize validS e.id = a1 at *; generalize validS e.attr = a2 at *; generalize validS e.value = a3 at *; simp only [beq_iff_eq, beq_eq_false_iff_ne, bne_iff_ne, ne_eq] at *; simp_all)
    · refine o_unwanted rfl rfl rfl rfl rfl ?_
      refine o_unwanted rfl rfl rfl rfl rfl ?_
      refine o_unwanted rfl rfl rfl rfl rfl ?_
      refine o_pick_f rfl rfl ?_
      refine o_move ?_
      refine o_unwanted rfl rfl rfl rfl rfl ?_
      refine o_unwanted rfl rfl rfl rfl rfl ?_
      refine o_unwanted rfl rfl rfl rfl rfl ?_
      refine o_pick_f rfl rfl ?_
      refine o_move ?_
      refine o_unwanted rfl rfl rfl rfl rfl ?_
      refine o_unwanted rfl rfl rfl rfl rfl ?_
      refine o_unwanted rfl rfl rfl rfl rfl ?_
      refine o_pick_f rfl rfl ?_
      refine o_assign ?_
      first | refine g_endt ?_ | refine g_end ?_
      repeat (first | refine g_endt ?_ | refine g_end ?_ | refine g_then ?_ | refine g_in_normal ?_ | refine g_then_ret ?_ | refine g_in_ret ?_ | refine g_then_exit ?_ | refine g_in_exit rfl ?_ | refine g_in_exit_ne (by decide) ?_ | refine g_seq ?_ | refine g_region ?_ | refine g_block ?_ | refine g_ret ?_ | refine g_return_n ?_ | refine g_exit ?_ | refine g_skip ?_)
      refine ret1 rfl (resT rfl) ⟨congrArg Value.bool ?_, rfl⟩
      (unfold validE; generalize validS e.id = a1 at *; generalize validS e.attr = a2 at *; generalize validS e.value = a3 at *; simp only [beq_iff_eq, beq_eq_false_iff_ne, bne_iff_ne, ne_eq] at *; simp_all)
  · refine o_unwanted rfl rfl rfl rfl rfl ?_
    refine o_unwanted rfl rfl rfl rfl rfl ?_
    refine o_unwanted rfl rfl rfl rfl rfl ?_
    refine o_unwanted rfl rfl rfl rfl rfl ?_
    refine o_pick_f rfl rfl ?_
    refine o_move ?_
    refine o_unwanted rfl rfl rfl rfl rfl ?_
    refine o_unwanted rfl rfl rfl rfl rfl ?_
    refine o_unwanted rfl rfl rfl rfl rfl ?_
    refine o_pick_f rfl rfl ?_
    refine o_move ?_
    refine o_unwanted rfl rfl rfl rfl rfl ?_
    refine o_unwanted rfl rfl rfl rfl rfl ?_
    refine o_unwanted rfl rfl rfl rfl rfl ?_
    refine o_pick_f rfl rfl ?_
    refine o_move ?_
    refine o_unwanted rfl rfl rfl rfl rfl ?_
    refine o_unwanted rfl rfl rfl rfl rfl ?_
    refine o_unwanted rfl rfl rfl rfl rfl ?_
    refine o_pick_f rfl rfl ?_
    refine o_assign ?_
    first | refine g_endt ?_ | refine g_end ?_
    repeat (first | refine g_endt ?_ | refine g_end ?_ | refine g_then ?_ | refine g_in_normal ?_ | refine g_then_ret ?_ | refine g_in_ret ?_ | refine g_then_exit ?_ | refine g_in_exit rfl ?_ | refine g_in_exit_ne (by decide) ?_ | refine g_seq ?_ | refine g_region ?_ | refine g_block ?_ | refine g_ret ?_ | refine g_return_n ?_ | refine g_exit ?_ | refine g_skip ?_)
    refine ret1 rfl (resT rfl) ⟨congrArg Value.bool ?_, rfl⟩
    (unfold validE; generalize validS e.id = a1 at *; generalize validS e.attr = a2 at *; generalize validS e.value = a3 at *; simp only [beq_iff_eq, beq_eq_false_iff_ne, bne_iff_ne, ne_eq] at *; simp_all)
end Go.Proofs.Ytdpbjoldgiikkaa
/- Things told one by one, as values; a list that grows in a variable. -/
namespace Go.Proofs.Ytdpbjoldgiikkaa
open Go Go.Sl
attribute [local irreducible] Code.wpIn roundPost bodyPostM runL Ret Meets Begin

def encVE (x : ElemD) : List Value := [ElemD.val x]
/-- A list that grows, in a variable. -/
def GrowE (p : Nat) (pre : List ElemD) : SProp := ex fun r : Option Addr × Nat => sl [cellsB p #[.slice r.1 pre.length r.2] 27, osl 25 encE 12 r.1 r.2 pre]
section
variable {w0 : World} {A : SProp} {L M : List SProp} {Φ : World → Prop}
theorem openGE (p : Nat) (pre : List ElemD) [tk : Take1 L (GrowE p pre) M] (h : ∀ S c, G w0 A (cellsB p #[.slice S pre.length c] 27 :: osl 25 encE 12 S c pre :: M) Φ) : G w0 A L Φ :=
  G.perm tk.perm (G.ex fun ⟨S, c⟩ => G.open_sl (h S c))
theorem shutGE (p : Nat) (pre : List ElemD) (S : Option Addr) (c : Nat) {n : Nat} (hn : pre.length = n) [tk : Take L [cellsB p #[.slice S n c] 27, osl 25 encE 12 S c pre] M] (h : G w0 A (GrowE p pre :: M) Φ) : G w0 A L Φ := by
  subst hn
  exact G.perm tk.perm (G.ent ((sl_append_to _ M).trans (Ent.star (show Ent _ (GrowE p pre) from fun _ _ x => ⟨(S, c), x⟩) (Ent.refl _))) h)
theorem newGE (p : Nat) [tk : Take1 L (cellsB p #[.slice none 0 0] 27) M] (h : G w0 A (GrowE p [] :: M) Φ) : G w0 A L Φ :=
  G.perm tk.perm (G.nil_slice 25 encE 12 (shutGE p [] none 0 rfl (M := M) (tk := ⟨List.Perm.swap _ _ _⟩) h))
end
end Go.Proofs.Ytdpbjoldgiikkaa
