/- A region comes to the same in every order that its edges let. Conditions: as each theorem says. -/
import Derived.Test.YthoicdnlcnppgaaAmCm
set_option linter.unusedVariables false
set_option linter.unusedSimpArgs false
namespace Go.Am
open Go.RowKit
/-! ### A region in whatever order -/
def RecFresh (rec : Rec) : Prop := ∀ f args h r h', rec f args h = some (r, h') → h.nx ≤ h'.nx ∧ ∀ id, id < h.nx → h.o id = none → h'.o id = none
theorem oval_fresh {rec : Rec} (hrec : RecFresh rec) {j : Nat} {o : AOper} {s : St} {v : T} {h : AH} (hv : oval rec j o s = some (v, h)) : s.h.nx ≤ h.nx ∧ ∀ id, id < s.h.nx → id ≠ j → s.h.o id = none → h.o id = none := by
  unfold oval at hv
  cases hg : wants s.t o.guard with
  | none => rw [hg] at hv; cases hv
  | some b =>
    rw [hg] at hv
    cases b with
    | false => simp only [Option.some.injEq, Prod.mk.injEq] at hv; obtain ⟨_, rfl⟩ := hv; exact ⟨Nat.le_refl _, fun _ _ _ h => h⟩
    | true =>
      simp only [opv] at hv
      cases hc : o.op.cls with
      | a =>
        rw [hc] at hv
        obtain ⟨x, _, he⟩ := Option.map_eq_some_iff.1 hv
        simp only [Prod.mk.injEq] at he
        obtain ⟨_, rfl⟩ := he
        exact ⟨Nat.le_refl _, fun _ _ _ h => h⟩
      | l =>
        rw [hc] at hv
        obtain ⟨x, _, he⟩ := Option.map_eq_some_iff.1 hv
        simp only [Prod.mk.injEq] at he
        obtain ⟨_, rfl⟩ := he
        exact ⟨Nat.le_refl _, fun _ _ _ h => h⟩
      | n =>
        rw [hc] at hv
        obtain ⟨⟨x, ob⟩, _, he⟩ := Option.map_eq_some_iff.1 hv
        simp only [Prod.mk.injEq] at he
        obtain ⟨_, rfl⟩ := he
        exact ⟨Nat.le_refl _, fun id _ hne h => by rw [set_get_ne hne]; exact h⟩
      | p =>
        rw [hc] at hv
        cases hop : o.op <;> rw [hop] at hc hv <;> simp only [AOp.cls, reduceCtorEq] at hc
        simp only [apv] at hv
        split at hv
        · obtain ⟨⟨m, news⟩, _, hv⟩ := Option.bind_eq_some_iff.1 hv
          simp only [] at hv
          split at hv
          · split at hv
            · split at hv
              · simp only [Option.some.injEq, Prod.mk.injEq] at hv
                obtain ⟨_, rfl⟩ := hv
                exact ⟨Nat.le_refl _, fun _ _ _ h => h⟩
              · split at hv
                · simp only [Option.some.injEq, Prod.mk.injEq] at hv
                  obtain ⟨_, rfl⟩ := hv
                  exact ⟨Nat.le_refl _, fun id _ hne h => by rw [set_get_ne hne]; exact h⟩
                · cases hv
            · split at hv
              · split at hv
                · simp only [Option.some.injEq, Prod.mk.injEq] at hv
                  obtain ⟨_, rfl⟩ := hv
                  refine ⟨Nat.le_refl _, fun id _ hne h => ?_⟩
                  simp only []
                  rw [upd_ne _ _ hne]
                  unfold kill
                  rw [h]
                · cases hv
              · cases hv
            · cases hv
          · cases hv
        · cases hv
      | s =>
        rw [hc] at hv
        have wr : ∀ (z f j0 : Nat) (ob : AObj) (x : AObj), s.h.o j0 = some x → ∀ id, s.h.o id = none → upd (killIf z f j0 s.h.o) j0 (some ob) id = none := by
          intro z f j0 ob x hx id hid
          have hne : id ≠ j0 := fun e => by subst e; rw [hid] at hx; cases hx
          rw [upd_ne _ _ hne]
          unfold killIf
          split
          · exact hid
          · unfold killBut
            rw [hid]
        cases hop : o.op <;> rw [hop] at hc hv <;> simp only [AOp.cls, reduceCtorEq] at hc <;> simp only [sv] at hv
        case store n x y =>
          split at hv
          · split at hv
            · rename_i ho
              split at hv
              · simp only [Option.some.injEq, Prod.mk.injEq] at hv
                obtain ⟨_, rfl⟩ := hv
                exact ⟨Nat.le_refl _, fun id _ _ h => wr _ _ _ _ _ ho id h⟩
              · cases hv
            · cases hv
          · cases hv
        case mupd ky m k v' =>
          split at hv
          · split at hv
            · rename_i ho
              split at hv
              · simp only [Option.some.injEq, Prod.mk.injEq] at hv
                obtain ⟨_, rfl⟩ := hv
                refine ⟨Nat.le_refl _, fun id _ _ h => ?_⟩
                rw [set_get_ne]
                · exact h
                · intro e; subst e; rw [h] at ho; cases ho
              · cases hv
            · cases hv
          · cases hv
        case cpy e d' s' =>
          split at hv
          · obtain ⟨⟨m, news⟩, _, hv⟩ := Option.bind_eq_some_iff.1 hv
            simp only [] at hv
            split at hv
            · rename_i ho
              split at hv
              · simp only [Option.some.injEq, Prod.mk.injEq] at hv
                obtain ⟨_, rfl⟩ := hv
                exact ⟨Nat.le_refl _, fun id _ _ h => wr _ _ _ _ _ ho id h⟩
              · cases hv
            · cases hv
          · cases hv
      | c =>
        rw [hc] at hv
        cases hop : o.op <;> rw [hop] at hc hv <;> simp only [AOp.cls, reduceCtorEq] at hc
        have := hrec _ _ _ _ _ hv
        exact ⟨this.1, fun id hid _ h => this.2 id hid h⟩
def quietC (o : AOper) : Bool := o.op.cls == .a || o.op.cls == .l
theorem quiet_heap {rec : Rec} {j : Nat} {o : AOper} (hq : quietC o = true) {s : St} {v : T} {h : AH} (hv : oval rec j o s = some (v, h)) : h = s.h := by
  simp only [quietC, Bool.or_eq_true, beq_iff_eq] at hq
  rcases hq with hq | hq
  · exact (oval_a hq hv).1
  · exact (oval_l hq hv).1
/-- What is asked of the loads that are held, of what comes behind them. -/
def afarB (l y : AOper) : Bool := match y.dst with
  | some d => !(l.looks.contains d) && l.dst != some d
  | none => true
theorem afarB_spec {l y : AOper} (h : afarB l y = true) : ∀ d, y.dst = some d → d ∉ l.looks ∧ l.dst ≠ some d := by
  intro d hd
  unfold afarB at h
  rw [hd] at h
  simp only [Bool.and_eq_true] at h
  exact ⟨by simpa using h.1, by simpa using h.2⟩
theorem holdOk_congr {s s' : St} {l : AOper} (hh : s.h = s'.h) (ht : ∀ n ∈ l.looks, s.t n = s'.t n) (hd : ∀ d, l.dst = some d → s.t d = s'.t d) : holdOk s l = holdOk s' l := by
  unfold holdOk
  rw [looks_guard ht, lv_congr (looks_opds ht), hh]
  cases hdst : l.dst with
  | none => rfl
  | some d => simp only [hd d hdst]
section
variable {rec : Rec} {ops : List AOper} {holds : List (Nat × List Nat)} {base : Nat}
/-- What the static check of an order gives: what is asked of each i against each x before it. -/
structure OrdOk (ops : List AOper) (holds : List (Nat × List Nat)) (anc : Nat → Nat → Prop) (dep : Nat → Nat → Prop) (π : List Nat) : Prop where
  nodup : π.Nodup
  pair : ∀ x i, [x, i].Sublist π → ¬ anc x i → ∃ ox oi, ops[x]? = some ox ∧ ops[i]? = some oi ∧ apartB ox oi = true ∧ mayB ((holdsOf holds i).contains x) ox oi = true
  held : ∀ i, holdsOf holds i ≠ [] → ∃ oi, ops[i]? = some oi ∧ (oi.op.cls = .p ∨ oi.op.cls = .s ∨ oi.op.cls = .c) ∧ onNil oi.op = false
  own : ∀ x ∈ π, ∀ i, x ∈ holdsOf holds i → ∃ ox d, ops[x]? = some ox ∧ ox.dst = some d ∧ d ∉ ox.looks
  afar : ∀ x y, [x, y].Sublist π → ∀ i, x ∈ holdsOf holds i → ∃ ox oy, ops[x]? = some ox ∧ ops[y]? = some oy ∧ afarB ox oy = true
  past : ∀ e ∈ π, ∀ l ∈ holdsOf holds e, l ∉ π → ∃ ol, ops[l]? = some ol ∧ ∀ y ∈ π, ∃ oy, ops[y]? = some oy ∧ afarB ol oy = true
  bef : ∀ x l, l ∈ holdsOf holds x → ¬ [x, l].Sublist π ∧ l ≠ x
  deps : ∀ x e, dep e x → ¬ [x, e].Sublist π ∧ e ≠ x
theorem sub_head {x y : Nat} {l : List Nat} (h : y ∈ l) : [x, y].Sublist (x :: l) := List.Sublist.cons_cons x (List.singleton_sublist.2 h)
theorem OrdOk.tail {anc dep : Nat → Nat → Prop} {x : Nat} {π : List Nat} (hok : OrdOk ops holds anc dep (x :: π)) : OrdOk ops holds anc dep π := by
  have up : ∀ {l : List Nat}, l.Sublist π → l.Sublist (x :: π) := fun h => h.cons x
  refine ⟨(List.nodup_cons.1 hok.nodup).2, fun a b h hn => hok.pair a b (up h) hn, hok.held, fun a ha => hok.own a (.tail _ ha), fun a b h => hok.afar a b (up h), fun e he l hl hlp => ?_, fun a l hl => ⟨fun h => (hok.bef a l hl).1 (up h), (hok.bef a l hl).2⟩, fun a e he => ⟨fun h => (hok.deps a e he).1 (up h), (hok.deps a e he).2⟩⟩
  by_cases hlx : l = x
  · subst hlx
    obtain ⟨ol, _, h1, _⟩ := hok.own l (.head _) e hl
    refine ⟨ol, h1, fun y hy => ?_⟩
    obtain ⟨ol', oy, h2, h3, h4⟩ := hok.afar l y (sub_head hy) e hl
    rw [h1] at h2; cases h2
    exact ⟨oy, h3, h4⟩
  · obtain ⟨ol, h1, h2⟩ := hok.past e (.tail _ he) l hl (by simp; exact ⟨hlx, hlp⟩)
    exact ⟨ol, h1, fun y hy => h2 y (.tail _ hy)⟩
theorem runOps_cons {i : Nat} {rest : List Nat} {s sf : St} (h : runOps rec ops holds base (i :: rest) s = some sf) :
    ∃ o s1, ops[i]? = some o ∧ ostep rec (base + i) o s = some s1 ∧ (∀ l ∈ holdsOf holds i, ∃ ol, ops[l]? = some ol ∧ holdOk s1 ol = true) ∧ runOps rec ops holds base rest s1 = some sf := by
  simp only [runOps] at h
  split at h
  · rename_i o ho
    obtain ⟨s1, hs, h⟩ := Option.bind_eq_some_iff.1 h
    split at h
    · rename_i hall
      refine ⟨o, s1, ho, hs, fun l hl => ?_, h⟩
      have := (List.all_eq_true.1 hall) l hl
      cases hol : ops[l]? with
      | none => rw [hol] at this; cases this
      | some ol => rw [hol] at this; exact ⟨ol, rfl, this⟩
    · cases h
  · cases h
theorem runOps_mk {i : Nat} {rest : List Nat} {s s1 : St} {o : AOper} (ho : ops[i]? = some o) (hs : ostep rec (base + i) o s = some s1) (hh : ∀ l ∈ holdsOf holds i, ∃ ol, ops[l]? = some ol ∧ holdOk s1 ol = true) :
    runOps rec ops holds base (i :: rest) s = runOps rec ops holds base rest s1 := by
  simp only [runOps, ho, hs, Option.bind_some]
  rw [if_pos]
  rw [List.all_eq_true]
  intro l hl
  obtain ⟨ol, h1, h2⟩ := hh l hl
  rw [h1]; exact h2
theorem ostep_parts {j : Nat} {o : AOper} {s s1 : St} (h : ostep rec j o s = some s1) : ∃ v h', oval rec j o s = some (v, h') ∧ s1 = ({ s with h := h' } : St).put o.dst v := by
  rw [ostep_eq] at h
  obtain ⟨⟨v, h'⟩, h1, h2⟩ := Option.map_eq_some_iff.1 h
  exact ⟨v, h', h1, h2.symm⟩
theorem step_t {j : Nat} {o : AOper} {s s1 : St} (h : ostep rec j o s = some s1) {n : Nat} (hn : o.dst ≠ some n) : s1.t n = s.t n := by
  obtain ⟨v, h', _, rfl⟩ := ostep_parts h
  exact put_t _ _ _ _ hn
/-- What may come up is taken to the front. -/
theorem front (hrec : RecFresh rec) {anc dep : Nat → Nat → Prop} : ∀ (p : List Nat) (i : Nat) (q : List Nat) (s sf : St), OrdOk ops holds anc dep (p ++ i :: q) → (∀ x ∈ p, ¬ anc x i) → (∀ k ∈ p ++ i :: q, s.h.o (base + k) = none ∧ base + k < s.h.nx) →
    runOps rec ops holds base (p ++ i :: q) s = some sf →
    ∃ oi s1, ops[i]? = some oi ∧ ostep rec (base + i) oi s = some s1 ∧ runOps rec ops holds base (p ++ q) s1 = some sf ∧
      (holdsOf holds i ≠ [] → ∃ si, (∀ l ∈ holdsOf holds i, ∃ ol, ops[l]? = some ol ∧ holdOk si ol = true) ∧ si.h = s1.h ∧ ∀ n, (∀ y ∈ p, ∀ oy, ops[y]? = some oy → oy.dst ≠ some n) → si.t n = s1.t n)
  | [], i, q, s, sf, _, _, _, h => by
    obtain ⟨o, s1, ho, hs, hh, hr⟩ := runOps_cons h
    exact ⟨o, s1, ho, hs, hr, fun _ => ⟨s1, hh, rfl, fun _ _ => rfl⟩⟩
  | x :: p, i, q, s, sf, hok, hanc, hfr, h => by
    obtain ⟨ox, sx, hox, hsx, hhx, hr⟩ := runOps_cons h
    have hok' : OrdOk ops holds anc dep (p ++ i :: q) := hok.tail
    obtain ⟨vx, hx, ex, esx⟩ := ostep_parts hsx
    have hnx := oval_fresh hrec ex
    have hsxh : sx.h = hx := by rw [esx]; exact put_h _ _ _
    have hfr' : ∀ k ∈ p ++ i :: q, sx.h.o (base + k) = none ∧ base + k < sx.h.nx := by
      intro k hk
      have h1 := hfr k (by simp at hk ⊢; exact .inr hk)
      rw [hsxh]
      have hne : k ≠ x := by
        intro e; subst e
        exact (List.nodup_cons.1 hok.nodup).1 hk
      exact ⟨hnx.2 _ h1.2 (by omega) h1.1, by omega⟩
    obtain ⟨oi, s2, hoi, hs2, hr2, hhold⟩ := front hrec p i q sx sf hok' (fun y hy => hanc y (.tail _ hy)) hfr' hr
    obtain ⟨ox', oi', hox', hoi', hap, hmay⟩ := hok.pair x i (sub_head (by simp)) (hanc x (.head _))
    rw [hox] at hox'; cases hox'
    rw [hoi] at hoi'; cases hoi'
    have hxi : x ≠ i := by
      intro e; subst e
      exact (List.nodup_cons.1 hok.nodup).1 (by simp)
    have hfx := hfr x (by simp)
    have hfi := hfr i (by simp)
    -- a held load reads the same behind i
    have hheld : (holdsOf holds i).contains x = true → ∀ vx' hx' vi hi, oval rec (base + x) ox s = some (vx', hx') → oval rec (base + i) oi s = some (vi, hi) → wants s.t ox.guard = some true → lv s.t hi ox.op = some vx' := by
      intro hc vx' hx' vi hi e1 e2 hw
      rw [ex] at e1; cases e1
      have hmem : x ∈ holdsOf holds i := by simpa using hc
      have hne : holdsOf holds i ≠ [] := fun e => by rw [e] at hmem; cases hmem
      obtain ⟨si, hchk, hsih, hsit⟩ := hhold hne
      obtain ⟨ol, hol, hho⟩ := hchk x hmem
      rw [hox] at hol; cases hol
      obtain ⟨ox2, d, hox2, hd, hdl⟩ := hok.own x (.head _) i hmem
      rw [hox] at hox2; cases hox2
      have hafar : ∀ y ∈ p ++ i :: q, ∃ oy, ops[y]? = some oy ∧ afarB ox oy = true := by
        intro y hy
        obtain ⟨ox3, oy, h1, h2, h3⟩ := hok.afar x y (sub_head hy) i hmem
        rw [hox] at h1; cases h1
        exact ⟨oy, h2, h3⟩
      -- x is a load
      obtain ⟨oi2, hoi2, hcls, _⟩ := hok.held i hne
      rw [hoi] at hoi2; cases hoi2
      have hxq : quietC ox = true := by
        unfold quietC
        rcases hcls with hcl | hcl | hcl <;> simp only [mayB, hcl, Bool.or_eq_true, Bool.and_eq_true, beq_iff_eq] at hmay <;> simp only [Bool.or_eq_true, beq_iff_eq] <;> rcases hmay with hm | hm <;> first | exact .inl hm | exact .inr hm.1
      have hxh : hx = s.h := quiet_heap hxq ex
      obtain ⟨a1, a2, a3⟩ := apartB_spec hap
      -- the heap behind i is one and the same
      have e2x : oval rec (base + i) oi sx = some (vi, hi) := by
        rw [← e2]
        refine oval_congr (fun n hn => ?_) (by rw [hsxh, hxh])
        rw [esx]; exact put_t _ _ _ _ (a1 n hn)
      have hs2h : s2.h = hi := by
        obtain ⟨v2, h2, e3, rfl⟩ := ostep_parts hs2
        rw [e2x] at e3; cases e3
        exact put_h _ _ _
      have hs2t : ∀ n, oi.dst ≠ some n → s2.t n = sx.t n := fun n hn => step_t hs2 hn
      have noti : ∀ n, (n ∈ ox.looks ∨ n = d) → oi.dst ≠ some n := by
        intro n hn hh
        obtain ⟨oy, hoy, hf⟩ := hafar i (by simp)
        rw [hoi] at hoy; cases hoy
        have := afarB_spec hf n hh
        rcases hn with hn | hn
        · exact this.1 hn
        · subst hn; exact this.2 hd
      have notp : ∀ n, (n ∈ ox.looks ∨ n = d) → ∀ y ∈ p, ∀ oy, ops[y]? = some oy → oy.dst ≠ some n := by
        intro n hn y hy oy hoy hh
        obtain ⟨oy', hoy', hf⟩ := hafar y (by simp [hy])
        rw [hoy] at hoy'; cases hoy'
        have := afarB_spec hf n hh
        rcases hn with hn | hn
        · exact this.1 hn
        · subst hn; exact this.2 hd
      have tlook : ∀ n ∈ ox.looks, si.t n = s.t n := by
        intro n hn
        rw [hsit n (notp n (.inl hn)), hs2t n (noti n (.inl hn)), esx]
        refine put_t _ _ _ _ fun e => ?_
        rw [hd] at e; cases e
        exact hdl hn
      have td : si.t d = vx := by
        rw [hsit d (notp d (.inr rfl)), hs2t d (noti d (.inr rfl)), esx, hd]
        exact upd_same _ _ _
      unfold holdOk at hho
      simp only [looks_guard tlook, hw, hd, lv_congr (looks_opds tlook), hsih, hs2h, td] at hho
      have key : ∀ (y : T) (z : Option T), sameV y z = true → z = some y := by
        intro y z hyz
        unfold sameV at hyz
        split at hyz
        · have := of_decide_eq_true hyz; rw [this]
        · cases hyz
      exact key _ _ hho
    have hcomm := may_swap (rec := rec) hmay hfi.1 hfx.1 (by omega) hheld
    obtain ⟨s1', h1', h2'⟩ := swap hap hsx hs2 hcomm
    refine ⟨oi, s1', hoi, h1', ?_, fun hne => ?_⟩
    · rw [List.cons_append, runOps_mk hox h2' ?_]
      · exact hr2
      · -- the checks behind x stand
        intro l hl
        obtain ⟨ol, hol, hho⟩ := hhx l hl
        refine ⟨ol, hol, ?_⟩
        have hne : holdsOf holds x ≠ [] := fun e => by rw [e] at hl; cases hl
        obtain ⟨ox2, hox2, hcls, hnn⟩ := hok.held x hne
        rw [hox] at hox2; cases hox2
        have hia : oi.op.cls = .a := by
          cases hic : oi.op.cls with
          | a => rfl
          | l => exfalso; simp only [mayB, hic, Bool.or_eq_true, beq_iff_eq] at hmay; rcases hcls with hc | hc | hc <;> rw [hc] at hmay <;> simp at hmay
          | n =>
            exfalso
            simp only [mayB, hic, Bool.or_eq_true, beq_iff_eq] at hmay
            rcases hmay with ((hm | hm) | hm) | hm
            · rcases hcls with hc | hc | hc <;> rw [hc] at hm <;> cases hm
            · rcases hcls with hc | hc | hc <;> rw [hc] at hm <;> cases hm
            · rcases hcls with hc | hc | hc <;> rw [hc] at hm <;> cases hm
            · rw [hnn] at hm; cases hm
          | p => exfalso; simp only [mayB, hic, Bool.or_eq_true, Bool.and_eq_true, beq_iff_eq] at hmay; rcases hmay with hm | hm <;> rcases hcls with hc | hc | hc <;> first | (rw [hc] at hm; cases hm; done) | (have := hm.1; rw [hc] at this; cases this)
          | s => exfalso; simp only [mayB, hic, Bool.or_eq_true, Bool.and_eq_true, beq_iff_eq] at hmay; rcases hmay with hm | hm <;> rcases hcls with hc | hc | hc <;> first | (rw [hc] at hm; cases hm; done) | (have := hm.1; rw [hc] at this; cases this)
          | c => exfalso; simp only [mayB, hic, Bool.or_eq_true, Bool.and_eq_true, beq_iff_eq] at hmay; rcases hmay with hm | hm <;> rcases hcls with hc | hc | hc <;> first | (rw [hc] at hm; cases hm; done) | (have := hm.1; rw [hc] at this; cases this)
        obtain ⟨vi, hi, ei, es2⟩ := ostep_parts hs2
        have hih := (oval_a hia ei).1
        have hs2h : s2.h = sx.h := by rw [es2]; rw [put_h]; exact hih
        have far : ∀ n, oi.dst = some n → n ∉ ol.looks ∧ ol.dst ≠ some n := by
          intro n hn
          have hlp : l ∉ x :: p ++ i :: q := by
            intro hm
            rcases List.mem_cons.1 hm with e | hm
            · exact (hok.bef x l hl).2 e
            · exact (hok.bef x l hl).1 (sub_head hm)
          obtain ⟨ol', hol', hf⟩ := hok.past x (by simp) l hl hlp
          rw [hol] at hol'; cases hol'
          obtain ⟨oy, hoy, hf⟩ := hf i (by simp)
          rw [hoi] at hoy; cases hoy
          exact afarB_spec hf n hn
        rw [holdOk_congr hs2h (fun n hn => ?_) (fun d hd => ?_)]
        · exact hho
        · exact step_t hs2 (fun e => (far n e).1 hn)
        · exact step_t hs2 (fun e => (far d e).2 hd)
    · obtain ⟨si, hchk, hsih, hsit⟩ := hhold hne
      obtain ⟨oi2, hoi2, hcls, _⟩ := hok.held i hne
      rw [hoi] at hoi2; cases hoi2
      have hxq : quietC ox = true := by
        unfold quietC
        rcases hcls with hcl | hcl | hcl <;> simp only [mayB, hcl, Bool.or_eq_true, Bool.and_eq_true, beq_iff_eq] at hmay <;> simp only [Bool.or_eq_true, beq_iff_eq] <;> rcases hmay with hm | hm <;> first | exact .inl hm | exact .inr hm.1
      obtain ⟨v2, h2, e2, es2⟩ := ostep_parts h2'
      have := quiet_heap hxq e2
      refine ⟨si, hchk, ?_, fun n hn => ?_⟩
      · rw [hsih, es2, put_h]; exact this
      · rw [hsit n (fun y hy => hn y (.tail _ hy)), es2]
        exact put_t _ _ _ _ (hn x (.head _) ox hox)
end

end Go.Am
