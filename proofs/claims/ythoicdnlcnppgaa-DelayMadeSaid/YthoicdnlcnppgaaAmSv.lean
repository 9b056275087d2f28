/- Operations that write are what the model does. Conditions: as each theorem says. -/
import Derived.Test.YthoicdnlcnppgaaAmNv
set_option linter.unusedVariables false
set_option linter.unusedSimpArgs false
namespace Go.Am
open Go.RowKit
/-! ### What writes -/
section
variable {P : Program} {E : Env} {ρ : Nat → T} {a : Act} {d : Option Tmp} {ty : TypeId} {ps : String} {af : Array Edge} {gd : Option (Nat × Bool)} {x : T} {base : Nat} {w0 w : World} {h : AH}
theorem kill_get {f n : Nat} {o : Nat → Option AObj} {j : Nat} {x : AObj} (hj : kill f n o j = some x) : o j = some x ∧ (∀ f' e s cs, x = .cells f' false e s cs → f' = f → f ≤ j → cs.length ≤ n) := by
  unfold kill at hj
  split at hj
  · rename_i f' ro e s cs ho
    split at hj
    · cases hj
    · rename_i hc
      simp only [Option.some.injEq] at hj
      subst hj
      refine ⟨ho, fun f'' e' s' cs' hx hf hj => ?_⟩
      cases hx
      have : ¬ n < cs.length := fun hlt => hc ⟨hf, rfl, hlt, hj⟩
      omega
  · rename_i y hne
    refine ⟨hj, fun f' e s cs hx _ _ => ?_⟩
    subst hx
    exact absurd hj (hne _ _ _ _ _)
theorem killBut_get {f j0 : Nat} {o : Nat → Option AObj} {j : Nat} {x : AObj} (hj : killBut f j0 o j = some x) : o j = some x ∧ (∀ f' e s cs, x = .cells f' false e s cs → f' = f → f ≤ j → j = j0) := by
  unfold killBut at hj
  split at hj
  · rename_i f' ro e s cs ho
    split at hj
    · cases hj
    · rename_i hc
      simp only [Option.some.injEq] at hj
      subst hj
      refine ⟨ho, fun f'' e' s' cs' hx hf hj => ?_⟩
      cases hx
      exact Classical.byContradiction fun hne => hc ⟨hf, rfl, hne, hj⟩
  · rename_i y hne
    refine ⟨hj, fun f' e s cs hx _ _ => ?_⟩
    subst hx
    exact absurd hj (hne _ _ _ _ _)
theorem killIf_get {z f j0 : Nat} {o : Nat → Option AObj} {j : Nat} {x : AObj} (hj : killIf z f j0 o j = some x) : o j = some x ∧ (z = 0 ∨ ∀ f' e s cs, x = .cells f' false e s cs → f' = f → f ≤ j → j = j0) := by
  unfold killIf at hj
  split at hj
  · rename_i hz
    exact ⟨hj, .inl hz⟩
  · exact ⟨(killBut_get hj).1, .inr (killBut_get hj).2⟩
theorem solid_one {l : List Cell} {vs : List Value} (hl : lrel (crel E) l vs) (hs : solid l = true) : ∀ v ∈ vs, v.oneCell' = true := by
  intro v hv
  obtain ⟨i, hi⟩ := List.getElem?_of_mem hv
  have hlt : i < l.length := by rw [hl.1]; exact (List.getElem?_eq_some_iff.1 hi).1
  have hr := hl.2 i l[i] v (List.getElem?_eq_getElem hlt) hi
  have hne : l[i] ≠ .junk := by
    have := (List.all_eq_true.1 hs) l[i] (List.getElem_mem hlt)
    simpa using this
  exact hr.one hne
/-- Cells of an object of the call's own are written. -/
theorem write_rel (H : HRel base w0 E h w) {j f e esz off : Nat} {cs l : List Cell} {vs : List Value} (ho : h.o j = some (.cells f false e esz cs)) {p : Addr × Option Nat} (hp : E j = some p) (hl : lrel (crel E) l vs) (hfit : off + l.length ≤ cs.length) (hs : solid l = true) :
    ∃ w', (storeCells (p.1.add off) vs 0).run P w = .ok () w' ∧ HRel base w0 E { h with o := upd (killIf esz f j h.o) j (some (.cells f false e esz (setAt cs off l))) } w' := by
  obtain ⟨q, b, cur, hq, ea, hb, hh, hc, hcap⟩ := H.obj j _ ho
  rw [hp] at hq; cases hq
  have hcur : cs.length ≤ cur.size := by
    rcases Nat.eq_zero_or_pos cs.length with h0 | h0
    · omega
    · obtain ⟨v, hv, _⟩ := hc (cs.length - 1) _ (List.getElem?_eq_getElem (by omega))
      have := (Array.getElem?_eq_some_iff.1 hv).1
      omega
  have hrun := run_storeCells_at P b off e vs 0 cur w hh (by rw [← hl.1]; omega) (solid_one hl hs)
  have hsz : (cur.toList.take (off + 0) ++ vs ++ cur.toList.drop (off + 0 + vs.length)).toArray.size = cur.size := by
    simp only [List.size_toArray, List.length_append, List.length_take, List.length_drop, Array.length_toList]
    rw [← hl.1]; omega
  refine ⟨w.setRow b (cur.toList.take (off + 0) ++ vs ++ cur.toList.drop (off + 0 + vs.length)).toArray, by rw [ea, addr0]; exact hrun, ?_⟩
  have hwsz : (w.setRow b (cur.toList.take (off + 0) ++ vs ++ cur.toList.drop (off + 0 + vs.length)).toArray).heap.size = w.heap.size := by simp [World.setRow]
  refine H.write (b := b) hb rfl rfl rfl hwsz (fun k hk => setRow_other w b k _ hk) rfl (fun i o hi => ?_) (fun i f' e' s' cs' hi => ?_) (fun i ky kvs hi => ?_)
  · by_cases hij : i = j
    · subst hij
      dsimp only at hi; rw [upd_same] at hi
      cases hi
      refine .inl ⟨p, b, _, hp, ea, hb, setRow_heap w b cur _ e (0, 0) hh, fun k c hk => ?_, fun h0 => ?_⟩
      · unfold setAt at hk
        have hlen1 : (cs.take off).length = off := by simp; omega
        have hlen2 : (cur.toList.take (off + 0)).length = off := by simp; omega
        simp only [List.getElem?_toArray]
        rcases Nat.lt_or_ge k off with h1 | h1
        · rw [List.append_assoc, List.getElem?_append_left (by omega), List.getElem?_take, if_pos h1] at hk
          obtain ⟨v, hv, hr⟩ := hc k c hk
          refine ⟨v, ?_, hr⟩
          rw [List.append_assoc, List.getElem?_append_left (by omega), List.getElem?_take, if_pos (by omega)]
          simpa using hv
        · rcases Nat.lt_or_ge k (off + l.length) with h2 | h2
          · rw [List.append_assoc, List.getElem?_append_right (by omega), List.getElem?_append_left (by omega), hlen1] at hk
            obtain ⟨v, hv, hr⟩ := hl.get hk
            refine ⟨v, ?_, hr⟩
            rw [List.append_assoc, List.getElem?_append_right (by omega), List.getElem?_append_left (by rw [← hl.1]; omega), hlen2]
            exact hv
          · rw [List.getElem?_append_right (by simp; omega), List.getElem?_drop] at hk
            have hk' : cs[k]? = some c := by
              rw [← hk]; congr 1; simp; omega
            obtain ⟨v, hv, hr⟩ := hc k c hk'
            refine ⟨v, ?_, hr⟩
            rw [List.getElem?_append_right (by simp [← hl.1]; omega), List.getElem?_drop]
            have : off + 0 + vs.length + (k - (List.take (off + 0) cur.toList ++ vs).length) = k := by simp [← hl.1]; omega
            rw [this]
            simpa using hv
      · obtain ⟨c, h1, h2, h3⟩ := hcap h0
        exact ⟨c, h1, by rw [h2, hsz], h3⟩
    · dsimp only at hi; rw [upd_ne _ _ hij] at hi
      obtain ⟨h1, h2⟩ := killIf_get hi
      refine .inr ⟨h1, fun q hq hb' => ?_⟩
      have h3 := H.obj i o h1
      cases o with
      | map ky kvs =>
        obtain ⟨q', b', es, clk, hq', ea', _, hh', _⟩ := h3
        rw [hq] at hq'; cases hq'
        have : b' = b := by rw [← hb', ea']
        subst this
        rw [hh] at hh'; cases hh'
      | cells f' ro e' s' cs' =>
        cases ro with
        | true =>
          obtain ⟨q', hq', hlt, _⟩ := h3
          rw [hq] at hq'; cases hq'
          omega
        | false =>
          have : f' = f := H.fam i j _ _ _ _ _ _ _ _ q p h1 ho hq hp (by rw [hb', ea])
          rcases h2 with hz | h2
          · subst hz
            exact hij (H.solo j i _ _ _ _ _ _ _ p q ho h1 hp hq (by rw [hb', ea])).symm
          · exact hij (h2 _ _ _ _ rfl this (this ▸ H.ord i _ _ _ _ h1))
  · by_cases hij : i = j
    · subst hij
      dsimp only at hi; rw [upd_same] at hi
      cases hi
      exact ⟨_, _, ho⟩
    · dsimp only at hi; rw [upd_ne _ _ hij] at hi
      exact ⟨_, _, (killIf_get hi).1⟩
  · by_cases hij : i = j
    · subst hij
      dsimp only at hi; rw [upd_same] at hi
      cases hi
    · dsimp only at hi; rw [upd_ne _ _ hij] at hi
      exact ⟨_, _, (killIf_get hi).1⟩
/-- What a step that writes leaves: the model's operation yields nothing, or a value. -/
def Writes (P : Program) (base : Nat) (w0 : World) (E : Env) (ρ : Operand → Value) (o : Oper) (w : World) (x : T) (h' : AH) : Prop :=
  ∃ w', (((execOp ρ o).run P w = .ok .skip w' ∧ trel E x undef) ∨ ∃ v, (execOp ρ o).run P w = .ok (.value v) w' ∧ trel E x v) ∧ HRel base w0 E h' w'
theorem s_store (H : HRel base w0 E h w) (hT : TRel E ρ a) {t : TypeId} {n : Nat} (hn : szP P t = some n) {y z : Operand} {y' z' : Opd} (hy : opd y = some y') (hz : opd z = some z') {h' : AH} (hx : sv ρ h (.store n y' z') = some (x, h')) :
    Writes P base w0 E a.eval ⟨d, .store t y z, ty, ps, af, gd⟩ w x h' := by
  simp only [sv] at hx
  split at hx
  · rename_i j off b hj hb
    obtain ⟨p, hp, e1⟩ := opd_ptr hT hy hj
    have e2 := opd_rel hT hz
    rw [hb] at e2
    split at hx
    · rename_i f ro e esz cs ho
      by_cases hc : ro = false ∧ b.cells.length = n ∧ off + n ≤ cs.length ∧ solid b.cells = true
      · rw [if_pos hc] at hx
        simp only [Option.some.injEq, Prod.mk.injEq] at hx
        obtain ⟨rfl, rfl⟩ := hx
        obtain ⟨rfl, hlen, hfit, hs⟩ := hc
        have hcl := avrel.cells e2 hs
        obtain ⟨w', hr, hR⟩ := write_rel (P := P) H ho hp hcl (by rw [hlen]; exact hfit) hs
        refine ⟨w', .inl ⟨?_, ⟨#[], rfl, lrel.nil⟩⟩, hR⟩
        have hsz : (a.eval z).cells.size = n := by rw [← hlen, hcl.1]; simp
        simp [execOp, e1, Instr.storeAt, Instr.sureAddr, storeVar, run_size hn, hsz, hr]
      · rw [if_neg hc] at hx; cases hx
    · cases hx
  · cases hx
theorem src_rel (H : HRel base w0 E h w) {esz m : Nat} {c : Cell} {news : List Cell} (hs : srcCells h esz c = some (m, news)) {v : Value} (hv : crel E c v) :
    (v = .slice none 0 0 ∧ m = 0 ∧ news = []) ∨ ∃ ad cap vs, v = .slice (some ad) m cap ∧ lrel (crel E) news vs ∧ news.length = m * esz ∧ ∀ (i : Nat) u, vs[i]? = some u → w.cell? (ad.add i) = some u := by
  cases c with
  | nils =>
    simp only [srcCells, Option.some.injEq, Prod.mk.injEq] at hs
    obtain ⟨rfl, rfl⟩ := hs
    exact .inl ⟨hv, rfl, rfl⟩
  | slice j off n =>
    simp only [srcCells] at hs
    obtain ⟨l, hl, he⟩ := Option.map_eq_some_iff.1 hs
    simp only [Prod.mk.injEq] at he
    obtain ⟨rfl, rfl⟩ := he
    obtain ⟨p, ad, cap, hp, rfl, hle, h0, had⟩ := hv
    obtain ⟨vs, h1, h2⟩ := H.cells hl hp
    have hlen := rdCells_len hl
    refine .inr ⟨ad, cap, vs, rfl, h1, hlen, fun i u hu => ?_⟩
    have hpos : 0 < vs.length := by have := (List.getElem?_eq_some_iff.1 hu).1; omega
    have hn : 0 < n := by
      rcases Nat.eq_zero_or_pos n with h3 | h3
      · subst h3; rw [h1.1] at hlen; omega
      · exact h3
    rw [had (by omega)]
    exact h2 i u hu
  | _ => simp [srcCells] at hs
theorem s_cpy (H : HRel base w0 E h w) (hT : TRel E ρ a) {c : Call} (hc : c.callee = .builtin .copy) {y z : Operand} {y' z' : Opd} {t t' e : TypeId} {n : Nat} (hl : c.args.toList = [y, z]) (ht : c.argTypes.toList = [t, t']) (hu : P.underlying t = some (.slice e)) (hn : szP P e = some n) (hn0 : 0 < n)
    (hy : opd y = some y') (hz : opd z = some z') {h' : AH} (hx : sv ρ h (.cpy n y' z') = some (x, h')) : Writes P base w0 E a.eval ⟨d, .call c, ty, ps, af, gd⟩ w x h' := by
  simp only [sv] at hx
  have hargs : c.args = #[y, z] := by rw [← Array.toList_inj, hl]
  have htys : c.argTypes = #[t, t'] := by rw [← Array.toList_inj, ht]
  split at hx
  · rename_i j off k s hj hs
    have e1 := opd_rel hT hy
    rw [hj] at e1
    obtain ⟨p, ad, cap, hp, e1, hle, h0, had⟩ := e1
    have e2 := opd_rel hT hz
    rw [hs] at e2
    obtain ⟨⟨m, news⟩, hsrc, hx⟩ := Option.bind_eq_some_iff.1 hx
    simp only [] at hx
    split at hx
    · rename_i f ro e' esz' cs ho
      by_cases hcc : ro = false ∧ m ≤ k ∧ solid news = true ∧ off + news.length ≤ cs.length
      · rw [if_pos hcc] at hx
        simp only [Option.some.injEq, Prod.mk.injEq] at hx
        obtain ⟨rfl, rfl⟩ := hx
        obtain ⟨rfl, hmk, hsol, hfit⟩ := hcc
        rcases src_rel H hsrc e2 with ⟨ev, rfl, rfl⟩ | ⟨ad2, cap2, vs, ev, hvs, hlen, hcell⟩
        · obtain ⟨w', hr, hR⟩ := write_rel (P := P) (off := 0) H ho hp (lrel.nil (R := crel E)) (by simp) (by rfl)
          have hw : w' = w := by simp [storeCells] at hr; exact hr.symm
          subst hw
          refine ⟨w', .inr ⟨.int .i64 0, ?_, rfl⟩, ?_⟩
          · simp [execOp, resolve, hc, hargs, htys, invoke, builtin, Builtin.copy_, e1, ev, run_und hu, Builtin.lenOf, Builtin.firstCells, run_size hn, goInt, storeCells]
          · have e3 : setAt cs off [] = setAt cs 0 [] := by simp [setAt]
            rw [e3]; exact hR
        · have hcells := run_loadCells_list (P := P) w ad2 vs hcell
          rcases Nat.eq_zero_or_pos m with hm0 | hm0
          · subst hm0
            have hnews : news = [] := List.eq_nil_of_length_eq_zero (by omega)
            subst hnews
            obtain ⟨w', hr, hR⟩ := write_rel (P := P) (off := 0) H ho hp (lrel.nil (R := crel E)) (by simp) (by rfl)
            have hw : w' = w := by simp [storeCells] at hr; exact hr.symm
            subst hw
            have hvs0 : vs = [] := List.eq_nil_of_length_eq_zero (by rw [← hvs.1]; rfl)
            subst hvs0
            refine ⟨w', .inr ⟨.int .i64 0, ?_, rfl⟩, ?_⟩
            · simp [execOp, resolve, hc, hargs, htys, invoke, builtin, Builtin.copy_, e1, ev, run_und hu, Builtin.lenOf, Builtin.firstCells, run_size hn, goInt, storeCells, loadCells, loadCellsFrom]
            · have e3 : setAt cs off [] = setAt cs 0 [] := by simp [setAt]
              rw [e3]; exact hR
          · obtain ⟨w', hr, hR⟩ := write_rel (P := P) H ho hp hvs hfit hsol
            refine ⟨w', .inr ⟨.int .i64 m, ?_, rfl⟩, hR⟩
            have hmin : Nat.min m k = m := Nat.min_eq_left hmk
            have hvl : vs.length = m * n := by rw [← hvs.1]; exact hlen
            rw [hvl] at hcells
            have hadd : ad = p.1.add off := had (by omega)
            rw [← hadd] at hr
            simp [execOp, resolve, hc, hargs, htys, invoke, builtin, Builtin.copy_, e1, ev, run_und hu, Builtin.lenOf, Builtin.firstCells, run_size hn, goInt, hmin, hcells, hr]
      · rw [if_neg hcc] at hx; cases hx
    · cases hx
  · cases hx
/-! ### append -/
theorem apd (H : HRel base w0 E h w) (hT : TRel E ρ a) {c : Call} (hc : c.callee = .builtin .append) {y z : Operand} {y' z' : Opd} {t e : TypeId} {i : TypeInfo} {zz : List Cell} (hl : c.args.toList = [y, z]) (ht : c.argTypes.toList = [t, t]) (hu : P.underlying t = some (.slice e)) (hi : P.info? e = some i)
    (hz0 : zeroP P e = some zz) (hzl : zz.length = i.size) (h0 : 0 < i.size) (hy : opd y = some y') (hz : opd z = some z') {j : Nat} (hj : E j = none) (hlt : j < h.nx) {h' : AH} (hx : apv ρ h j (.app e i.size i.bytes y' z') = some (x, h')) :
    Lays P base w0 E a.eval ⟨d, .call c, ty, ps, af, gd⟩ w j x h' := by
  simp only [apv] at hx
  have hargs : c.args = #[y, z] := by rw [← Array.toList_inj, hl]
  have htys : c.argTypes = #[t, t] := by rw [← Array.toList_inj, ht]
  have hexec : ∀ (v : Value) (w' : World), (Builtin.append_ #[t, t] ty #[a.eval y, a.eval z]).run P w = .ok v w' → (execOp a.eval ⟨d, .call c, ty, ps, af, gd⟩).run P w = .ok (.value v) w' := by
    intro v w' hr
    simp [execOp, resolve, hc, hargs, htys, invoke, builtin, hr]
  obtain ⟨i2, zv, hi2, hzv2, _, hzr, _⟩ := zeroP_rel (E := E) hz0
  rw [hi] at hi2; cases hi2
  have hzs : zv.cells.size = i.size := by rw [← hzl, hzr.1]; simp
  split at hx
  · rename_i s u hs hu'
    have es := opd_rel hT hy
    rw [hs] at es
    have eu := opd_rel hT hz
    rw [hu'] at eu
    obtain ⟨⟨m, news⟩, hsrc, hx⟩ := Option.bind_eq_some_iff.1 hx
    simp only [] at hx
    by_cases hsol : solid news = true
    · rw [if_pos hsol] at hx
      -- what a new block for it leaves
      have grown : ∀ (n old : Nat) (xs : List Cell) (xv vs : List Value), lrel (crel E) xs xv → lrel (crel E) news vs → xs.length = n * i.size → news.length = m * i.size → n + m ≤ 9223372036854775807 →
          HRel base w0 (upd E j (some (⟨w.heap.size, 0, none⟩, some (grownCap w (n + m) old e)))) (h.set j (.cells j false e i.size (xs ++ news)))
            (w.drew.alloc (.cells (xv.toArray ++ vs.toArray ++ Builtin.zeroCells zv.cells (grownCap w (n + m) old e - (n + m))) e)) := by
        intro n old xs xv vs hxs hvs hxl hnl hle
        have Hd : HRel base w0 E h w.drew := H.drawn (w.drawn + 1)
        have hge := grownCap_ge w (n + m) old e
        have hcm : grownCap w (n + m) old e ≤ maxLen := grownCap_le_maxLen w (n + m) old e (by simp only [maxLen]; omega)
        have := laid_row (cap := grownCap w (n + m) old e) Hd hj hlt (e := e) (esz := i.size) (cs := xs ++ news) (arr := xv.toArray ++ vs.toArray ++ Builtin.zeroCells zv.cells (grownCap w (n + m) old e - (n + m))) (fun k c hk => ?_) ?_ hcm
        · exact this
        · obtain ⟨v, hv, hr⟩ := (hxs.append hvs).get hk
          refine ⟨v, ?_, hr⟩
          rw [Array.getElem?_append_left (by have := (List.getElem?_eq_some_iff.1 hv).1; simpa using this)]
          simpa using hv
        · simp only [Array.size_append, List.size_toArray, size_zeroCells, hzs, ← hxs.1, ← hvs.1, hxl, hnl, ← Nat.add_mul]
          congr 1
          omega
      split at hx
      · -- onto nil
        have es : a.eval y = .slice none 0 0 := es
        by_cases hm : m = 0
        · rw [if_pos hm] at hx
          simp only [Option.some.injEq, Prod.mk.injEq] at hx
          obtain ⟨rfl, rfl⟩ := hx
          subst hm
          refine ⟨.slice none 0 0, w, E, hexec _ _ ?_, Env.le_refl E, fun _ _ => rfl, H, rfl⟩
          rcases src_rel H hsrc eu with ⟨ev, _, rfl⟩ | ⟨ad, cap, vs, ev, hvs, hlen, hcell⟩
          · simp [Builtin.append_, run_und hu, run_size (show szP P e = some i.size by simp [szP, hi]), Builtin.lenOf, es, ev, Builtin.firstCells]
          · have : vs = [] := List.eq_nil_of_length_eq_zero (by rw [← hvs.1]; omega)
            subst this
            simp [Builtin.append_, run_und hu, run_size (show szP P e = some i.size by simp [szP, hi]), Builtin.lenOf, es, ev, Builtin.firstCells, loadCells, loadCellsFrom]
        · rw [if_neg hm] at hx
          by_cases hb : 0 < i.size ∧ m * i.bytes ≤ 140737488355328 ∧ m ≤ 9223372036854775807
          · rw [if_pos hb] at hx
            simp only [Option.some.injEq, Prod.mk.injEq] at hx
            obtain ⟨rfl, rfl⟩ := hx
            rcases src_rel H hsrc eu with ⟨_, q, _⟩ | ⟨ad, cap, vs, ev, hvs, hlen, hcell⟩
            · exact absurd q hm
            · have hr := run_append_nil (P := P) w t ty e i zv hu hi hzv2 ad m cap vs (by rw [← hvs.1]; exact hlen) hcell (by omega) (by omega) (by omega)
              have hg := grown 0 0 [] [] vs lrel.nil hvs (by simp) hlen (by omega)
              simp only [Nat.zero_add, List.nil_append, Array.empty_append] at hg
              refine ⟨_, _, _, hexec _ _ (by rw [es, ev]; exact hr), Env.le_upd _ hj, fun k hk => upd_ne _ _ hk, hg, slice_new ?_⟩
              have := grownCap_ge w m 0 e
              exact this
          · rw [if_neg hb] at hx; cases hx
      · -- onto a row of the call's own
        rename_i i0 off n _hsl
        split at hx
        · rename_i f ro e' esz' cs ho
          by_cases hb : ro = false ∧ e' = e ∧ esz' = i.size ∧ 0 < i.size ∧ off = 0 ∧ n * i.size ≤ cs.length ∧ (n + m) * i.bytes ≤ 140737488355328 ∧ n + m ≤ 9223372036854775807 ∧ solid (cs.take (n * i.size)) = true ∧ f ≤ j
          · rw [if_pos hb] at hx
            simp only [Option.some.injEq, Prod.mk.injEq] at hx
            obtain ⟨rfl, rfl⟩ := hx
            obtain ⟨rfl, rfl, rfl, _, rfl, hfit, hbytes, hmax, hsolo, hfj⟩ := hb
            obtain ⟨p, ad0, cap0, hp, es, hle0, hoff, _⟩ := es
            obtain ⟨q, b, cur, hq, ea, hbb, hh, hcells, hcap⟩ := H.obj i0 _ ho
            rw [hp] at hq; cases hq
            obtain ⟨c0, hc0, hcs, hcm⟩ := hcap h0
            have had0 : ad0 = ⟨b, 0, none⟩ := by rw [(hoff rfl).1, ea]
            have hcapc : cap0 = c0 := (hoff rfl).2 c0 hc0
            subst hcapc had0
            have hij : i0 ≠ j := fun q => by rw [q, hj] at hp; cases hp
            -- the old cells, as the model's
            have hxs : lrel (crel E) (cs.take (n * i.size)) (cur.toList.take (n * i.size)) := by
              have hcsz : n * i.size ≤ cur.size := by rw [← hcs]; exact Nat.mul_le_mul_right _ hle0
              refine ⟨by simp; omega, fun k c v hk hv => ?_⟩
              rw [List.getElem?_take] at hk hv
              by_cases hkn : k < n * i.size
              · rw [if_pos hkn] at hk hv
                obtain ⟨v', hv', hr⟩ := hcells k c hk
                rw [Array.getElem?_toList, hv'] at hv
                cases hv
                exact hr
              · rw [if_neg hkn] at hk; cases hk
            have hxl : (cs.take (n * i.size)).length = n * i.size := by simp; omega
            -- the family, but what is longer, and the new object told by a block that is there, or by a new one
            have final : ∀ (E' : Env) (w' : World) (ao : AObj), HRel base w0 E' ({ h with o := upd h.o j (some ao) }) w' → ao = .cells f false e' i.size (cs.take (n * i.size) ++ news) →
                HRel base w0 E' { h with o := upd (kill f (n * i.size) h.o) j (some ao) } w' := by
              intro E' w' ao hR hao
              have sub : ∀ k o, upd (kill f (n * i.size) h.o) j (some ao) k = some o → upd h.o j (some ao) k = some o := by
                intro k o hk
                by_cases hkj : k = j
                · subst hkj; rw [upd_same] at hk ⊢; exact hk
                · rw [upd_ne _ _ hkj] at hk ⊢; exact (kill_get hk).1
              exact ⟨hR.below, hR.size, fun k o hk => hR.obj k o (sub k o hk), hR.nx, fun k1 k2 f1 e1 s1 c1 f2 e2 s2 c2 p1 p2 h1 h2 => hR.fam k1 k2 f1 e1 s1 c1 f2 e2 s2 c2 p1 p2 (sub _ _ h1) (sub _ _ h2), fun k1 k2 a1 b1 a2 b2 p1 p2 h1 h2 => hR.maps k1 k2 a1 b1 a2 b2 p1 p2 (sub _ _ h1) (sub _ _ h2), fun k1 f1 e1 s1 c1 h1 => hR.ord k1 f1 e1 s1 c1 (sub _ _ h1), fun k1 k2 f1 e1 c1 f2 e2 s2 c2 p1 p2 h1 h2 => hR.solo k1 k2 f1 e1 c1 f2 e2 s2 c2 p1 p2 (sub _ _ h1) (sub _ _ h2)⟩
            -- in the row itself
            have inplace : ∀ (vs : List Value), lrel (crel E) news vs → news.length = m * i.size → n + m ≤ cap0 → ∀ w', w'.os = w.os → w'.tape = w.tape → w'.output = w.output → w'.heap.size = w.heap.size → (∀ k, k ≠ b → w'.heap[k]? = w.heap[k]?) →
                w'.heap[b]? = some (.cells (cur.toList.take (n * i.size) ++ vs ++ cur.toList.drop (n * i.size + vs.length)).toArray e' (0, 0)) →
                HRel base w0 (upd E j (some (⟨b, 0, none⟩, some cap0))) { h with o := upd (kill f (n * i.size) h.o) j (some (.cells f false e' i.size (cs.take (n * i.size) ++ news))) } w' := by
              intro vs hvs hnl hroom w' hos htp hout hsz hblk hnew
              have hle : E.le (upd E j (some (⟨b, 0, none⟩, some cap0))) := Env.le_upd _ hj
              have hB : Below base w w' := ⟨hos, htp, hout, by omega, fun k hk => hblk k (by omega)⟩
              have hcsz : (n + m) * i.size ≤ cur.size := by rw [← hcs]; exact Nat.mul_le_mul_right _ hroom
              have hvl : vs.length = m * i.size := by rw [← hvs.1]; exact hnl
              have htl : (cur.toList.take (n * i.size)).length = n * i.size := by rw [Nat.add_mul] at hcsz; simp; omega
              have hnsz : (cur.toList.take (n * i.size) ++ vs ++ cur.toList.drop (n * i.size + vs.length)).toArray.size = cur.size := by
                rw [Nat.add_mul] at hcsz
                simp only [List.size_toArray, List.length_append, htl, List.length_drop, Array.length_toList]
                omega
              have hpre : ∀ k v, k < n * i.size → cur[k]? = some v → (cur.toList.take (n * i.size) ++ vs ++ cur.toList.drop (n * i.size + vs.length)).toArray[k]? = some v := by
                intro k v hk hv
                rw [List.getElem?_toArray, List.append_assoc, List.getElem?_append_left (by omega), List.getElem?_take, if_pos hk]
                simpa using hv
              refine ⟨H.below.trans hB, by rw [hsz]; exact H.size, ?_, ?_, ?_, ?_, ?_, ?_⟩
              · intro k o hk
                by_cases hkj : k = j
                · subst hkj
                  dsimp only at hk; rw [upd_same] at hk
                  cases hk
                  refine ⟨_, b, _, upd_same _ _ _, rfl, hbb, hnew, fun k' c hk' => ?_, fun _ => ⟨cap0, rfl, by rw [hnsz, hcs], hcm⟩⟩
                  obtain ⟨v, hv, hr⟩ := (hxs.append hvs).get hk'
                  refine ⟨v, ?_, hr.mono hle⟩
                  rw [List.getElem?_toArray, List.getElem?_append_left (by have := (List.getElem?_eq_some_iff.1 hv).1; simpa using this)]
                  exact hv
                · dsimp only at hk; rw [upd_ne _ _ hkj] at hk
                  obtain ⟨h1, h2⟩ := kill_get hk
                  have h3 := H.obj k o h1
                  obtain ⟨pk, hpk⟩ := h3.env
                  by_cases hbk : pk.1.block = b
                  · cases o with
                    | map ky kvs =>
                      obtain ⟨q', b', es', clk, hq', ea', _, hh', _⟩ := h3
                      rw [hpk] at hq'; cases hq'
                      have : b' = b := by rw [← hbk, ea']
                      subst this
                      rw [hh] at hh'; cases hh'
                    | cells f' ro' e'' s' cs' =>
                      cases ro' with
                      | true =>
                        obtain ⟨q', hq', hlt', _⟩ := h3
                        rw [hpk] at hq'; cases hq'
                        omega
                      | false =>
                        have hf : f' = f := H.fam k i0 _ _ _ _ _ _ _ _ pk p h1 ho hpk hp (by rw [hbk, ea])
                        have hlen := h2 _ _ _ _ rfl hf (hf ▸ H.ord k _ _ _ _ h1)
                        obtain ⟨q', b', cur', hq', ea', hbb', hh', hc', hcap'⟩ := h3
                        rw [hpk] at hq'; cases hq'
                        have : b' = b := by rw [← hbk, ea']
                        subst this
                        rw [hh] at hh'; cases hh'
                        refine ⟨pk, b', _, hle _ _ hpk, ea', hbb', hnew, fun k' c hk' => ?_, fun hs => ?_⟩
                        · obtain ⟨v, hv, hr⟩ := hc' k' c hk'
                          have := (List.getElem?_eq_some_iff.1 hk').1
                          exact ⟨v, hpre k' v (by omega) hv, hr.mono hle⟩
                        · obtain ⟨c1, g1, g2, g3⟩ := hcap' hs
                          exact ⟨c1, g1, by rw [hnsz, g2], g3⟩
                  · exact h3.mono hle (fun pk' hpk' => by rw [hpk] at hpk'; cases hpk'; exact .inr (hblk _ hbk)) hB
              · intro k hk
                have hkj : k ≠ j := by intro q; subst q; have : h.nx ≤ k := hk; omega
                rw [upd_ne _ _ hkj]
                exact H.nx k hk
              · -- families
                have own : ∀ k f1 e1 s1 c1 pk, upd (kill f (n * i.size) h.o) j (some (.cells f false e' i.size (cs.take (n * i.size) ++ news))) k = some (.cells f1 false e1 s1 c1) → upd E j (some ((⟨b, 0, none⟩ : Addr), some cap0)) k = some pk →
                    (k = j ∧ f1 = f ∧ pk.1.block = b) ∨ (k ≠ j ∧ h.o k = some (.cells f1 false e1 s1 c1) ∧ E k = some pk) := by
                  intro k f1 e1 s1 c1 pk hk hpk
                  by_cases hkj : k = j
                  · subst hkj
                    rw [upd_same] at hk hpk
                    cases hk; cases hpk
                    exact .inl ⟨rfl, rfl, rfl⟩
                  · rw [upd_ne _ _ hkj] at hk hpk
                    exact .inr ⟨hkj, (kill_get hk).1, hpk⟩
                intro k1 k2 f1 e1 s1 c1 f2 e2 s2 c2 p1 p2 h1 h2 hp1 hp2 hbk
                rcases own k1 _ _ _ _ p1 h1 hp1 with ⟨_, g2, g3⟩ | ⟨_, g2, g3⟩
                · rcases own k2 _ _ _ _ p2 h2 hp2 with ⟨_, k2', _⟩ | ⟨_, k2', k3⟩
                  · rw [g2, k2']
                  · have := H.fam i0 k2 _ _ _ _ _ _ _ _ p p2 ho k2' hp k3 (by rw [ea, ← hbk, g3])
                    rw [g2, this]
                · rcases own k2 _ _ _ _ p2 h2 hp2 with ⟨_, k2', k3⟩ | ⟨_, k2', k3⟩
                  · have := H.fam k1 i0 _ _ _ _ _ _ _ _ p1 p g2 ho g3 hp (by rw [ea, hbk, k3])
                    rw [k2', this]
                  · exact H.fam _ _ _ _ _ _ _ _ _ _ p1 p2 g2 k2' g3 k3 hbk
              · intro k1 k2 a1 b1 a2 b2 p1 p2 h1 h2 hp1 hp2 hbk
                have own : ∀ k a1 b1 pk, upd (kill f (n * i.size) h.o) j (some (.cells f false e' i.size (cs.take (n * i.size) ++ news))) k = some (.map a1 b1) → upd E j (some ((⟨b, 0, none⟩ : Addr), some cap0)) k = some pk → h.o k = some (.map a1 b1) ∧ E k = some pk := by
                  intro k a1 b1 pk hk hpk
                  by_cases hkj : k = j
                  · subst hkj; rw [upd_same] at hk; cases hk
                  · rw [upd_ne _ _ hkj] at hk hpk; exact ⟨(kill_get hk).1, hpk⟩
                obtain ⟨g1, g2⟩ := own k1 _ _ p1 h1 hp1
                obtain ⟨k1', k2'⟩ := own k2 _ _ p2 h2 hp2
                exact H.maps _ _ _ _ _ _ p1 p2 g1 k1' g2 k2' hbk
              · intro k f1 e1 s1 c1 hk
                by_cases hkj : k = j
                · subst hkj; dsimp only at hk; rw [upd_same] at hk; cases hk; exact hfj
                · dsimp only at hk; rw [upd_ne _ _ hkj] at hk; exact H.ord _ _ _ _ _ (kill_get hk).1
              · intro k1 k2 f1 e1 c1 f2 e2 s2 c2 p1 p2 h1 h2 hp1 hp2 hbk
                by_cases ej : k1 = j
                · subst ej; dsimp only at h1; rw [upd_same, Option.some.injEq, AObj.cells.injEq] at h1; have := h1.2.2.2.1; omega
                · dsimp only at h1; rw [upd_ne _ _ ej] at h1 hp1
                  by_cases ej2 : k2 = j
                  · exfalso
                    subst ej2
                    rw [upd_same] at hp2; cases hp2
                    have := H.solo k1 i0 _ _ _ _ _ _ _ p1 p (kill_get h1).1 ho hp1 hp (by rw [hbk, ea])
                    subst this
                    have h1' := (kill_get h1).1
                    rw [ho, Option.some.injEq, AObj.cells.injEq] at h1'
                    have := h1'.2.2.2.1
                    omega
                  · dsimp only at h2; rw [upd_ne _ _ ej2] at h2 hp2
                    exact H.solo _ _ _ _ _ _ _ _ _ p1 p2 (kill_get h1).1 (kill_get h2).1 hp1 hp2 hbk
            rcases src_rel H hsrc eu with ⟨ev, rfl, rfl⟩ | ⟨ad, cap, vs, ev, hvs, hlen, hcell⟩
            · -- nothing to append
              have hr := inplace [] lrel.nil (by simp) (by omega) w rfl rfl rfl rfl (fun _ _ => rfl) (by rw [hh]; simp)
              refine ⟨.slice (some ⟨b, 0, none⟩) (n + 0) cap0, w, _, hexec _ _ ?_, Env.le_upd _ hj, fun k hk => upd_ne _ _ hk, hr, slice_new (by omega)⟩
              simp [Builtin.append_, run_und hu, run_size (show szP P e' = some i.size by simp [szP, hi]), Builtin.lenOf, es, ev, Builtin.firstCells, hle0, storeCells]
            · have hvl : vs.length = m * i.size := by rw [← hvs.1]; exact hlen
              by_cases hroom : n + m ≤ cap0
              · have hf2 : n * i.size + vs.length ≤ cur.size := by rw [hvl, ← hcs, ← Nat.add_mul]; exact Nat.mul_le_mul_right _ hroom
                have hr := run_append_room (P := P) w t ty e' i hu hi b n cap0 cur hh ad m cap vs hvl hcell (solid_one hvs hsol) hroom hf2
                have hR := inplace vs hvs hlen hroom (w.setRow b (cur.toList.take (n * i.size) ++ vs ++ cur.toList.drop (n * i.size + vs.length)).toArray) rfl rfl rfl (by simp [World.setRow]) (fun k hk => setRow_other w b k _ hk) (setRow_heap w b cur _ e' (0, 0) hh)
                exact ⟨_, _, _, hexec _ _ (by rw [es, ev]; exact hr), Env.le_upd _ hj, fun k hk => upd_ne _ _ hk, hR, slice_new hroom⟩
              · have holds : ∀ (k : Nat) u, (cur.toList.take (n * i.size))[k]? = some u → w.cell? ((⟨b, 0, none⟩ : Addr).add k) = some u := by
                  intro k u hk
                  rw [List.getElem?_take] at hk
                  by_cases hkn : k < n * i.size
                  · rw [if_pos hkn, Array.getElem?_toList] at hk
                    rw [addr0]
                    simp [World.cell?, hh, hk]
                  · rw [if_neg hkn] at hk; cases hk
                have hol : (cur.toList.take (n * i.size)).length = n * i.size := by rw [← hxs.1, hxl]
                have hr := run_append_grow (P := P) w t ty e' i zv hu hi hzv2 ⟨b, 0, none⟩ n cap0 (cur.toList.take (n * i.size)) hol holds ad m cap vs hvl hcell (by omega) (by omega) (growslice_fits (by omega) hbytes)
                have hR := grown n cap0 (cs.take (n * i.size)) (cur.toList.take (n * i.size)) vs hxs hvs hxl hlen (by omega)
                -- the new block's family is told as the old one's: nobody else lies in it
                have hR2 : HRel base w0 (upd E j (some (⟨w.heap.size, 0, none⟩, some (grownCap w (n + m) cap0 e')))) { h with o := upd h.o j (some (.cells f false e' i.size (cs.take (n * i.size) ++ news))) } (w.drew.alloc (.cells ((cur.toList.take (n * i.size)).toArray ++ vs.toArray ++ Builtin.zeroCells zv.cells (grownCap w (n + m) cap0 e' - (n + m))) e')) := by
                  have conv : ∀ k f1 e1 s1 c1, upd h.o j (some (AObj.cells f false e' i.size (cs.take (n * i.size) ++ news))) k = some (.cells f1 false e1 s1 c1) → ∃ f1', (h.set j (.cells j false e' i.size (cs.take (n * i.size) ++ news))).o k = some (.cells f1' false e1 s1 c1) ∧ (k = j ∨ f1' = f1) := by
                    intro k f1 e1 s1 c1 hk
                    by_cases hkj : k = j
                    · subst hkj
                      rw [upd_same] at hk; cases hk
                      exact ⟨k, upd_same _ _ _, .inl rfl⟩
                    · rw [upd_ne _ _ hkj] at hk
                      exact ⟨f1, by rw [show (h.set j (.cells j false e' i.size (cs.take (n * i.size) ++ news))).o k = h.o k from upd_ne _ _ hkj]; exact hk, .inr rfl⟩
                  refine ⟨hR.below, hR.size, fun k o hk => ?_, hR.nx, fun k1 k2 f1 e1 s1 c1 f2 e2 s2 c2 p1 p2 h1 h2 hp1 hp2 hbk => ?_, fun k1 k2 a1 b1 a2 b2 p1 p2 h1 h2 hp1 hp2 hbk => ?_, fun k f1 e1 s1 c1 hk => ?_, fun k1 k2 f1 e1 c1 f2 e2 s2 c2 p1 p2 h1 h2 hp1 hp2 hbk => ?_⟩
                  · by_cases hkj : k = j
                    · subst hkj
                      dsimp only at hk; rw [upd_same] at hk
                      cases hk
                      exact hR.obj k (.cells k false e' i.size (cs.take (n * i.size) ++ news)) (upd_same _ _ _)
                    · dsimp only at hk; rw [upd_ne _ _ hkj] at hk
                      exact hR.obj k o (by rw [show (h.set j (.cells j false e' i.size (cs.take (n * i.size) ++ news))).o k = h.o k from upd_ne _ _ hkj]; exact hk)
                  · obtain ⟨g1, hg1, hg1'⟩ := conv k1 _ _ _ _ h1
                    obtain ⟨g2, hg2, hg2'⟩ := conv k2 _ _ _ _ h2
                    have hgg := hR.fam k1 k2 _ _ _ _ _ _ _ _ p1 p2 hg1 hg2 hp1 hp2 hbk
                    -- the block of j is new
                    have hnew : ∀ k pk f1 e1 s1 c1, k ≠ j → h.o k = some (.cells f1 false e1 s1 c1) → E k = some pk → pk.1.block ≠ w.heap.size := by
                      intro k pk f1 e1 s1 c1 _ hk hpk
                      have := (H.obj k _ hk).lt hpk H.size
                      omega
                    by_cases e1j : k1 = j
                    · by_cases e2j : k2 = j
                      · rw [e1j] at h1; rw [e2j] at h2
                        dsimp only at h1 h2; rw [upd_same] at h1 h2
                        cases h1; cases h2; rfl
                      · exfalso
                        dsimp only at h2; rw [upd_ne _ _ e2j] at h2
                        rw [upd_ne _ _ e2j] at hp2
                        subst e1j
                        rw [upd_same] at hp1; cases hp1
                        exact hnew k2 p2 _ _ _ _ e2j h2 hp2 hbk.symm
                    · by_cases e2j : k2 = j
                      · exfalso
                        dsimp only at h1; rw [upd_ne _ _ e1j] at h1
                        rw [upd_ne _ _ e1j] at hp1
                        subst e2j
                        rw [upd_same] at hp2; cases hp2
                        exact hnew k1 p1 _ _ _ _ e1j h1 hp1 hbk
                      · have e1 := hg1'.resolve_left e1j
                        have e2 := hg2'.resolve_left e2j
                        rw [← e1, ← e2, hgg]
                  · have conv2 : ∀ k a1 b1, upd h.o j (some (AObj.cells f false e' i.size (cs.take (n * i.size) ++ news))) k = some (.map a1 b1) → (h.set j (.cells j false e' i.size (cs.take (n * i.size) ++ news))).o k = some (.map a1 b1) := by
                      intro k a1 b1 hk
                      by_cases hkj : k = j
                      · subst hkj; rw [upd_same] at hk; cases hk
                      · rw [upd_ne _ _ hkj] at hk
                        rw [show (h.set j (.cells j false e' i.size (cs.take (n * i.size) ++ news))).o k = h.o k from upd_ne _ _ hkj]; exact hk
                    exact hR.maps k1 k2 _ _ _ _ p1 p2 (conv2 _ _ _ h1) (conv2 _ _ _ h2) hp1 hp2 hbk
                  · by_cases hkj : k = j
                    · subst hkj; dsimp only at hk; rw [upd_same] at hk; cases hk; exact hfj
                    · dsimp only at hk; rw [upd_ne _ _ hkj] at hk; exact H.ord _ _ _ _ _ hk
                  · obtain ⟨g1, hg1, _⟩ := conv k1 _ _ _ _ h1
                    obtain ⟨g2, hg2, _⟩ := conv k2 _ _ _ _ h2
                    exact hR.solo k1 k2 _ _ _ _ _ _ _ p1 p2 hg1 hg2 hp1 hp2 hbk
                exact ⟨_, _, _, hexec _ _ (by rw [es, ev]; exact hr), Env.le_upd _ hj, fun k hk => upd_ne _ _ hk, final _ _ _ hR2 rfl, slice_new (grownCap_ge w (n + m) cap0 e')⟩
          · rw [if_neg hb] at hx; cases hx
        · cases hx
      · cases hx
    · rw [if_neg hsol] at hx; cases hx
  · cases hx
end

end Go.Am
