/- A map update is what the model does. Conditions: as each theorem says. -/
import Derived.Test.YthoicdnlcnppgaaAmSv
set_option linter.unusedVariables false
set_option linter.unusedSimpArgs false
namespace Go.Am
open Go.RowKit
/-! ### A map is written -/
section
variable {P : Program} {E : Env} {ρ : Nat → T} {a : Act} {d : Option Tmp} {ty : TypeId} {ps : String} {af : Array Edge} {gd : Option (Nat × Bool)} {x : T} {base : Nat} {w0 w : World} {h : AH}
theorem mput_none {k : AV} {v : AV} : ∀ (kvs : List (AV × AV)), mfind kvs k = none → mput kvs k v = kvs ++ [(k, v)]
  | [], _ => rfl
  | (k', v') :: kvs, h => by
    have hne : k' ≠ k := by
      intro e
      simp [mfind, e] at h
    simp only [mput, if_neg hne, List.cons_append]
    rw [mput_none kvs (by simpa [mfind, hne] using h)]
theorem mput_some {k : AV} {v : AV} : ∀ (kvs : List (AV × AV)) (j : Nat) (q : AV × AV), kvs[j]? = some q → q.1 = k → (∀ i, i < j → ∀ r, kvs[i]? = some r → r.1 ≠ k) → mput kvs k v = kvs.set j (k, v)
  | [], j, q, h, _, _ => by simp at h
  | (k', v') :: kvs, 0, q, h, hk, _ => by
    simp at h
    subst h
    have hk : k' = k := hk
    simp [mput, hk]
  | (k', v') :: kvs, j + 1, q, h, hk, hf => by
    have hne := hf 0 (by omega) (k', v') rfl
    have hne : k' ≠ k := hne
    simp only [mput, if_neg hne, List.set_cons_succ]
    rw [mput_some kvs j q (by simpa using h) hk (fun i hi r hr => hf (i + 1) (by omega) r (by simpa using hr))]
theorem s_mupd (H : HRel base w0 E h w) (hT : TRel E ρ a) {t kt et : TypeId} {ky : Key} (ht : P.underlying t = some (.map kt et)) (hk : keyP P kt = some ky) {m k v : Operand} {m' k' v' : Opd}
    (hm' : opd m = some m') (hk' : opd k = some k') (hv' : opd v = some v') {h' : AH} (hx : sv ρ h (.mupd ky m' k' v') = some (x, h')) :
    Writes P base w0 E a.eval ⟨d, .mapUpdate t m k v, ty, ps, af, gd⟩ w x h' := by
  obtain ⟨kd, rfl, hu⟩ := key_of hk
  simp only [sv] at hx
  split at hx
  · rename_i j key val hj hkey hval
    have em := opd_rel hT hm'
    rw [hj] at em
    obtain ⟨p, hp, em⟩ := em
    have ek := opd_rel hT hk'
    rw [hkey] at ek
    have ev := opd_rel hT hv'
    rw [hval] at ev
    split at hx
    · rename_i ky' kvs ho
      by_cases hc : ky' = .int kd ∧ (Key.int kd).fits key = true ∧ solid val.cells = true
      · rw [if_pos hc] at hx
        simp only [Option.some.injEq, Prod.mk.injEq] at hx
        obtain ⟨rfl, rfl⟩ := hx
        obtain ⟨rfl, hf, _⟩ := hc
        obtain ⟨_, n, rfl, hv⟩ := isKey_of hf ek
        obtain ⟨q, b, es, clk, hq, e, hbb, hh, hl⟩ := H.obj j _ ho
        rw [hp] at hq; cases hq
        have eb : p.1.block = b := by rw [e]
        have hgo := MapKept.run_getObj_map (P := P) hh
        have hik : MapKept.IsKey (.int kd) (.int kd n) := by simp [MapKept.IsKey]
        have hck : ∀ em, (Instr.checkKey em 10000 kt (.int kd n)).run P w = .ok () w := fun em => MapKept.run_checkKey hu hik em 9999
        -- whatever the entries become, the heap is told
        have fin : ∀ (es' : Array MapEntry) (clk' : Nat), lrel (fun (q : AV × AV) (e : MapEntry) => (Key.int kd).fits q.1 = true ∧ avrel E q.1 e.key ∧ avrel E q.2 e.val) (mput kvs (.one (.int kd n)) val) es'.toList →
            HRel base w0 E (h.set j (.map (.int kd) (mput kvs (.one (.int kd n)) val))) { w with heap := w.heap.setIfInBounds b (.map es' clk') } := by
          intro es' clk' hl'
          have hset := MapKept.heap_set (o' := .map es' clk') hh
          refine H.write (b := b) hbb rfl rfl rfl (by simp) (fun k hk => hset.2 k hk) rfl (fun i o hi => ?_) (fun i f e s cs hi => ?_) (fun i k2 kvs2 hi => ?_)
          · by_cases hij : i = j
            · subst hij
              rw [show (h.set i (.map (.int kd) (mput kvs (.one (.int kd n)) val))).o i = _ from upd_same _ _ _] at hi
              cases hi
              exact .inl ⟨p, b, es', clk', hp, e, hbb, hset.1, hl'⟩
            · rw [show (h.set j (.map (.int kd) (mput kvs (.one (.int kd n)) val))).o i = h.o i from upd_ne _ _ hij] at hi
              refine .inr ⟨hi, fun q hq hb' => ?_⟩
              have h3 := H.obj i o hi
              cases o with
              | map ky2 kvs2 => exact hij (H.maps i j _ _ _ _ q p hi ho hq hp (by rw [hb', e]))
              | cells f ro e' s cs =>
                cases ro with
                | true =>
                  obtain ⟨q', hq', hlt, _⟩ := h3
                  rw [hq] at hq'; cases hq'
                  omega
                | false =>
                  obtain ⟨q', b', cur', hq', ea', _, hh', _⟩ := h3
                  rw [hq] at hq'; cases hq'
                  have : b' = b := by rw [← hb', ea']
                  subst this
                  rw [hh] at hh'; cases hh'
          · by_cases hij : i = j
            · subst hij
              rw [show (h.set i (.map (.int kd) (mput kvs (.one (.int kd n)) val))).o i = _ from upd_same _ _ _] at hi
              cases hi
            · rw [show (h.set j (.map (.int kd) (mput kvs (.one (.int kd n)) val))).o i = h.o i from upd_ne _ _ hij] at hi
              exact ⟨_, _, hi⟩
          · by_cases hij : i = j
            · subst hij
              exact ⟨_, _, ho⟩
            · rw [show (h.set j (.map (.int kd) (mput kvs (.one (.int kd n)) val))).o i = h.o i from upd_ne _ _ hij] at hi
              exact ⟨_, _, hi⟩
        rcases find_rel (n := n) hl with ⟨h1, h2⟩ | ⟨i, q, en, h1, h2, h3, h4, h5, h6⟩
        · have hfk : (Instr.findKey kt (.int kd n) es.toList).run P w = .ok none w := by
            rcases MapKept.findNow_spec hik es.toList 0 (keys_of hl) with ⟨g1, _⟩ | ⟨j', e', g1, g2, g3⟩
            · exact MapKept.run_findKey hu g1
            · exact absurd g3 (h2 e' (List.mem_of_getElem? g2))
          refine ⟨_, .inl ⟨?_, ⟨#[], rfl, lrel.nil⟩⟩, fin (es.push { key := .int kd n, val := a.eval v, born := clk }) (clk + 1) ?_⟩
          · have hso := MapKept.run_setObj_map (P := P) (.map (es.push { key := .int kd n, val := a.eval v, born := clk }) (clk + 1)) hh
            simp [execOp, em, hv, Instr.mapUpdate, run_und ht, eb, hgo, hck, hfk, hso]
          · rw [mput_none _ h1, Array.toList_push]
            exact hl.append (lrel.cons ⟨by simp [Key.fits], rfl, ev⟩ lrel.nil)
        · have hfn := findNow_first es.toList 0 i en (keys_of hl) h3 h4 (fun i' hi' r hr he => by
            have hlt : i' < kvs.length := by rw [hl.1]; exact (List.getElem?_eq_some_iff.1 hr).1
            have hrr := hl.2 i' kvs[i'] r (List.getElem?_eq_getElem hlt) hr
            obtain ⟨_, n', hn', hv'⟩ := isKey_of hrr.1 hrr.2.1
            rw [he] at hv'; cases hv'
            exact h6 i' hi' kvs[i'] (List.getElem?_eq_getElem hlt) hn')
          simp only [Nat.zero_add] at hfn
          have hfk : (Instr.findKey kt (.int kd n) es.toList).run P w = .ok (some (i, en.val)) w := MapKept.run_findKey hu hfn
          have hget : es[i]? = some en := by simpa using h3
          have hkts := MapKept.run_keyThatStays (P := P) (w := w) hik
          refine ⟨_, .inl ⟨?_, ⟨#[], rfl, lrel.nil⟩⟩, fin (es.modify i fun e => { e with key := .int kd n, val := a.eval v }) clk ?_⟩
          · have hso := MapKept.run_setObj_map (P := P) (.map (es.modify i fun e => { e with key := .int kd n, val := a.eval v }) clk) hh
            simp [execOp, em, hv, Instr.mapUpdate, run_und ht, eb, hgo, hck, hfk, hget, h4, hkts, hso]
          · rw [mput_some _ i q h2 h5 h6]
            refine ⟨by simp [hl.1], fun k x y hx hy => ?_⟩
            rw [List.getElem?_set] at hx
            rw [Array.getElem?_toList, Array.getElem?_modify] at hy
            by_cases hki : i = k
            · subst hki
              rw [if_pos rfl, if_pos (List.getElem?_eq_some_iff.1 h2).1] at hx
              cases hx
              rw [if_pos rfl, hget] at hy
              simp only [Option.map_some, Option.some.injEq] at hy
              subst hy
              exact ⟨by simp [Key.fits], rfl, ev⟩
            · rw [if_neg hki] at hx
              rw [if_neg hki] at hy
              exact hl.2 k x y hx (by simpa using hy)
      · rw [if_neg hc] at hx; cases hx
    · cases hx
  · cases hx
end

end Go.Am
