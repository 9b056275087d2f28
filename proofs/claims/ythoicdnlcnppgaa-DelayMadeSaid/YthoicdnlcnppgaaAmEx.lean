/- Regions, code and calls of the abstract machine are what the model does. Conditions: as each theorem says. -/
import Derived.Test.YthoicdnlcnppgaaAmReg
set_option linter.unusedVariables false
set_option linter.unusedSimpArgs false
namespace Go.Am
open Go.RowKit
/-! ### A region, code, calls -/
def depsOf (ops : Array Oper) (i : Nat) : List Nat := ((ops[i]?).map fun o => (o.after.toList.filter (Region.binds .any)).map (·.on)).getD []
/-- What must have come up before. -/
inductive Anc (ops : Array Oper) : Nat → Nat → Prop
  | one {x i : Nat} : x ∈ depsOf ops i → Anc ops x i
  | up {x y i : Nat} : Anc ops x y → y ∈ depsOf ops i → Anc ops x i
section
variable {P : Program} {N base : Nat} {w0 : World} {rec : Rec} {cops : Array Oper} {ops : List AOper} {holds : List (Nat × List Nat)} {b0 : Nat}
theorem OrdOk.drop_mid {anc dep : Nat → Nat → Prop} {p : List Nat} {i : Nat} {q : List Nat} (hok : OrdOk ops holds anc dep (p ++ i :: q)) (hp : ∀ x ∈ p, ¬ anc x i) : OrdOk ops holds anc dep (p ++ q) := by
  have hsub : (p ++ q).Sublist (p ++ i :: q) := List.Sublist.append (List.Sublist.refl p) (List.sublist_cons_self i q)
  have up : ∀ {l : List Nat}, l.Sublist (p ++ q) → l.Sublist (p ++ i :: q) := fun h => h.trans hsub
  refine ⟨hok.nodup.sublist hsub, fun a b h hn => hok.pair a b (up h) hn, hok.held, fun a ha => hok.own a (hsub.subset ha), fun a b h => hok.afar a b (up h), fun e he l hl hlp => ?_, fun a l hl => ⟨fun h => (hok.bef a l hl).1 (up h), (hok.bef a l hl).2⟩, fun a e he => ⟨fun h => (hok.deps a e he).1 (up h), (hok.deps a e he).2⟩⟩
  by_cases hli : l = i
  · subst hli
    obtain ⟨ol, d, h1, hd, hdl⟩ := hok.own l (by simp) e hl
    refine ⟨ol, h1, fun y hy => ?_⟩
    rcases List.mem_append.1 hy with hy | hy
    · obtain ⟨oy, ol', h2, h3, h4, _⟩ := hok.pair y l (List.Sublist.append (List.singleton_sublist.2 hy) (List.singleton_sublist.2 (List.mem_cons_self ..))) (hp y hy)
      rw [h1] at h3; cases h3
      obtain ⟨a1, a2, a3⟩ := apartB_spec h4
      refine ⟨oy, h2, ?_⟩
      unfold afarB
      cases hyd : oy.dst with
      | none => rfl
      | some n =>
        have g1 : n ∉ ol.looks := fun hn => a1 n hn hyd
        have g2 : ol.dst ≠ some n := a3 n hyd
        simp [g1, g2]
    · obtain ⟨ol', oy, h2, h3, h4⟩ := hok.afar l y ((List.nil_sublist p).append (sub_head hy)) e hl
      rw [h1] at h2; cases h2
      exact ⟨oy, h3, h4⟩
  · obtain ⟨ol, h1, h2⟩ := hok.past e (hsub.subset he) l hl (by
      intro hm
      rcases List.mem_append.1 hm with hm | hm
      · exact hlp (List.mem_append_left _ hm)
      · rcases List.mem_cons.1 hm with hm | hm
        · exact hli hm
        · exact hlp (List.mem_append_right _ hm))
    exact ⟨ol, h1, fun y hy => h2 y (hsub.subset hy)⟩
/-- A region in whatever order. -/
theorem any_order (hrec : RecOk P rec) (hops : cops.toList.map (resolveOper P N cops) = ops.map some) {Q : Exit → Act → World → Prop} : ∀ (n : Nat) (π : List Nat) (listed : Array Bool) (E : Env) (s sf : St) (a : Act) (w : World), π.length = n →
    OrdOk ops holds (Anc cops) (fun e x => e ∈ depsOf cops x) π → (∀ k ∈ π, s.h.o (b0 + k) = none ∧ b0 + k < s.h.nx ∧ E (b0 + k) = none) → (∀ i, i < cops.size → (listed.getD i true = false ↔ i ∈ π)) → (∀ i ∈ π, i < cops.size) → listed.size = cops.size →
    (∀ y, y < cops.size → listed.getD y true = true → ∀ e ∈ depsOf cops y, e < cops.size → listed.getD e true = true) → (∀ y, ∀ e ∈ depsOf cops y, e < cops.size) →
    SRel N base w0 E s a w → runOps rec ops holds b0 π s = some sf → (∀ E' a' w', E.le E' → (∀ i, i < b0 → E' i = E i) → SRel N base w0 E' sf a' w' → Q .normal a' w') → wpAny P .any cops Q n listed a w := by
  intro n
  induction n with
  | zero =>
    intro π listed E s sf a w hn hok hfr hl hlt hsz hcl hdl S hrun hQ
    have : π = [] := List.eq_nil_of_length_eq_zero hn
    subst this
    simp only [runOps, Option.some.injEq] at hrun
    subst hrun
    refine ⟨?_, hQ E a w (Env.le_refl E) (fun _ _ => rfl) S⟩
    cases hr : Region.ready .any cops listed with
    | nil => rfl
    | cons i l =>
      have hm : i ∈ Region.ready .any cops listed := by rw [hr]; exact List.mem_cons_self ..
      obtain ⟨h1, o, ho, _⟩ := mem_ready.1 hm
      have hi : i < cops.size := (Array.getElem?_eq_some_iff.1 ho).1
      exact absurd ((hl i hi).1 h1) (by simp)
  | succ n ih =>
    intro π listed E s sf a w hn hok hfr hl hlt hsz hcl hdl S hrun hQ
    have hlist : ∀ e, e < cops.size → e ∉ π → listed.getD e true = true := by
      intro e he hne
      cases hx : listed.getD e true with
      | true => rfl
      | false => exact absurd ((hl e he).1 hx) hne
    have hto : ∀ e, e < cops.size → listed.getD e true = true → listed.getD e false = true := by
      intro e he hx
      rw [← hsz] at he
      simp only [Array.getD_eq_getD_getElem?, Array.getElem?_eq_getElem he, Option.getD_some] at hx ⊢
      exact hx
    refine ⟨fun hnil => ?_, fun i hi => ?_⟩
    · -- the first of the order may come up
      exfalso
      cases π with
      | nil => simp at hn
      | cons x rest =>
        have hx : x < cops.size := hlt x (List.mem_cons_self ..)
        have : x ∈ Region.ready .any cops listed := by
          refine mem_ready.2 ⟨(hl x hx).2 (List.mem_cons_self ..), cops[x], Array.getElem?_eq_getElem hx, fun e he hb => ?_⟩
          have hd : e.on ∈ depsOf cops x := by
            unfold depsOf
            rw [Array.getElem?_eq_getElem hx]
            exact List.mem_map.2 ⟨e, List.mem_filter.2 ⟨by simpa using he, hb⟩, rfl⟩
          have he2 := hdl x _ hd
          refine hto _ he2 (hlist _ he2 fun hm => ?_)
          obtain ⟨g1, g2⟩ := hok.deps x e.on hd
          rcases List.mem_cons.1 hm with hm | hm
          · exact g2 hm
          · exact g1 (sub_head hm)
        rw [hnil] at this
        cases this
    · obtain ⟨h1, o, ho, hdeps⟩ := mem_ready.1 hi
      have hil : i < cops.size := (Array.getElem?_eq_some_iff.1 ho).1
      have hiπ := (hl i hil).1 h1
      obtain ⟨p, q, rfl⟩ := List.append_of_mem hiπ
      -- what must have come up before i has come up
      have hup : ∀ x y, Anc cops x y → y < cops.size → listed.getD y true = true → listed.getD x true = true := by
        intro x y hxy
        induction hxy with
        | one hd => intro hy hly; exact hcl _ hy hly _ hd (hdl _ _ hd)
        | up hxy hd ih' => intro hy hly; exact ih' (hdl _ _ hd) (hcl _ hy hly _ hd (hdl _ _ hd))
      have hdir : ∀ e ∈ depsOf cops i, listed.getD e true = true := by
        intro e he
        unfold depsOf at he
        rw [ho] at he
        obtain ⟨ed, hed, rfl⟩ := List.mem_map.1 he
        obtain ⟨h3, h4⟩ := List.mem_filter.1 hed
        have := hdeps ed (by simpa using h3) h4
        have hlt2 : ed.on < listed.size := by
          rcases Nat.lt_or_ge ed.on listed.size with h5 | h5
          · exact h5
          · rw [Array.getD_eq_getD_getElem?, Array.getElem?_eq_none h5] at this; cases this
        simp only [Array.getD_eq_getD_getElem?, Array.getElem?_eq_getElem hlt2, Option.getD_some] at this ⊢
        exact this
      have hanc : ∀ x ∈ p, ¬ Anc cops x i := by
        intro x hx hxi
        have hxl : listed.getD x true = true := by
          cases hxi with
          | one hd => exact hdir _ hd
          | up hxy hd => exact hup _ _ hxy (hdl _ _ hd) (hdir _ hd)
        have := (hl x (hlt x (by simp [hx]))).2 (by simp [hx])
        rw [this] at hxl; cases hxl
      obtain ⟨oi, s1, hoi, hs1, hrest, _⟩ := front hrec.fresh p i q s sf hok hanc (fun k hk => ⟨(hfr k hk).1, (hfr k hk).2.1⟩) hrun
      have hres : resolveOper P N cops o = some oi := by
        have := congrArg (fun l => l[i]?) hops
        simp only [List.getElem?_map, Array.getElem?_toList, ho, hoi, Option.map_some] at this
        simpa using this
      have hstep := step_sim (E := E) hrec S (hfr i (by simp)).2.2 (hfr i (by simp)).2.1 hres hs1 (wpAny P .any cops Q n (listed.setIfInBounds i true)) Q (fun E' a' w' hE hEi S' => ?_)
      · unfold wpOp
        rw [ho]
        simp only []
        split
        · rename_i hw; rw [if_pos hw] at hstep; exact .inl hstep
        · rename_i hw; rw [if_neg hw] at hstep; exact hstep
      · obtain ⟨v, h', ev, es⟩ := ostep_parts hs1
        have hnx := oval_fresh hrec.fresh ev
        have hs1h : s1.h = h' := by rw [es]; exact put_h _ _ _
        have hnd := hok.nodup
        have hne : ∀ k ∈ p ++ q, k ≠ i := by
          intro k hk e
          subst e
          have h3 := List.nodup_append.1 hnd
          rcases List.mem_append.1 hk with hk | hk
          · exact h3.2.2 k hk k (List.mem_cons_self ..) rfl
          · exact (List.nodup_cons.1 h3.2.1).1 hk
        have hmem : ∀ k, k ∈ p ++ q → k ∈ p ++ i :: q := by
          intro k hk
          rcases List.mem_append.1 hk with hk | hk
          · exact List.mem_append_left _ hk
          · exact List.mem_append_right _ (List.mem_cons_of_mem _ hk)
        refine ih (p ++ q) _ E' s1 sf a' w' (by simp at hn ⊢; omega) (hok.drop_mid hanc) (fun k hk => ?_) (fun k hk => ?_) (fun k hk => hlt k (hmem k hk)) (by simp [hsz]) (fun y hy hly e he hel => ?_) hdl S' hrest (fun E'' a'' w'' hE'' hlow S'' => hQ E'' a'' w'' (Env.le_trans hE hE'') (fun k hk => by
          rw [hlow k hk]
          refine hEi k (by have := (hfr i (by simp)).2.1; omega) (by omega)) S'')
        · have hk' := hfr k (hmem k hk)
          have hki := hne k hk
          refine ⟨by rw [hs1h]; exact hnx.2 _ hk'.2.1 (by omega) hk'.1, by rw [hs1h]; have := hnx.1; omega, ?_⟩
          rw [hEi _ hk'.2.1 (by omega)]
          exact hk'.2.2
        · by_cases hki : k = i
          · subst hki
            constructor
            · intro h3
              have : (listed.setIfInBounds k true).getD k true = true := by
                simp [Array.getElem?_setIfInBounds]
                split <;> rfl
              rw [this] at h3; cases h3
            · intro h3; exact absurd rfl (hne k h3)
          · rw [getD_set_ne true (Ne.symm hki), hl k hk]
            constructor
            · intro h3
              rcases List.mem_append.1 h3 with h3 | h3
              · exact List.mem_append_left _ h3
              · rcases List.mem_cons.1 h3 with h3 | h3
                · exact absurd h3 hki
                · exact List.mem_append_right _ h3
            · exact hmem k
        · by_cases hyi : y = i
          · subst hyi
            have := hdir e he
            by_cases hei : e = y
            · subst hei
              simp [Array.getElem?_setIfInBounds]
              split <;> rfl
            · rw [getD_set_ne true (Ne.symm hei)]; exact this
          · rw [getD_set_ne true (Ne.symm hyi)] at hly
            have := hcl y hy hly e he hel
            by_cases hei : e = i
            · subst hei
              simp [Array.getElem?_setIfInBounds]
              split <;> rfl
            · rw [getD_set_ne true (Ne.symm hei)]; exact this
/-- A region in the order of the text. -/
theorem text_order (hrec : RecOk P rec) (hops : cops.toList.map (resolveOper P N cops) = ops.map some) {Q : Exit → Act → World → Prop} : ∀ (π : List Nat) (E : Env) (s sf : St) (a : Act) (w : World),
    π.Nodup → (∀ k ∈ π, s.h.o (b0 + k) = none ∧ b0 + k < s.h.nx ∧ E (b0 + k) = none) →
    SRel N base w0 E s a w → runOps rec ops holds b0 π s = some sf → (∀ E' a' w', E.le E' → (∀ i, i < b0 → E' i = E i) → SRel N base w0 E' sf a' w' → Q .normal a' w') → wpOps P cops Q π a w
  | [], E, s, sf, a, w, _, _, S, hrun, hQ => by
    simp only [runOps, Option.some.injEq] at hrun
    subst hrun
    exact hQ E a w (Env.le_refl E) (fun _ _ => rfl) S
  | i :: π, E, s, sf, a, w, hnd, hfr, S, hrun, hQ => by
    obtain ⟨oi, s1, hoi, hs1, _, hrest⟩ := runOps_cons hrun
    have hlen : cops.size = ops.length := by have := congrArg List.length hops; simpa using this
    have hil : i < cops.size := by rw [hlen]; exact (List.getElem?_eq_some_iff.1 hoi).1
    have ho : cops[i]? = some cops[i] := Array.getElem?_eq_getElem hil
    have hres : resolveOper P N cops cops[i] = some oi := by
      have := congrArg (fun l => l[i]?) hops
      simp only [List.getElem?_map, Array.getElem?_toList, ho, hoi, Option.map_some] at this
      simpa using this
    have hf := hfr i (by simp)
    have hstep := step_sim (E := E) hrec S hf.2.2 hf.2.1 hres hs1 (wpOps P cops Q π) Q (fun E' a' w' hE hEi S' => ?_)
    · simp only [wpOps, ho]
      split
      · rename_i hw; rw [if_pos hw] at hstep; exact .inl hstep
      · rename_i hw; rw [if_neg hw] at hstep; exact hstep
    · obtain ⟨v, h', ev, es⟩ := ostep_parts hs1
      have hnx := oval_fresh hrec.fresh ev
      have hs1h : s1.h = h' := by rw [es]; exact put_h _ _ _
      refine text_order hrec hops π E' s1 sf a' w' (List.nodup_cons.1 hnd).2 (fun k hk => ?_) S' hrest (fun E'' a'' w'' hE'' hlow S'' => hQ E'' a'' w'' (Env.le_trans hE hE'') (fun k hk => by
        rw [hlow k hk]
        exact hEi k (by omega) (by omega)) S'')
      have hk' := hfr k (by simp [hk])
      have hki : k ≠ i := by intro e; subst e; exact (List.nodup_cons.1 hnd).1 hk
      refine ⟨by rw [hs1h]; exact hnx.2 _ hk'.2.1 (by omega) hk'.1, by rw [hs1h]; have := hnx.1; omega, ?_⟩
      rw [hEi _ hk'.2.1 (by omega)]
      exact hk'.2.2
end
/-! ### The static check of an order -/
/-- What the edges let the mask of one operation be. -/
def ancUp (cops : Array Oper) (tab : List Nat) (i : Nat) : Nat :=
  (depsOf cops i).foldl (fun m y => if y < i then m ||| ((1 <<< y) ||| (tab[y]?).getD 0) else m) 0
def tabB (cops : Array Oper) (tab : List Nat) : Bool :=
  (List.range tab.length).all fun i => Nat.beq ((tab[i]?).getD 0 ||| ancUp cops tab i) (ancUp cops tab i)
def ancTab (ops : Array Oper) : List Nat := (List.range ops.size).foldl (fun acc i => acc ++ [ancUp ops acc i]) []
def ancB (tab : List Nat) (x i : Nat) : Bool := ((tab[i]?).getD 0).testBit x
theorem tabB_sound {cops : Array Oper} {tab : List Nat} (h : tabB cops tab = true) : ∀ i x, ancB tab x i = true → Anc cops x i := by
  intro i
  induction i using Nat.strongRecOn with
  | ind i ih =>
    intro x hx
    have hi : i < tab.length := by
      rcases Nat.lt_or_ge i tab.length with h1 | h1
      · exact h1
      · unfold ancB at hx
        rw [List.getElem?_eq_none h1] at hx
        simp at hx
    have h1 := List.all_eq_true.1 h i (List.mem_range.2 hi)
    have h2 := Nat.eq_of_beq_eq_true h1
    have h3 : (ancUp cops tab i).testBit x = true := by
      rw [← h2, Nat.testBit_or]
      unfold ancB at hx
      rw [hx]; rfl
    have key : ∀ (l : List Nat) (m : Nat), (∀ y ∈ l, y ∈ depsOf cops i) → (m.testBit x = true → Anc cops x i) → (l.foldl (fun m y => if y < i then m ||| ((1 <<< y) ||| (tab[y]?).getD 0) else m) m).testBit x = true → Anc cops x i := by
      intro l
      induction l with
      | nil => intro m _ hm h; exact hm h
      | cons y l ihl =>
        intro m hl hm h
        refine ihl _ (fun z hz => hl z (List.mem_cons_of_mem _ hz)) (fun h => ?_) h
        simp only [] at h
        by_cases hy : y < i
        · rw [if_pos hy, Nat.testBit_or, Nat.testBit_or, Bool.or_eq_true, Bool.or_eq_true] at h
          rcases h with h | h | h
          · exact hm h
          · rw [Nat.one_shiftLeft, Nat.testBit_two_pow] at h
            have : y = x := by simpa using h
            subst this
            exact .one (hl y (by simp))
          · exact .up (ih y hy x h) (hl y (by simp))
        · rw [if_neg hy] at h
          exact hm h
    exact key _ 0 (fun y hy => hy) (fun h => by simp at h) h3
def pairB (ops : List AOper) (holds : List (Nat × List Nat)) (x i : Nat) : Bool :=
  match ops[x]?, ops[i]? with
  | some ox, some oi => apartB ox oi && mayB ((holdsOf holds i).contains x) ox oi
  | _, _ => false
def afarOf (ops : List AOper) (x y : Nat) : Bool :=
  match ops[x]?, ops[y]? with
  | some ox, some oy => afarB ox oy
  | _, _ => false
def ownB (ops : List AOper) (x : Nat) : Bool :=
  match ops[x]? with
  | some ox => match ox.dst with
    | some d => !(ox.looks.contains d)
    | none => false
  | none => false
def heldB (ops : List AOper) (i : Nat) : Bool :=
  match ops[i]? with
  | some oi => (oi.op.cls == .p || oi.op.cls == .s || oi.op.cls == .c) && !(onNil oi.op)
  | none => false
/-- The check, from the front of the order on. -/
def ordB (cops : Array Oper) (tab : List Nat) (ops : List AOper) (holds : List (Nat × List Nat)) : List Nat → Bool
  | [] => true
  | x :: rest =>
    !(rest.contains x) && rest.all (fun i => ancB tab x i || pairB ops holds x i) &&
    (!((holds.flatMap (·.2)).contains x) || (ownB ops x && rest.all (afarOf ops x))) &&
    (holdsOf holds x).all (fun l => !(rest.contains l) && l != x) &&
    (depsOf cops x).all (fun e => !(rest.contains e) && e != x) && ordB cops tab ops holds rest
def regB (cops : Array Oper) (tab : List Nat) (ops : List AOper) (holds : List (Nat × List Nat)) (π : List Nat) : Bool :=
  tabB cops tab && ordB cops tab ops holds π && π.length == cops.size && π.all (fun i => decide (i < cops.size)) &&
  holds.all (fun p => heldB ops p.1 && p.2.all fun l => π.contains l) &&
  (List.range cops.size).all (fun i => (depsOf cops i).all fun e => decide (e < cops.size)) && (List.range cops.size).all fun i => π.contains i
theorem holdsOf_mem {holds : List (Nat × List Nat)} {i x : Nat} (h : x ∈ holdsOf holds i) : ∃ p ∈ holds, p.1 = i ∧ x ∈ p.2 := by
  unfold holdsOf at h
  cases hf : holds.find? (fun p => p.1 == i) with
  | none => rw [hf] at h; cases h
  | some p =>
    rw [hf] at h
    exact ⟨p, List.mem_of_find?_eq_some hf, by have := List.find?_some hf; simpa using this, h⟩
theorem ordB_sub {cops : Array Oper} {tab : List Nat} {ops : List AOper} {holds : List (Nat × List Nat)} {x y : Nat} : ∀ {π : List Nat}, ordB cops tab ops holds π = true → [x, y].Sublist π →
    (ancB tab x y = true ∨ pairB ops holds x y = true) ∧ ((∃ i, x ∈ holdsOf holds i) → afarOf ops x y = true) ∧ y ∉ holdsOf holds x ∧ y ∉ depsOf cops x
  | [], _, h => by cases h
  | z :: rest, ho, h => by
    simp only [ordB, Bool.and_eq_true] at ho
    obtain ⟨⟨⟨⟨⟨h1, h2⟩, h3⟩, h4⟩, h5⟩, h6⟩ := ho
    cases h with
    | cons _ h => exact ordB_sub h6 h
    | cons_cons _ h =>
      have hy : y ∈ rest := List.singleton_sublist.1 h
      refine ⟨?_, fun ⟨i, hi⟩ => ?_, fun hm => ?_, fun hm => ?_⟩
      · have := (List.all_eq_true.1 h2) y hy
        simpa using this
      · obtain ⟨p, hp, _, hx⟩ := holdsOf_mem hi
        have hc : (holds.flatMap (·.2)).contains x = true := by
          rw [List.contains_iff_mem]
          exact List.mem_flatMap.2 ⟨p, hp, hx⟩
        rw [hc] at h3
        simp only [Bool.not_true, Bool.false_or, Bool.and_eq_true] at h3
        exact (List.all_eq_true.1 h3.2) y hy
      · have := (List.all_eq_true.1 h4) y hm
        simp [hy] at this
      · have := (List.all_eq_true.1 h5) y hm
        simp [hy] at this
theorem ordB_mem {cops : Array Oper} {tab : List Nat} {ops : List AOper} {holds : List (Nat × List Nat)} {x : Nat} : ∀ {π : List Nat}, ordB cops tab ops holds π = true → x ∈ π →
    ((∃ i, x ∈ holdsOf holds i) → ownB ops x = true) ∧ x ∉ holdsOf holds x ∧ x ∉ depsOf cops x
  | [], _, h => by cases h
  | z :: rest, ho, h => by
    simp only [ordB, Bool.and_eq_true] at ho
    obtain ⟨⟨⟨⟨⟨h1, h2⟩, h3⟩, h4⟩, h5⟩, h6⟩ := ho
    rcases List.mem_cons.1 h with h | h
    · subst h
      refine ⟨fun ⟨i, hi⟩ => ?_, fun hm => ?_, fun hm => ?_⟩
      · obtain ⟨p, hp, _, hx⟩ := holdsOf_mem hi
        have hc : (holds.flatMap (·.2)).contains x = true := by
          rw [List.contains_iff_mem]
          exact List.mem_flatMap.2 ⟨p, hp, hx⟩
        rw [hc] at h3
        simp only [Bool.not_true, Bool.false_or, Bool.and_eq_true] at h3
        exact h3.1
      · have := (List.all_eq_true.1 h4) x hm
        simp at this
      · have := (List.all_eq_true.1 h5) x hm
        simp at this
    · exact ordB_mem h6 h
theorem ordB_nodup {cops : Array Oper} {tab : List Nat} {ops : List AOper} {holds : List (Nat × List Nat)} : ∀ {π : List Nat}, ordB cops tab ops holds π = true → π.Nodup
  | [], _ => List.nodup_nil
  | z :: rest, ho => by
    simp only [ordB, Bool.and_eq_true] at ho
    obtain ⟨⟨⟨⟨⟨h1, h2⟩, h3⟩, h4⟩, h5⟩, h6⟩ := ho
    exact List.nodup_cons.2 ⟨by simpa using h1, ordB_nodup h6⟩
theorem regB_ok {cops : Array Oper} {tab : List Nat} {ops : List AOper} {holds : List (Nat × List Nat)} {π : List Nat} (h : regB cops tab ops holds π = true) :
    OrdOk ops holds (Anc cops) (fun e x => e ∈ depsOf cops x) π ∧ π.length = cops.size ∧ (∀ i ∈ π, i < cops.size) ∧ (∀ i, i < cops.size → i ∈ π) ∧ ∀ y, ∀ e ∈ depsOf cops y, e < cops.size := by
  simp only [regB, Bool.and_eq_true] at h
  obtain ⟨⟨⟨⟨⟨⟨h0, h1⟩, h2⟩, h3⟩, h4⟩, h5⟩, h6⟩ := h
  have hall : ∀ i, i < cops.size → i ∈ π := by
    intro i hi
    have := (List.all_eq_true.1 h6) i (List.mem_range.2 hi)
    simpa using this
  have hlt : ∀ i ∈ π, i < cops.size := by
    intro i hi
    have := (List.all_eq_true.1 h3) i hi
    simpa using this
  have hholds : ∀ i x, x ∈ holdsOf holds i → heldB ops i = true ∧ x ∈ π := by
    intro i x hx
    obtain ⟨p, hp, e, hx'⟩ := holdsOf_mem hx
    have := (List.all_eq_true.1 h4) p hp
    simp only [Bool.and_eq_true] at this
    subst e
    refine ⟨this.1, ?_⟩
    have := (List.all_eq_true.1 this.2) x hx'
    simpa using this
  have hmem : ∀ x, (∃ i, x ∈ holdsOf holds i) → ∃ ox d, ops[x]? = some ox ∧ ox.dst = some d ∧ d ∉ ox.looks := by
    intro x hx
    obtain ⟨i, hi⟩ := hx
    have := (ordB_mem h1 (hholds i x hi).2).1 ⟨i, hi⟩
    unfold ownB at this
    split at this
    · rename_i ox hox
      split at this
      · rename_i d hd
        exact ⟨ox, d, hox, hd, by simpa using this⟩
      · cases this
    · cases this
  refine ⟨⟨ordB_nodup h1, fun x i hs hn => ?_, fun i hi => ?_, fun x hx i hi => hmem x ⟨i, hi⟩, fun x y hs i hi => ?_, fun e he l hl hlp => absurd (hholds e l hl).2 hlp, fun x l hl => ⟨fun hs => (ordB_sub h1 hs).2.2.1 hl, fun e => ?_⟩, fun x e he => ⟨fun hs => (ordB_sub h1 hs).2.2.2 he, fun q => ?_⟩⟩, by simpa using h2, hlt, hall, fun y e he => ?_⟩
  · have := (ordB_sub h1 hs).1
    rcases this with h7 | h7
    · exact absurd (tabB_sound h0 i x h7) hn
    · unfold pairB at h7
      split at h7
      · rename_i ox oi hx hi
        simp only [Bool.and_eq_true] at h7
        exact ⟨ox, oi, hx, hi, h7.1, h7.2⟩
      · cases h7
  · obtain ⟨x, hx⟩ := List.exists_mem_of_ne_nil _ hi
    have := (hholds i x hx).1
    unfold heldB at this
    split at this
    · rename_i oi hoi
      simp only [Bool.and_eq_true, Bool.or_eq_true, beq_iff_eq, Bool.not_eq_true'] at this
      refine ⟨oi, hoi, ?_, this.2⟩
      rcases this.1 with (h8 | h8) | h8
      · exact .inl h8
      · exact .inr (.inl h8)
      · exact .inr (.inr h8)
    · cases this
  · have := (ordB_sub h1 hs).2.1 ⟨i, hi⟩
    unfold afarOf at this
    split at this
    · rename_i ox oy hx hy
      exact ⟨ox, oy, hx, hy, this⟩
    · cases this
  · subst e
    exact (ordB_mem h1 (hholds l l hl).2).2.1 hl
  · subst q
    have hep : e < cops.size := by
      unfold depsOf at he
      cases hc : cops[e]? with
      | none => rw [hc] at he; cases he
      | some o => exact (Array.getElem?_eq_some_iff.1 hc).1
    exact (ordB_mem h1 (hall e hep)).2.2 he
  · have hy : y < cops.size := by
      unfold depsOf at he
      cases hc : cops[y]? with
      | none => rw [hc] at he; cases he
      | some o => exact (Array.getElem?_eq_some_iff.1 hc).1
    have := (List.all_eq_true.1 h5) y (List.mem_range.2 hy)
    have := (List.all_eq_true.1 this) e he
    simpa using this
/-! ### Code -/
inductive Fits (P : Program) (N : Nat) : Code → ACode → Prop
  | skip : Fits P N .skip .skip
  | text {id : Nat} {cops : Array Oper} {ops : List AOper} {holds : List (Nat × List Nat)} : cops.toList.map (resolveOper P N cops) = ops.map some → Fits P N (.region id cops false) (.region ops (List.range cops.size) holds)
  | draw {id : Nat} {cops : Array Oper} {ops : List AOper} {holds : List (Nat × List Nat)} {π : List Nat} {tab : List Nat} : P.follows .mixedOrders = true → cops.toList.map (resolveOper P N cops) = ops.map some → regB cops tab ops holds π = true → Fits P N (.region id cops true) (.region ops π holds)
  | seq {a b : Code} {x y : ACode} : Fits P N a x → Fits P N b y → Fits P N (.seq a b) (.seq x y)
  | cond {c : Operand} {c' : Opd} {a b : Code} {x y : ACode} {keep : List Nat} : opd c = some c' → Fits P N a x → Fits P N b y → Fits P N (.cond c a b) (.cond c' x y keep)
  | block {id : Nat} {a : Code} {x : ACode} : Fits P N a x → Fits P N (.block id a) (.block id x)
  | loop {a : Code} {x : ACode} {keep : List Nat} : Fits P N a x → Fits P N (.loop a) (.loop keep x)
  | exit {id : Nat} : Fits P N (.exit id) (.exit id)
  | ret : Fits P N .ret .ret
def AExit.toExit : AExit → Exit
  | .normal => .normal
  | .exit id => .exit id
  | .ret => .ret
theorem SRel.keep {N base : Nat} {w0 : World} {E : Env} {s : St} {a : Act} {w : World} (S : SRel N base w0 E s a w) (k : List Nat) : SRel N base w0 E (keepOnly k s) a w :=
  ⟨S.heap, fun n => by
    unfold keepOnly
    simp only []
    split
    · exact S.tmps n
    · trivial, S.size, S.defers⟩
/-- What an execution does to the heap's numbers. -/
def Mono (h h' : AH) : Prop := h.nx ≤ h'.nx ∧ ∀ id, id < h.nx → h.o id = none → h'.o id = none
theorem Mono.refl (h : AH) : Mono h h := ⟨Nat.le_refl _, fun _ _ h => h⟩
theorem Mono.trans {a b c : AH} (h : Mono a b) (k : Mono b c) : Mono a c := ⟨Nat.le_trans h.1 k.1, fun id hid h0 => k.2 id (by have := h.1; omega) (h.2 id hid h0)⟩
theorem runOps_mono {rec : Rec} (hrec : RecFresh rec) {ops : List AOper} {holds : List (Nat × List Nat)} {b0 : Nat} : ∀ (π : List Nat) (s s' : St), runOps rec ops holds b0 π s = some s' → s.h.nx ≤ s'.h.nx ∧ ∀ id, id < s.h.nx → id < b0 → s.h.o id = none → s'.h.o id = none
  | [], s, s', h => by simp only [runOps, Option.some.injEq] at h; subst h; exact ⟨Nat.le_refl _, fun _ _ _ h => h⟩
  | i :: π, s, s', h => by
    obtain ⟨o, s1, _, hs, _, hr⟩ := runOps_cons h
    obtain ⟨v, h', ev, es⟩ := ostep_parts hs
    have h1 := oval_fresh hrec ev
    have h2 := runOps_mono hrec π s1 s' hr
    have hh : s1.h = h' := by rw [es]; exact put_h _ _ _
    rw [hh] at h2
    exact ⟨by omega, fun id hid hb h0 => h2.2 id (by omega) hb (h1.2 id hid (by omega) h0)⟩
theorem rounds_mono {body : St → Option (AExit × St)} {keep : List Nat} (hb : ∀ s e s', body s = some (e, s') → Mono s.h s'.h) : ∀ (k : Nat) (s : St) (e : AExit) (s' : St), rounds body keep k s = some (e, s') → Mono s.h s'.h
  | 0, s, e, s', h => by simp [rounds] at h
  | k + 1, s, e, s', h => by
    simp only [rounds] at h
    obtain ⟨⟨e1, s1⟩, h1, h2⟩ := Option.bind_eq_some_iff.1 h
    have m1 := hb _ _ _ h1
    cases e1 with
    | normal => exact m1.trans (rounds_mono hb k (keepOnly keep s1) e s' h2)
    | exit id => simp only [Option.some.injEq, Prod.mk.injEq] at h2; obtain ⟨_, rfl⟩ := h2; exact m1
    | ret => simp only [Option.some.injEq, Prod.mk.injEq] at h2; obtain ⟨_, rfl⟩ := h2; exact m1
theorem exec_mono {rec : Rec} (hrec : RecFresh rec) {fuel : Nat} : ∀ (c : ACode) (s : St) (e : AExit) (s' : St), exec rec fuel c s = some (e, s') → Mono s.h s'.h
  | .skip, s, e, s', h => by simp only [exec, Option.some.injEq, Prod.mk.injEq] at h; obtain ⟨_, rfl⟩ := h; exact Mono.refl _
  | .region ops π holds, s, e, s', h => by
    simp only [exec] at h
    obtain ⟨s1, h1, h2⟩ := Option.map_eq_some_iff.1 h
    simp only [Prod.mk.injEq] at h2
    obtain ⟨_, rfl⟩ := h2
    have := runOps_mono hrec _ _ _ h1
    simp only [] at this
    exact ⟨by omega, fun id hid h0 => this.2 id (by omega) hid h0⟩
  | .seq a b, s, e, s', h => by
    simp only [exec] at h
    obtain ⟨⟨e1, s1⟩, h1, h2⟩ := Option.bind_eq_some_iff.1 h
    have m1 := exec_mono hrec a _ _ _ h1
    cases e1 with
    | normal => exact m1.trans (exec_mono hrec b _ _ _ h2)
    | exit id => simp only [Option.some.injEq, Prod.mk.injEq] at h2; obtain ⟨_, rfl⟩ := h2; exact m1
    | ret => simp only [Option.some.injEq, Prod.mk.injEq] at h2; obtain ⟨_, rfl⟩ := h2; exact m1
  | .cond c a b keep, s, e, s', h => by
    simp only [exec] at h
    split at h
    · rename_i q _
      obtain ⟨⟨e1, s1⟩, h1, h2⟩ := Option.map_eq_some_iff.1 h
      simp only [Prod.mk.injEq] at h2
      obtain ⟨_, rfl⟩ := h2
      cases q with
      | false =>
        simp only [Bool.false_eq_true, if_false] at h1
        exact exec_mono hrec b s e1 s1 h1
      | true =>
        simp only [if_true] at h1
        exact exec_mono hrec a s e1 s1 h1
    · cases h
  | .block id a, s, e, s', h => by
    simp only [exec] at h
    obtain ⟨⟨e1, s1⟩, h1, h2⟩ := Option.map_eq_some_iff.1 h
    simp only [Prod.mk.injEq] at h2
    obtain ⟨_, rfl⟩ := h2
    exact exec_mono hrec a _ _ _ h1
  | .loop keep a, s, e, s', h => by
    simp only [exec] at h
    exact rounds_mono (fun s e s' h => exec_mono hrec a s e s' h) fuel (keepOnly keep s) e s' h
  | .exit id, s, e, s', h => by simp only [exec, Option.some.injEq, Prod.mk.injEq] at h; obtain ⟨_, rfl⟩ := h; exact Mono.refl _
  | .ret, s, e, s', h => by simp only [exec, Option.some.injEq, Prod.mk.injEq] at h; obtain ⟨_, rfl⟩ := h; exact Mono.refl _
section
variable {P : Program} {N base : Nat} {w0 : World} {rec : Rec} {fuel : Nat}
theorem region_pre {E : Env} {s : St} {a : Act} {w : World} (S : SRel N base w0 E s a w) (n : Nat) : SRel N base w0 E ({ s with h := { s.h with nx := s.h.nx + n } } : St) a w :=
  ⟨⟨S.heap.below, S.heap.size, S.heap.obj, fun j hj => S.heap.nx j (by have : s.h.nx + n ≤ j := hj; omega), S.heap.fam, S.heap.maps, S.heap.ord, S.heap.solo⟩, S.tmps, S.size, S.defers⟩
theorem SRel.drawn {E : Env} {s : St} {a : Act} {w : World} (S : SRel N base w0 E s a w) (n : Nat) : SRel N base w0 E s a { w with drawn := n } := ⟨S.heap.drawn n, S.tmps, S.size, S.defers⟩
theorem exec_sound (hrec : RecOk P rec) : ∀ {c : Code} {ac : ACode}, Fits P N c ac → ∀ (E : Env) (s s' : St) (a : Act) (w : World) (e : AExit), exec rec fuel ac s = some (e, s') → (∀ j, s.h.nx ≤ j → s.h.o j = none) → SRel N base w0 E s a w →
    ∀ (Q : Exit → Act → World → Prop), (∀ E' a' w', E.le E' → (∀ i, i < s.h.nx → E' i = E i) → SRel N base w0 E' s' a' w' → (∀ j, s'.h.nx ≤ j → s'.h.o j = none) → Q e.toExit a' w') → c.wp P Q a w := by
  have none_of : ∀ {E : Env} {s : St} {a : Act} {w : World}, SRel N base w0 E s a w → ∀ j, s.h.nx ≤ j → s.h.o j = none := by
    intro E s a w S j hj
    cases ho : s.h.o j with
    | none => rfl
    | some o =>
      obtain ⟨p, hp⟩ := (S.heap.obj j o ho).env
      rw [S.heap.nx j hj] at hp; cases hp
  intro c ac hf
  induction hf with
  | skip =>
    intro E s s' a w e h _ S Q hQ
    simp only [exec, Option.some.injEq, Prod.mk.injEq] at h
    obtain ⟨rfl, rfl⟩ := h
    exact wp_skip (hQ E a w (Env.le_refl E) (fun _ _ => rfl) S (none_of S))
  | @text id cops ops holds hops =>
    intro E s s' a w e h _ S Q hQ
    simp only [exec] at h
    obtain ⟨s1, h1, h2⟩ := Option.map_eq_some_iff.1 h
    simp only [Prod.mk.injEq] at h2
    obtain ⟨rfl, rfl⟩ := h2
    have hlen : cops.size = ops.length := by have := congrArg List.length hops; simpa using this
    refine wp_region (text_order hrec hops (List.range cops.size) E _ _ a w List.nodup_range (fun k hk => ?_) (region_pre S _) h1 (fun E' a' w' hE hlow S' => hQ E' a' w' hE hlow S' (none_of S')))
    have := List.mem_range.1 hk
    exact ⟨none_of S _ (by omega), by show s.h.nx + k < s.h.nx + ops.length; omega, S.heap.nx _ (by omega)⟩
  | @draw id cops ops holds π tab hm hops hreg =>
    intro E s s' a w e h _ S Q hQ
    simp only [exec] at h
    obtain ⟨s1, h1, h2⟩ := Option.map_eq_some_iff.1 h
    simp only [Prod.mk.injEq] at h2
    obtain ⟨rfl, rfl⟩ := h2
    have hlen : cops.size = ops.length := by have := congrArg List.length hops; simpa using this
    obtain ⟨hok, hπl, hπlt, hπall, hdl⟩ := regB_ok hreg
    refine wp_region_any hm ?_
    refine any_order (base := base) (w0 := w0) hrec hops cops.size π (Array.replicate cops.size false) E _ _ a { w with drawn := w.drawn + 1 } hπl hok (fun k hk => ?_) (fun i hi => ?_) hπlt (by simp) (fun y hy hly => ?_) hdl ((region_pre S _).drawn _) h1 (fun E' a' w' hE hlow S' => hQ E' a' w' hE hlow S' (none_of S'))
    · have := hπlt k hk
      exact ⟨none_of S _ (by omega), by show s.h.nx + k < s.h.nx + ops.length; omega, S.heap.nx _ (by omega)⟩
    · constructor
      · intro _; exact hπall i hi
      · intro _; simp [hi]
    · simp [hy] at hly
  | seq ha hb iha ihb =>
    intro E s s' a w e h hn S Q hQ
    simp only [exec] at h
    obtain ⟨⟨e1, s1⟩, h1, h2⟩ := Option.bind_eq_some_iff.1 h
    have m1 := exec_mono hrec.fresh _ _ _ _ h1
    refine wp_seq (iha E s s1 a w e1 h1 hn S _ fun E' a' w' hE hlow S' hn' => ?_)
    cases e1 with
    | normal => exact ihb E' s1 s' a' w' e h2 hn' S' Q fun E'' a'' w'' hE' hlow' S'' hn'' => hQ E'' a'' w'' (Env.le_trans hE hE') (fun i hi => by rw [hlow' i (by have := m1.1; omega)]; exact hlow i hi) S'' hn''
    | exit id => simp only [Option.some.injEq, Prod.mk.injEq] at h2; obtain ⟨rfl, rfl⟩ := h2; exact hQ E' a' w' hE hlow S' hn'
    | ret => simp only [Option.some.injEq, Prod.mk.injEq] at h2; obtain ⟨rfl, rfl⟩ := h2; exact hQ E' a' w' hE hlow S' hn'
  | cond hc ha hb iha ihb =>
    intro E s s' a w e h hn S Q hQ
    simp only [exec] at h
    split at h
    · rename_i q hq
      obtain ⟨⟨e1, s1⟩, h1, h2⟩ := Option.map_eq_some_iff.1 h
      simp only [Prod.mk.injEq] at h2
      obtain ⟨rfl, rfl⟩ := h2
      have hb := opd_bool S.tmps hc hq
      refine wp_cond hb ?_
      cases q with
      | true =>
        simp only [if_true] at h1 ⊢
        exact iha E s s1 a w e1 h1 hn S Q fun E' a' w' hE hlow S' hn' => hQ E' a' w' hE hlow (S'.keep _) hn'
      | false =>
        simp only [Bool.false_eq_true, if_false] at h1 ⊢
        exact ihb E s s1 a w e1 h1 hn S Q fun E' a' w' hE hlow S' hn' => hQ E' a' w' hE hlow (S'.keep _) hn'
    · cases h
  | @block id _ _ ha iha =>
    intro E s s' a w e h hn S Q hQ
    simp only [exec] at h
    obtain ⟨⟨e1, s1⟩, h1, h2⟩ := Option.map_eq_some_iff.1 h
    simp only [Prod.mk.injEq] at h2
    obtain ⟨rfl, rfl⟩ := h2
    refine wp_block (iha E s s1 a w e1 h1 hn S _ fun E' a' w' hE hlow S' hn' => ?_)
    have := hQ E' a' w' hE hlow S' hn'
    cases e1 with
    | normal => exact this
    | exit id' =>
      by_cases hid : id' = id
      · subst hid
        rw [if_pos rfl] at this
        simp only [AExit.toExit, Exit.inBlock, if_true]
        exact this
      · rw [if_neg (by intro q; cases q; exact hid rfl)] at this
        simp only [AExit.toExit, Exit.inBlock, if_neg hid]
        exact this
    | ret => exact this
  | @loop c x keep ha iha =>
    intro E s s' a w e h hn S Q hQ
    simp only [exec] at h
    refine wp_loop_rounds fuel ?_
    have key : ∀ (k : Nat) (E : Env) (s : St) (a : Act) (w : World), rounds (exec rec fuel x) keep k s = some (e, s') → (∀ j, s.h.nx ≤ j → s.h.o j = none) → SRel N base w0 E s a w →
        (∀ E' a' w', E.le E' → (∀ i, i < s.h.nx → E' i = E i) → SRel N base w0 E' s' a' w' → (∀ j, s'.h.nx ≤ j → s'.h.o j = none) → Q e.toExit a' w') → Code.rounds P c Q k a w := by
      intro k
      induction k with
      | zero => intro E s a w h; simp [rounds] at h
      | succ k ih =>
        intro E s a w h hn S hQ
        simp only [rounds] at h
        obtain ⟨⟨e1, s1⟩, h1, h2⟩ := Option.bind_eq_some_iff.1 h
        have m1 := exec_mono hrec.fresh _ _ _ _ h1
        rw [rounds_succ]
        refine iha E s s1 a w e1 h1 hn S _ fun E' a' w' hE hlow S' hn' => ?_
        cases e1 with
        | normal => exact ih E' (keepOnly keep s1) a' w' h2 hn' (S'.keep _) fun E'' a'' w'' hE' hlow' S'' hn'' => hQ E'' a'' w'' (Env.le_trans hE hE') (fun i hi => by rw [hlow' i (by have : s1.h.nx = (keepOnly keep s1).h.nx := rfl; have := m1.1; omega)]; exact hlow i hi) S'' hn''
        | exit id => simp only [Option.some.injEq, Prod.mk.injEq] at h2; obtain ⟨rfl, rfl⟩ := h2; exact hQ E' a' w' hE hlow S' hn'
        | ret => simp only [Option.some.injEq, Prod.mk.injEq] at h2; obtain ⟨rfl, rfl⟩ := h2; exact hQ E' a' w' hE hlow S' hn'
    exact key fuel E (keepOnly keep s) a w h hn (S.keep _) hQ
  | exit =>
    intro E s s' a w e h _ S Q hQ
    simp only [exec, Option.some.injEq, Prod.mk.injEq] at h
    obtain ⟨rfl, rfl⟩ := h
    exact wp_exit (hQ E a w (Env.le_refl E) (fun _ _ => rfl) S (none_of S))
  | ret =>
    intro E s s' a w e h _ S Q hQ
    simp only [exec, Option.some.injEq, Prod.mk.injEq] at h
    obtain ⟨rfl, rfl⟩ := h
    exact wp_ret (hQ E a w (Env.le_refl E) (fun _ _ => rfl) S (none_of S))
end
/-! ### Calls -/
def resP : List ResultVar → Option (List Nat)
  | [] => some []
  | .tmp t :: rest => (resP rest).map fun l => t :: l
  | .cell _ _ :: _ => none
/-- A function of the program, told. -/
def resQ (P : Program) : List ResultVar → Option (List Nat × Option (Option Nat))
  | [.cell a t] => (widthP P t).map fun n => ([a], some n)
  | l => (resP l).map fun rs => (rs, none)
structure FuncOk (P : Program) (f : Nat) (fn : AFunc) : Prop where
  mk ::
  func : ∃ g c, P.funcs[f]? = some g ∧ g.body = some c ∧ (g.name == "runtime.NumGoroutine") = false ∧ resQ P g.results.toList = some (fn.res, fn.cell) ∧ fn.np ≤ g.ntmps ∧ Fits P g.ntmps c fn.body
theorem results_rel {g : Func} {E : Env} {ρ : Nat → T} {a : Act} (hT : TRel E ρ a) {rs : List Nat} (hr : resP g.results.toList = some rs) {x : T} (hx : resv ρ rs = some x) (P : Program) (w : World) : ∃ v, (results g a.tmps).run P w = .ok v w ∧ trel E x v := by
  have key : ∀ (F : ResultVar → Sem Value), (∀ t, F (.tmp t) = pure (a.tmps.getD t undef)) → ∀ (l : List ResultVar) (rs : List Nat), resP l = some rs → ∃ vs : List Value, (l.mapM F).run P w = .ok vs w ∧ lrel (trel E) (rs.map ρ) vs ∧ vs = rs.map fun t => a.tmps.getD t undef := by
    intro F hF l
    induction l with
    | nil => intro rs h; simp only [resP, Option.some.injEq] at h; subst h; exact ⟨[], by simp, lrel.nil, rfl⟩
    | cons r l ih =>
      intro rs h
      cases r with
      | cell ad t => simp [resP] at h
      | tmp t =>
        simp only [resP] at h
        obtain ⟨rs', h1, rfl⟩ := Option.map_eq_some_iff.1 h
        obtain ⟨vs, h2, h3, h4⟩ := ih rs' h1
        refine ⟨a.tmps.getD t undef :: vs, ?_, lrel.cons (hT t) h3, by rw [h4]; rfl⟩
        rw [List.mapM_cons, hF]
        simp only [Sem.run_bind, Sem.run_pure, Result.andThen_ok]
        rw [h2]
        simp only [Result.andThen_ok]
  obtain ⟨vs, h2, hvs⟩ : ∃ vs : List Value, lrel (trel E) (rs.map ρ) vs ∧ vs = rs.map fun t => a.tmps.getD t undef := by
    obtain ⟨vs, _, h2, h3⟩ := key (fun r => match r with | .tmp t => pure (a.tmps.getD t undef) | .cell _ _ => pure undef) (fun t => rfl) g.results.toList rs hr
    exact ⟨vs, h2, h3⟩
  have hm : ∀ F : ResultVar → Sem Value, (∀ t, F (.tmp t) = pure (a.tmps.getD t undef)) → (g.results.mapM F).run P w = .ok vs.toArray w := by
    intro F hF
    obtain ⟨vs', h1, _, h3⟩ := key F hF g.results.toList rs hr
    rw [Array.mapM_eq_mapM_toList]
    simp only [Sem.run_map]
    rw [h1, h3, ← hvs]
    rfl
  have hrun : (results g a.tmps).run P w = .ok (if h : vs.toArray.size = 1 then vs.toArray[0] else .tuple vs.toArray) w := by
    unfold results
    simp only [Sem.run_bind]
    rw [hm _ (fun t => rfl)]
    rfl
  refine ⟨_, hrun, ?_⟩
  match rs, vs, h2, hx with
  | [r], vs, h2, hx =>
    simp only [resv, Option.some.injEq] at hx
    subst hx
    obtain ⟨v, vs', rfl, h3, h4⟩ := h2.uncons
    have : vs' = [] := List.eq_nil_of_length_eq_zero (by rw [← h4.1]; rfl)
    subst this
    exact h3
  | [], vs, h2, hx =>
    have : vs = [] := List.eq_nil_of_length_eq_zero (by rw [← h2.1]; rfl)
    subst this
    simp [resv] at hx
    subst hx
    exact ⟨#[], rfl, lrel.nil⟩
  | r1 :: r2 :: rs, vs, h2, hx =>
    have hsz : ¬ vs.toArray.size = 1 := by
      have := h2.1
      simp at this ⊢
      omega
    rw [dif_neg hsz]
    simp only [resv] at hx
    obtain ⟨xs, hxs, rfl⟩ := Option.map_eq_some_iff.1 hx
    refine ⟨vs.toArray, rfl, ?_⟩
    have key2 : ∀ (rs : List Nat) (xs : List AV) (vs : List Value), (rs.mapM fun r => av? (ρ r)) = some xs → lrel (trel E) (rs.map ρ) vs → lrel (avrel E) xs vs := by
      intro rs
      induction rs with
      | nil => intro xs vs h hl; simp at h; subst h; have : vs = [] := List.eq_nil_of_length_eq_zero (by rw [← hl.1]; rfl)
               subst this; exact lrel.nil
      | cons r rs ih =>
        intro xs vs h hl
        rw [List.mapM_cons] at h
        obtain ⟨y, hy, h⟩ := Option.bind_eq_some_iff.1 h
        obtain ⟨ys, hys, h⟩ := Option.bind_eq_some_iff.1 h
        simp at h
        subst h
        obtain ⟨v, vs', rfl, h3, h4⟩ := hl.uncons
        refine lrel.cons ?_ (ih ys vs' hys h4)
        unfold av? at hy
        split at hy
        · rename_i x hx
          simp only [Option.some.injEq] at hy
          subst hy
          rw [hx] at h3
          exact h3
        · cases hy
    exact key2 _ _ _ hxs h2
theorem results_rel2 {g : Func} {E : Env} {s : St} {a : Act} {base : Nat} {w0 w : World} (H : HRel base w0 E s.h w) (hT : TRel E s.t a) {P : Program} {rs : List Nat} {c : Option (Option Nat)} (hr : resQ P g.results.toList = some (rs, c)) {x : T} (hx : resc s c rs = some x) : ∃ v, (results g a.tmps).run P w = .ok v w ∧ trel E x v := by
  unfold resQ at hr
  split at hr
  · rename_i ad t hl
    obtain ⟨n, hn, hr⟩ := Option.map_eq_some_iff.1 hr
    simp only [Prod.mk.injEq] at hr
    obtain ⟨rfl, rfl⟩ := hr
    simp only [resc] at hx
    split at hx
    · rename_i j off hj
      obtain ⟨q, hq, rfl⟩ := Option.map_eq_some_iff.1 hx
      have hv := hT ad
      rw [hj] at hv
      obtain ⟨p, hp, e⟩ := hv
      obtain ⟨v, hv, hr⟩ := run_ld (P := P) H hn hq hp
      refine ⟨v, ?_, hr⟩
      have e1 : g.results = #[.cell ad t] := by
        cases hg : g.results with
        | mk l => rw [hg] at hl; simp at hl; rw [hl]
      unfold results
      rw [e1, Array.mapM_eq_mapM_toList]
      have e2 : a.tmps[ad]?.getD undef = Value.pointer (some (p.1.add off)) := by rw [← Array.getD_eq_getD_getElem?]; exact e
      simp [e2, hv, asAddr]
    · cases hx
  · obtain ⟨rs', h1, h2⟩ := Option.map_eq_some_iff.1 hr
    simp only [Prod.mk.injEq] at h2
    obtain ⟨rfl, rfl⟩ := h2
    exact results_rel hT h1 hx P w
theorem acall_ok {P : Program} {fs : Nat → Option AFunc} (hfs : ∀ f fn, fs f = some fn → FuncOk P f fn) {out : Rec} (hout : RecOk P out) : ∀ k, RecOk P (acall fs out k)
  | 0 => ⟨fun _ _ _ _ _ h => by simp [acall] at h, fun _ _ _ _ h => by simp [acall] at h, fun _ _ _ _ _ h => by simp [acall] at h⟩
  | k + 1 => by
    have ih := acall_ok hfs hout k
    have open_ : ∀ f args h r h', acall fs out (k + 1) f args h = some (r, h') → (∃ fn e s, fs f = some fn ∧ args.length = fn.np ∧ exec (acall fs out k) k fn.body { t := tmps0 args, h := h } = some (e, s) ∧ (e = .normal ∨ e = .ret) ∧ resc s fn.cell fn.res = some r ∧ s.h = h') ∨ out f args h = some (r, h') := by
      intro f args h r h' hc
      simp only [acall] at hc
      split at hc
      · rename_i fn hfn
        split at hc
        · rename_i hlen
          obtain ⟨⟨e, s⟩, he, hc⟩ := Option.bind_eq_some_iff.1 hc
          simp only [] at hc
          split at hc
          · rename_i hee
            obtain ⟨x, hx, hc⟩ := Option.map_eq_some_iff.1 hc
            simp only [Prod.mk.injEq] at hc
            obtain ⟨rfl, rfl⟩ := hc
            exact .inl ⟨fn, e, s, hfn, hlen, he, hee, hx, rfl⟩
          · cases hc
        · cases hc
      · exact .inr hc
    refine ⟨fun f args h r h' hc => ?_, fun f args h x hc vs w => ?_, fun f args h r h' hc base w0 E w vs H hrel => ?_⟩
    · rcases open_ f args h r h' hc with ⟨fn, e, s, hfn, hlen, he, hee, hx, rfl⟩ | hc
      case inr => exact hout.fresh f args h r h' hc
      have := exec_mono ih.fresh _ _ _ _ he
      exact this
    · obtain ⟨r, h'⟩ := x
      rcases open_ f args h r h' hc with ⟨fn, e, s, hfn, _⟩ | hc
      case inr => exact hout.enters f args h _ hc vs w
      obtain ⟨g, c, hg, hb, hname, _⟩ := (hfs f fn hfn).func
      have hne : ¬ g.name = "runtime.NumGoroutine" := by simpa using hname
      simp [callFunc, hg, hne, hb]
    · rcases open_ f args h r h' hc with ⟨fn, e, s, hfn, hlen, he, hee, hx, rfl⟩ | hc
      case inr => exact hout.calls f args h r h' hc base w0 E w vs H hrel
      obtain ⟨g, c, hg, hb, hname, hres, hnp, hfit⟩ := (hfs f fn hfn).func
      refine calls_of_wp hg hb ?_
      have hvs : vs.size = args.length := by rw [hrel.1]; simp
      have S : SRel g.ntmps base w0 E { t := tmps0 args, h := h } { tmps := vs ++ Array.replicate (g.ntmps - vs.size) undef, defers := [] } w := by
        refine ⟨H, fun n => ?_, by simp; omega, rfl⟩
        show trel E ((args[n]?).getD (.tup [])) _
        cases hn : args[n]? with
        | some x =>
          rw [Option.getD_some]
          obtain ⟨v, hv, hr⟩ := hrel.get hn
          rw [Array.getElem?_toList] at hv
          have : (vs ++ Array.replicate (g.ntmps - vs.size) undef).getD n undef = v := by
            rw [Array.getD_eq_getD_getElem?, Array.getElem?_append_left (Array.getElem?_eq_some_iff.1 hv).1, hv]
            rfl
          rw [this]; exact hr
        | none =>
          rw [Option.getD_none]
          have hge : vs.size ≤ n := by rw [hvs]; exact List.getElem?_eq_none_iff.1 hn
          have : (vs ++ Array.replicate (g.ntmps - vs.size) undef).getD n undef = undef := by
            rw [Array.getD_eq_getD_getElem?, Array.getElem?_append_right hge, Array.getElem?_replicate]
            split <;> rfl
          rw [this]
          exact ⟨#[], rfl, lrel.nil⟩
      have hn0 : ∀ j, h.nx ≤ j → h.o j = none := by
        intro j hj
        cases ho : h.o j with
        | none => rfl
        | some o =>
          obtain ⟨p, hp⟩ := (H.obj j o ho).env
          rw [H.nx j hj] at hp; cases hp
      refine exec_sound ih hfit E _ s _ w e he hn0 S _ fun E' a' w' hE hlow S' hn' => ?_
      obtain ⟨v, hv, hr⟩ := results_rel2 S'.heap S'.tmps hres hx
      rcases hee with rfl | rfl
      · exact ⟨S'.defers, v, hv, v, E', rfl, hE, hlow, S'.heap, hr⟩
      · exact ⟨S'.defers, v, hv, v, E', rfl, hE, hlow, S'.heap, hr⟩

theorem nothing_ok {P : Program} : RecOk P nothing := ⟨fun _ _ _ _ _ h => (by cases h), fun _ _ _ _ h => (by cases h), fun _ _ _ _ _ h => (by cases h)⟩
theorem hrel_below {base : Nat} {w0 w w' : World} {E : Env} {h : AH} (H : HRel base w0 E h w) (B : Below w.heap.size w w') : HRel base w0 E h w' := by
  refine ⟨H.below.trans (B.mono H.size), Nat.le_trans H.size B.size, fun j o ho => ?_, H.nx, H.fam, H.maps, H.ord, H.solo⟩
  have h0 := H.obj j o ho
  refine h0.mono (Env.le_refl E) (fun p hp => .inr (B.block _ ?_)) (B.mono H.size)
  have hlt : ∀ (b : Nat) ob, w.heap[b]? = some ob → b < w.heap.size := fun b ob hb => (Array.getElem?_eq_some_iff.1 hb).1
  cases o with
  | cells f ro ety esz cs =>
    cases ro with
    | true =>
      obtain ⟨q, hq, h1, _⟩ := h0
      rw [hp] at hq; cases hq
      have := H.size
      omega
    | false =>
      obtain ⟨q, b, cur, hq, h1, _, h2, _⟩ := h0
      rw [hp] at hq; cases hq
      rw [h1]
      exact hlt _ _ h2
  | map k kvs =>
    obtain ⟨q, b, es, clk, hq, h1, _, h2, _⟩ := h0
    rw [hp] at hq; cases hq
    rw [h1]
    exact hlt _ _ h2

end Go.Am
