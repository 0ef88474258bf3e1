/- Words of this session: a region that draws, whose operations may write, by an invariant of what was listed. No condition. -/
import Derived.Test.YtbcgihkmgmbomaaK
namespace Go.Proofs.Ytbcgihkmgmbomaa.K
open Go.RowKit Go.Proofs.YtbcgihkmgmbomaaW.PrintWords Go.Proofs.YtbcgihkmgmbomaaW.PrintLast Go.Proofs.YtbcgihkmgmbomaaW.PrintMore
set_option linter.unusedVariables false
set_option linter.unusedSimpArgs false

/-- The closed look at a region: each operation writes a slot of its own or none, and waits for earlier ones alone. -/
def regOkN (l : List Oper) (size : Nat) : Bool :=
  (l.all fun o => match o.dst with | some d => decide (d < size) | none => true) &&
  decide ((l.filterMap (·.dst)).Nodup) &&
  ((List.range l.length).all fun i => (l[i]?).all fun o => o.after.all fun e => decide (e.on < i))
/-- One more is listed. -/
def setL (L : Nat → Bool) (i : Nat) : Nat → Bool := fun j => if j = i then true else L j
theorem setL_ne {L : Nat → Bool} {i j : Nat} (h : j ≠ i) : setL L i j = L j := by simp [setL, h]
theorem setL_self {L : Nat → Bool} {i : Nat} : setL L i i = true := by simp [setL]

section
variable {P : Program} {a : Act} {Q : Exit → Act → World → Prop} {W : World} {l : List Oper} {V : Nat → Value → Prop} {I : (Nat → Bool) → World → Prop}
structure ActSt (l : List Oper) (V : Nat → Value → Prop) (a : Act) (X : Nat → Prop) (a' : Act) : Prop where
  defers : a'.defers = a.defers
  size : a'.tmps.size = a.tmps.size
  old : ∀ t, (∀ (j : Nat) (o : Oper), l[j]? = some o → o.dst ≠ some t) → a'.tmps.getD t undef = a.tmps.getD t undef
  val : ∀ (j : Nat) (o : Oper) (d : Tmp), l[j]? = some o → X j → o.dst = some d → V j (a'.tmps.getD d undef)
def OpInv (P : Program) (l : List Oper) (V : Nat → Value → Prop) (I : (Nat → Bool) → World → Prop) (i : Nat) (o : Oper) (L : Nat → Bool) (a' : Act) (w' : World) : Prop :=
  if Region.wanted o (yielded l.toArray a'.tmps) = true then ∀ K Q', (∀ v w'', V i v → I (setL L i) w'' → K (a'.put o.dst v) w'') → o.wp P a' w' K Q' else o.dst ≠ none → V i undef ∧ I (setL L i) w'
theorem nodup_at : ∀ (l : List Oper), (l.filterMap (·.dst)).Nodup → ∀ (i j : Nat) (o p : Oper) (d : Tmp), l[i]? = some o → l[j]? = some p → o.dst = some d → p.dst = some d → i = j := by
  intro l
  induction l with
  | nil => intro _ i j o p d hi; simp at hi
  | cons x l ih =>
    intro hn i j o p d hi hj ho hp
    have hmem : ∀ (j : Nat) (p : Oper), l[j]? = some p → p.dst = some d → d ∈ l.filterMap (·.dst) := fun j p h1 h2 => List.mem_filterMap.2 ⟨p, List.mem_of_getElem? h1, h2⟩
    cases i with
    | zero =>
      cases j with
      | zero => rfl
      | succ j =>
        exfalso
        simp at hi hj
        subst hi
        rw [List.filterMap_cons_some (by exact ho)] at hn
        exact (List.nodup_cons.1 hn).1 (hmem j p hj hp)
    | succ i =>
      cases j with
      | zero =>
        exfalso
        simp at hi hj
        subst hj
        rw [List.filterMap_cons_some (by exact hp)] at hn
        exact (List.nodup_cons.1 hn).1 (hmem i o hi ho)
      | succ j =>
        simp at hi hj
        have hn' : (l.filterMap (·.dst)).Nodup := by
          cases hx : x.dst with
          | none => rwa [List.filterMap_cons_none (by exact hx)] at hn
          | some e => rw [List.filterMap_cons_some (by exact hx)] at hn; exact (List.nodup_cons.1 hn).2
        rw [ih hn' i j o p d hi hj ho hp]

end

/-! A region that draws, of whose operations two may write. -/
section
variable {P : Program} {a : Act} {Q : Exit → Act → World → Prop} {W : World} {l : List Oper} {V : Nat → Value → World → Prop} {J : Bool → Bool → World → Prop} {e1 e2 i : Nat} {o : Oper} {a' : Act} {w' : World} {b1 b2 : Bool} {X : Nat → Prop}
/-- What is known of a frame and a world when some operations have come up. -/
structure St2 (l : List Oper) (V : Nat → Value → World → Prop) (a : Act) (X : Nat → Prop) (a' : Act) (w' : World) : Prop where
  defers : a'.defers = a.defers
  size : a'.tmps.size = a.tmps.size
  old : ∀ t, (∀ (j : Nat) (o : Oper), l[j]? = some o → o.dst ≠ some t) → a'.tmps.getD t undef = a.tmps.getD t undef
  val : ∀ (j : Nat) (o : Oper) (d : Tmp), l[j]? = some o → X j → o.dst = some d → V j (a'.tmps.getD d undef) w'
def upd (e i : Nat) (b : Bool) : Bool := if i = e then true else b
def OpI2 (P : Program) (l : List Oper) (V : Nat → Value → World → Prop) (J : Bool → Bool → World → Prop) (e1 e2 i : Nat) (o : Oper) (b1 b2 : Bool) (a' : Act) (w' : World) : Prop :=
  if Region.wanted o (yielded l.toArray a'.tmps) = true then ∀ K Q', (∀ v w'', (o.dst = none ∨ V i v w'') → (∀ j u, V j u w' → V j u w'') → J (upd e1 i b1) (upd e2 i b2) w'' → K (a'.put o.dst v) w'') → o.wp P a' w' K Q'
  else o.dst ≠ none → V i undef w' ∧ J (upd e1 i b1) (upd e2 i b2) w'
def Ops2 (P : Program) (l : List Oper) (V : Nat → Value → World → Prop) (J : Bool → Bool → World → Prop) (e1 e2 : Nat) (a : Act) : Nat → List Oper → Prop
  | _, [] => True
  | i, o :: r => (∀ b1 b2 a' w', St2 l V a (fun j => waits o j = true) a' w' → (e1 = i → b1 = false) → (e2 = i → b2 = false) → (waits o e1 = true → b1 = true) → (waits o e2 = true → b2 = true) → J b1 b2 w' → OpI2 P l V J e1 e2 i o b1 b2 a' w') ∧ Ops2 P l V J e1 e2 a (i + 1) r
theorem Ops2.at {i : Nat} {r : List Oper} (h : Ops2 P l V J e1 e2 a i r) : ∀ (j : Nat) (o : Oper), r[j]? = some o → ∀ b1 b2 a' w', St2 l V a (fun j => waits o j = true) a' w' → (e1 = i + j → b1 = false) → (e2 = i + j → b2 = false) → (waits o e1 = true → b1 = true) → (waits o e2 = true → b2 = true) → J b1 b2 w' → OpI2 P l V J e1 e2 (i + j) o b1 b2 a' w' := by
  induction r generalizing i with
  | nil => intro j o ho; simp at ho
  | cons p r ih =>
    intro j o ho
    cases j with
    | zero => simp at ho; subst ho; exact h.1
    | succ j => have := ih h.2 j o (by simpa using ho); rwa [show i + 1 + j = i + (j + 1) by omega] at this

theorem region_two {id : Nat} (e1 e2 : Nat) (V : Nat → Value → World → Prop) (J : Bool → Bool → World → Prop) (hm : P.follows .mixedOrders = true) (hok : regOkN l a.tmps.size = true)
    (hskip : (l.all fun o => !(o.dst == none) || (o.guard == none)) = true)
    (hV : ∀ i v w w', Below w.heap.size w w' → V i v w → V i v w')
    (hJ : ∀ b1 b2 w w', Below w.heap.size w w' → J b1 b2 w → J b1 b2 w')
    (h0 : J false false W) (hops : Ops2 P l V J e1 e2 a 0 l)
    (hk : ∀ a' w', St2 l V a (fun _ => True) a' w' → J (decide (e1 < l.length)) (decide (e2 < l.length)) w' → Q .normal a' w') :
    (Code.region id l.toArray true).wp P Q a W := by
  simp only [regOkN, Bool.and_eq_true, List.all_eq_true, decide_eq_true_eq, List.mem_range] at hok
  obtain ⟨⟨hdst, hnd⟩, hback⟩ := hok
  have hd : ∀ (j : Nat) (o : Oper) (d : Tmp), l[j]? = some o → o.dst = some d → d < a.tmps.size := by
    intro j o d ho hdo
    have := hdst o (List.mem_of_getElem? ho)
    simpa [hdo] using this
  have hne := nodup_at l hnd
  have hb : ∀ (i : Nat) (o : Oper), l[i]? = some o → ∀ e ∈ o.after, e.on < i := by
    intro i o hi e he
    have hil : i < l.length := (List.getElem?_eq_some_iff.1 hi).1
    have := hback i hil
    rw [hi] at this
    simp only [Option.all_some, Array.all_eq_true_iff_forall_mem, decide_eq_true_eq] at this
    exact this e he
  have all : ∀ listed : Array Bool, listed.size = l.length → Region.ready .any l.toArray listed = [] → ∀ i, i < l.length → listed.getD i false = true := by
    intro listed hsz hr i
    induction i using Nat.strongRecOn with
    | _ i ih =>
      intro hi
      cases hli : listed.getD i false with
      | true => rfl
      | false =>
        exfalso
        have ho : l[i]? = some l[i] := List.getElem?_eq_getElem hi
        have hmem : i ∈ Region.ready .any l.toArray listed := by
          rw [mem_ready]
          refine ⟨?_, l[i], by simp [hi], fun e he _ => ih e.on (hb i _ ho e he) (Nat.lt_trans (hb i _ ho e he) hi)⟩
          have : i < listed.size := by omega
          simp [Array.getD_eq_getD_getElem?, this] at hli ⊢
          exact hli
        rw [hr] at hmem
        exact absurd hmem (by simp)
  have key : ∀ (fuel : Nat) (listed : Array Bool) (a' : Act) (w' : World), listed.size = l.length → (List.range l.length).countP (fun i => !listed.getD i false) ≤ fuel →
      St2 l V a (fun j => listed.getD j false = true) a' w' → J (listed.getD e1 false) (listed.getD e2 false) w' → wpAny P .any l.toArray Q fuel listed a' w' := by
    intro fuel
    induction fuel with
    | zero =>
      intro listed a' w' hsz hc hst hI
      have hall : ∀ i, i < l.length → listed.getD i false = true := by
        intro i hi
        have h0 : (List.range l.length).countP (fun i => !listed.getD i false) = 0 := by omega
        rw [List.countP_eq_zero] at h0
        simpa using h0 i (by simpa using hi)
      have hend : ∀ e, listed.getD e false = decide (e < l.length) := by
        intro e
        by_cases he : e < l.length
        · rw [hall e he]; simp [he]
        · have : ¬ e < listed.size := by omega
          simp [Array.getD_eq_getD_getElem?, this, he]
      rw [hend, hend] at hI
      refine ⟨?_, hk a' w' ⟨hst.defers, hst.size, hst.old, fun j o d hj _ hdo => hst.val j o d hj (hall j (List.getElem?_eq_some_iff.1 hj).1) hdo⟩ hI⟩
      rw [List.eq_nil_iff_forall_not_mem]
      intro i hi
      rw [mem_ready] at hi
      obtain ⟨h0, o, ho, _⟩ := hi
      have hil : i < l.length := by simpa using (Array.getElem?_eq_some_iff.1 ho).1
      have h1 := hall i hil
      have : i < listed.size := by omega
      simp [Array.getD_eq_getD_getElem?, this] at h0 h1
      rw [h1] at h0
      cases h0
    | succ fuel ih =>
      intro listed a' w' hsz hc hst hI
      refine ⟨fun hr => ?_, fun i hi => ?_⟩
      · have hall := all listed hsz hr
        have hend : ∀ e, listed.getD e false = decide (e < l.length) := by
          intro e
          by_cases he : e < l.length
          · rw [hall e he]; simp [he]
          · have : ¬ e < listed.size := by omega
            simp [Array.getD_eq_getD_getElem?, this, he]
        rw [hend, hend] at hI
        exact hk a' w' ⟨hst.defers, hst.size, hst.old, fun j o d hj _ hdo => hst.val j o d hj (hall j (List.getElem?_eq_some_iff.1 hj).1) hdo⟩ hI
      · rw [mem_ready] at hi
        obtain ⟨h0, o, ho, hdep⟩ := hi
        have ho' : l[i]? = some o := by simpa using ho
        have hil : i < l.length := (List.getElem?_eq_some_iff.1 ho').1
        have hli : listed.getD i false = false := by
          have : i < listed.size := by omega
          simp [Array.getD_eq_getD_getElem?, this] at h0 ⊢
          exact h0
        have hset : ∀ e, (listed.setIfInBounds i true).getD e false = upd e i (listed.getD e false) := by
          intro e
          unfold upd
          by_cases hie : i = e
          · subst hie
            have : i < listed.size := by omega
            simp [this]
          · rw [if_neg hie, getD_set_ne false hie]
        have step : ∀ v w'', (o.dst = none ∨ V i v w'') → (∀ j u, V j u w' → V j u w'') → J (upd e1 i (listed.getD e1 false)) (upd e2 i (listed.getD e2 false)) w'' → wpAny P .any l.toArray Q fuel (listed.setIfInBounds i true) (a'.put o.dst v) w'' := by
          intro v w'' hv hkeep hI''
          refine ih _ _ _ (by simpa using hsz) ?_ ⟨?_, ?_, ?_, ?_⟩ (by rw [hset, hset]; exact hI'')
          · have hlt : (List.range l.length).countP (fun i_1 => !(listed.setIfInBounds i true).getD i_1 false) < (List.range l.length).countP (fun i => !listed.getD i false) := by
              have hsplit : List.range l.length = (List.range l.length).take i ++ i :: (List.range l.length).drop (i + 1) := by
                have h5 := List.drop_eq_getElem_cons (l := List.range l.length) (i := i) (by simpa using hil)
                rw [List.getElem_range] at h5
                rw [← h5, List.take_append_drop]
              rw [hsplit]
              simp only [List.countP_append, List.countP_cons]
              have h1 : ∀ L : List Nat, L.countP (fun i_1 => !(listed.setIfInBounds i true).getD i_1 false) ≤ L.countP (fun i => !listed.getD i false) := by
                intro L
                apply List.countP_mono_left
                intro x _ hx
                by_cases hxi : i = x
                · subst hxi; simp [hli]
                · rw [getD_set_ne false hxi] at hx; exact hx
              have h2 := h1 ((List.range l.length).take i)
              have h3 := h1 ((List.range l.length).drop (i + 1))
              have h4 : (listed.setIfInBounds i true).getD i false = true := by
                have : i < listed.size := by omega
                simp [this]
              rw [h4, hli]
              simp only [Bool.not_true, Bool.false_eq_true, if_false, Bool.not_false, if_true]
              omega
            omega
          · cases hdo : o.dst with
            | none => simpa [Act.put, hdo] using hst.defers
            | some d => simpa [Act.put, hdo] using hst.defers
          · cases hdo : o.dst with
            | none => simpa [Act.put, hdo] using hst.size
            | some d => simpa [Act.put, hdo] using hst.size
          · intro t ht
            cases hdo : o.dst with
            | none => simpa [Act.put, hdo] using hst.old t ht
            | some d =>
              rw [getD_put_ne _ _ _ _ (fun e => ht i o ho' (by rw [hdo, e]))]
              exact hst.old t ht
          · intro j p dj hj hlj hdj
            by_cases hij : i = j
            · subst hij
              rw [ho'] at hj
              cases hj
              rw [hdj]
              rw [getD_put_self _ _ _ (by rw [hst.size]; exact hd _ _ _ ho' hdj)]
              rcases hv with hv | hv
              · rw [hv] at hdj; cases hdj
              · exact hv
            · rw [getD_set_ne false hij] at hlj
              cases hdo : o.dst with
              | none => simpa [Act.put, hdo] using hkeep j _ (hst.val j p dj hj hlj hdj)
              | some d =>
                have hdd : d ≠ dj := fun e => hij (hne i j o p d ho' hj hdo (by rw [hdj, e]))
                rw [getD_put_ne _ _ _ _ hdd]
                exact hkeep j _ (hst.val j p dj hj hlj hdj)
        have hw8 : ∀ j, waits o j = true → listed.getD j false = true := fun j hwt => by obtain ⟨e, he, hej, heb⟩ := of_waits hwt; rw [← hej]; exact hdep e he heb
        have hop' := hops.at i o ho' (listed.getD e1 false) (listed.getD e2 false) a' w' ⟨hst.defers, hst.size, hst.old, fun j p dj hj hwt hdj => hst.val j p dj hj (hw8 j hwt) hdj⟩ (fun h => by rw [h, Nat.zero_add]; exact hli) (fun h => by rw [h, Nat.zero_add]; exact hli) (hw8 e1) (hw8 e2) hI
        rw [Nat.zero_add] at hop'
        unfold OpI2 at hop'
        unfold wpOp
        simp only [ho]
        by_cases hw : Region.wanted o (yielded l.toArray a'.tmps) = true
        · rw [if_pos hw] at hop' ⊢
          exact .inl (hop' _ _ (fun v w'' hv hkeep hI'' => step v w'' hv hkeep hI''))
        · rw [if_neg hw] at hop' ⊢
          have hdn : o.dst ≠ none := by
            intro hn
            apply hw
            have h1 := List.all_eq_true.1 hskip o (List.mem_of_getElem? ho')
            have : o.guard = none := by simpa [hn] using h1
            simp [Region.wanted, this]
          obtain ⟨hv, hI''⟩ := hop' hdn
          exact step _ _ (.inr hv) (fun _ _ h => h) hI''
  refine wp_region_any hm ?_
  refine key _ _ _ _ (by simp) (Nat.le_trans List.countP_le_length (by simp)) ⟨rfl, rfl, fun _ _ => rfl, fun j o d hj hlj _ => ?_⟩ ?_
  · exfalso
    simp only [Array.getD_eq_getD_getElem?, Array.getElem?_replicate] at hlj
    split at hlj <;> simp at hlj
  · have hrep : ∀ e, (Array.replicate l.toArray.size false).getD e false = false := by
      intro e
      simp only [Array.getD_eq_getD_getElem?, Array.getElem?_replicate]
      split <;> simp
    rw [hrep, hrep]
    exact hJ _ _ _ _ (below_drew (Below.refl _ _)) h0

theorem St2.slot (st : St2 l V a X a' w') (t : Tmp) (h : (l.all fun o => !(o.dst == some t)) = true) : a'.eval (.tmp t) = a.tmps.getD t undef :=
  st.old t (fun j p hj hd => by
    have := List.all_eq_true.1 h p (List.mem_of_getElem? hj)
    simp [hd] at this)
theorem St2.dep (st : St2 l V a (fun j => waits o j = true) a' w') (j : Nat) (p : Oper) (d : Tmp) (hj : l[j]? = some p) (hd : p.dst = some d) (hw : waits o j = true) : V j (a'.eval (.tmp d)) w' :=
  st.val j p d hj hw hd
theorem St2.yields (st : St2 l V a X a' w') (j : Nat) (p : Oper) (d : Tmp) (hj : l[j]? = some p) (hd : p.dst = some d) (hlt : d < a.tmps.size) (b : Bool) (hv : a'.eval (.tmp d) = .bool b) : yielded l.toArray a'.tmps j = some b := by
  have hl : d < a'.tmps.size := by rw [st.size]; exact hlt
  have hv' : a'.tmps.getD d undef = .bool b := hv
  simp only [Array.getD_eq_getD_getElem?, Array.getElem?_eq_getElem hl, Option.getD_some] at hv'
  simp [yielded, hj, hd, Array.getElem?_eq_getElem hl, hv']
theorem upd_ne {e i : Nat} {b : Bool} (h : i ≠ e) : upd e i b = b := if_neg h
theorem upd_self {i : Nat} {b : Bool} : upd i i b = true := if_pos rfl
/-- An operation that leaves the world. -/
theorem op2_yield (c : Value) (hw : Region.wanted o (yielded l.toArray a'.tmps) = true) (hrun : (execOp a'.eval o).run P w' = .ok (.value c) w') (hc : V i c w') (h1 : i ≠ e1) (h2 : i ≠ e2) (hJ : J b1 b2 w') : OpI2 P l V J e1 e2 i o b1 b2 a' w' := by
  unfold OpI2
  rw [if_pos hw, upd_ne h1, upd_ne h2]
  intro K Q' hK
  unfold Oper.wp
  rw [hrun]
  exact hK _ _ (.inr hc) (fun _ _ h => h) hJ
theorem op2_skip (hw : Region.wanted o (yielded l.toArray a'.tmps) = false) (hc : V i undef w') (h1 : i ≠ e1) (h2 : i ≠ e2) (hJ : J b1 b2 w') : OpI2 P l V J e1 e2 i o b1 b2 a' w' := by
  unfold OpI2
  rw [if_neg (by simp [hw]), upd_ne h1, upd_ne h2]
  exact fun _ => ⟨hc, hJ⟩
/-- A call. -/
theorem op2_go {f : FuncId} {fn : Func} {ars : Array Operand} {ts : Array TypeId} (hf : P.funcs[f]? = some fn) (hname : (fn.name == "runtime.NumGoroutine") = false) (hb : fn.body.isSome = true) (args : Array Value)
    (hw : Region.wanted o (yielded l.toArray a'.tmps) = true) (hop : o.op = .call { callee := .value (.func f), args := ars, argTypes := ts }) (hargs : ars.map a'.eval = args)
    (hc : Calls P f args w' fun e w'' => ∃ v, e = .returned v ∧ (∀ j u, V j u w' → V j u w'') ∧ (o.dst = none ∨ V i v w'') ∧ J (upd e1 i b1) (upd e2 i b2) w'') : OpI2 P l V J e1 e2 i o b1 b2 a' w' := by
  have he := enters_ hf hname hb args w'
  have hrun : (execOp a'.eval o).run P w' = .ok (.enter f args) w' := by
    unfold execOp
    simp [hop, resolve, Deferred.ofValue, invoke, Act.eval, hargs, he]
  unfold OpI2
  rw [if_pos hw]
  intro K Q' hK
  unfold Oper.wp
  rw [hrun, Oper.upon_enter]
  refine hc.mono ?_
  rintro e w'' ⟨v, rfl, hkeep, hv, hJ⟩
  exact hK _ _ hv hkeep hJ
/-- A call that leaves what there was. -/
theorem op2_call {f : FuncId} {fn : Func} {ars : Array Operand} {ts : Array TypeId} (hf : P.funcs[f]? = some fn) (hname : (fn.name == "runtime.NumGoroutine") = false) (hb : fn.body.isSome = true) (args : Array Value)
    (hw : Region.wanted o (yielded l.toArray a'.tmps) = true) (hop : o.op = .call { callee := .value (.func f), args := ars, argTypes := ts }) (hargs : ars.map a'.eval = args)
    (hV : ∀ i v w w', Below w.heap.size w w' → V i v w → V i v w') (hJ : ∀ b1 b2 w w', Below w.heap.size w w' → J b1 b2 w → J b1 b2 w') (h1 : i ≠ e1) (h2 : i ≠ e2) (hj : J b1 b2 w')
    (hc : Calls P f args w' fun e w'' => ∃ v, e = .returned v ∧ Below w'.heap.size w' w'' ∧ V i v w'') : OpI2 P l V J e1 e2 i o b1 b2 a' w' :=
  op2_go hf hname hb args hw hop hargs (hc.mono fun e w'' ⟨v, he, hb, hv⟩ => ⟨v, he, fun j u h => hV j u _ _ hb h, .inr hv, by rw [upd_ne h1, upd_ne h2]; exact hJ _ _ _ _ hb hj⟩)
/-- An operation that writes. -/
theorem op2_event (v : Value) (w1 : World) (hw : Region.wanted o (yielded l.toArray a'.tmps) = true) (hrun : (execOp a'.eval o).run P w' = .ok (.value v) w1) (hc : o.dst = none ∨ V i v w1) (hkeep : ∀ j u, V j u w' → V j u w1) (hJ : J (upd e1 i b1) (upd e2 i b2) w1) : OpI2 P l V J e1 e2 i o b1 b2 a' w' := by
  unfold OpI2
  rw [if_pos hw]
  intro K Q' hK
  unfold Oper.wp
  rw [hrun]
  exact hK _ _ hc hkeep hJ
end
/-- What a region's operations come to. -/
def VC (C : List Value) (i : Nat) (v : Value) (_ : World) : Prop := v = C.getD i undef
theorem VC_stable (C : List Value) (i : Nat) (v : Value) (w w' : World) (hb : Below w.heap.size w w') (h : VC C i v w) : VC C i v w' := h
theorem VC_keep {C : List Value} {w w' : World} : ∀ j u, VC C j u w → VC C j u w' := fun _ _ h => h
/-- The frame behind a region, of which each operation's value is known. -/
def putL (a : Act) : List Oper → List Value → Act
  | [], _ => a
  | o :: r, c => putL (a.put o.dst (c.headD undef)) r c.tail
theorem put_size (a : Act) (d : Option Tmp) (v : Value) : (a.put d v).tmps.size = a.tmps.size := by
  cases d <;> simp [Act.put]
theorem put_defers (a : Act) (d : Option Tmp) (v : Value) : (a.put d v).defers = a.defers := by
  cases d <;> simp [Act.put]
theorem putL_size : ∀ (l : List Oper) (a : Act) (c : List Value), (putL a l c).tmps.size = a.tmps.size := by
  intro l
  induction l with
  | nil => intro a c; rfl
  | cons o r ih => intro a c; rw [putL, ih, put_size]
theorem putL_defers : ∀ (l : List Oper) (a : Act) (c : List Value), (putL a l c).defers = a.defers := by
  intro l
  induction l with
  | nil => intro a c; rfl
  | cons o r ih => intro a c; rw [putL, ih, put_defers]
theorem put_old (a : Act) (d : Option Tmp) (v : Value) (t : Tmp) (h : d ≠ some t) : (a.put d v).tmps.getD t undef = a.tmps.getD t undef := by
  cases d with
  | none => simp [Act.put]
  | some e => exact getD_put_ne _ _ _ _ (fun he => h (by rw [he]))
theorem putL_old : ∀ (l : List Oper) (a : Act) (c : List Value) (t : Tmp), (∀ o ∈ l, o.dst ≠ some t) → (putL a l c).tmps.getD t undef = a.tmps.getD t undef := by
  intro l
  induction l with
  | nil => intro a c t _; rfl
  | cons o r ih =>
    intro a c t h
    rw [putL, ih _ _ _ (fun p hp => h p (by simp [hp])), put_old _ _ _ _ (h o (by simp))]
theorem putL_at : ∀ (l : List Oper) (a : Act) (c : List Value) (j : Nat) (o : Oper) (d : Tmp), (l.filterMap (·.dst)).Nodup → l[j]? = some o → o.dst = some d → d < a.tmps.size → (putL a l c).tmps.getD d undef = c.getD j undef := by
  intro l
  induction l with
  | nil => intro a c j o d _ h; simp at h
  | cons p r ih =>
    intro a c j o d hn hj ho hd
    rw [putL]
    cases j with
    | zero =>
      simp at hj
      subst hj
      rw [List.filterMap_cons_some (by exact ho)] at hn
      rw [putL_old]
      · rw [ho, getD_put_self _ _ _ hd]
        cases c <;> simp
      · intro q hq he
        exact (List.nodup_cons.1 hn).1 (List.mem_filterMap.2 ⟨q, hq, he⟩)
    | succ j =>
      simp at hj
      have hn' : (r.filterMap (·.dst)).Nodup := by
        cases hx : p.dst with
        | none => rwa [List.filterMap_cons_none (by exact hx)] at hn
        | some e => rw [List.filterMap_cons_some (by exact hx)] at hn; exact (List.nodup_cons.1 hn).2
      rw [ih _ _ j o d hn' hj ho (by rw [put_size]; exact hd)]
      cases c <;> simp
section
variable {P : Program} {a : Act} {Q : Exit → Act → World → Prop} {W : World} {l : List Oper}
theorem act_ext {a b : Act} (hs : a.tmps.size = b.tmps.size) (hd : a.defers = b.defers) (h : ∀ t, a.tmps.getD t undef = b.tmps.getD t undef) : a = b := by
  obtain ⟨ta, da⟩ := a
  obtain ⟨tb, db⟩ := b
  simp only at hs hd h
  subst hd
  congr 1
  apply Array.ext hs
  intro i h1 h2
  have := h i
  simpa [Array.getD_eq_getD_getElem?, h1, h2] using this
/-- As region_two, all values known: the frame behind it. -/
theorem region_known {id : Nat} (e1 e2 : Nat) (C : List Value) (J : Bool → Bool → World → Prop) (hm : P.follows .mixedOrders = true) (hok : regOkN l a.tmps.size = true)
    (hskip : (l.all fun o => !(o.dst == none) || (o.guard == none)) = true)
    (hJ : ∀ b1 b2 w w', Below w.heap.size w w' → J b1 b2 w → J b1 b2 w')
    (h0 : J false false W) (hops : Ops2 P l (VC C) J e1 e2 a 0 l)
    (hk : ∀ w', J (decide (e1 < l.length)) (decide (e2 < l.length)) w' → Q .normal (putL a l C) w') :
    (Code.region id l.toArray true).wp P Q a W := by
  refine region_two e1 e2 (VC C) J hm hok hskip (VC_stable C) hJ h0 hops (fun a' w' st hj => ?_)
  simp only [regOkN, Bool.and_eq_true, List.all_eq_true, decide_eq_true_eq] at hok
  obtain ⟨⟨hdst, hnd⟩, _⟩ := hok
  have : a' = putL a l C := by
    refine act_ext (by rw [st.size, putL_size]) (by rw [st.defers, putL_defers]) (fun t => ?_)
    by_cases ht : ∀ o ∈ l, o.dst ≠ some t
    · rw [putL_old _ _ _ _ ht]
      exact st.old t (fun j o ho => ht o (List.mem_of_getElem? ho))
    · have : ∃ o ∈ l, o.dst = some t := by
        apply Classical.byContradiction
        intro hne
        exact ht (fun o ho he => hne ⟨o, ho, he⟩)
      obtain ⟨o, ho, hd⟩ := this
      obtain ⟨j, hj⟩ := List.getElem?_of_mem ho
      have hlt : t < a.tmps.size := by have := hdst o ho; simpa [hd] using this
      rw [putL_at l a C j o t hnd hj hd hlt]
      exact st.val j o t hj trivial hd
  rw [this]
  exact hk w' hj
end
/-- What stands in a block but for one is as it was. -/
theorem keep_blk {w w' : World} {g g1 : Nat} {o : Obj} (h : w.heap[g]? = some o) (hk : KeepBut w w' g1 none) (hne : g ≠ g1) : w'.heap[g]? = some o := (hk.2 g (blk_lt h) hne (by simp)).trans h
theorem keep_step {w w1 w2 : World} {g : Nat} (h : KeepBut w w1 g none) (k : KeepBut w1 w2 g none) : KeepBut w w2 g none := h.trans k (.inl rfl)
theorem keep_below {w w1 w2 : World} {g : Nat} (h : KeepBut w w1 g none) (k : Below w1.heap.size w1 w2) : KeepBut w w2 g none := h.trans (KeepBut.of_below k g none) (.inl rfl)
/-- The cells of a block. -/
def Ob (w : World) (g : Nat) (t : TypeId) (l : List Value) : Prop := w.heap[g]? = some (.cells l.toArray t (0, 0))
section
variable {w w' : World} {g : Nat} {t : TypeId} {l : List Value} {S T : Nat → Prop}
theorem Ob.cell (h : Ob w g t l) (i : Nat) : w.cell? ⟨g, i, none⟩ = l[i]? := (blk_cell h i).trans (by simp)
theorem Ob.at_ (h : Ob w g t l) (i : Nat) {v : Value} (hv : l[i]? = some v) : w.cell? ⟨g, i, none⟩ = some v := (h.cell i).trans hv
theorem Ob.frozen (h : Ob w g t l) (i : Nat) : w.frozen? ⟨g, i, none⟩ = false := blk_frozen h i
theorem Ob.set (h : Ob w g t l) (i : Nat) (v : Value) : Ob (w.setCell ⟨g, i, none⟩ v) g t (l.set i v) := by
  have := blk_set h i v
  simpa [Ob] using this
theorem Ob.to {l2 : List Value} (h : Ob w g t l) (he : l = l2) : Ob w g t l2 := he ▸ h
theorem Ob.far (h : Ob w g t l) {p : Addr} (hp : g ≠ p.block) (u : Value) : Ob (w.setCell p u) g t l := blk_far h hp u
theorem Ob.lt (h : Ob w g t l) : g < w.heap.size := blk_lt h
theorem Ob.fr (h : Ob w g t l) (hf : Fr S w w') (hs : ¬ S g) : Ob w' g t l := (hf.block g h.lt hs).trans h
theorem Ob.below (h : Ob w g t l) (hb : Below w.heap.size w w') : Ob w' g t l := (hb.block g h.lt).trans h
theorem Ob.drewN (h : Ob w g t l) (m : Nat) : Ob (w.drewN m) g t l := h
theorem Ob.drew (h : Ob w g t l) : Ob w.drew g t l := h
theorem Ob.alloc (h : Ob w g t l) (o : Obj) : Ob (w.alloc o) g t l := h.below (below_alloc (Below.refl _ _) o)
theorem Ob.heap (h : Ob w g t l) (he : w'.heap = w.heap) : Ob w' g t l := (congrArg (fun a : Array Obj => a[g]?) he).trans h
theorem Ob.new (w : World) (t : TypeId) (l : List Value) : Ob (w.alloc (.cells l.toArray t)) w.heap.size t l := by
  unfold Ob
  simpa using heap_alloc_new w _
theorem Fr.put {w1 : World} (h : Fr (fun x => x = g) w w1) (i : Nat) (u : Value) : Fr (fun x => x = g) w (w1.setCell ⟨g, i, none⟩ u) := h.set (p := ⟨g, i, none⟩) rfl u
theorem Fr.drew (h : Fr S w w') : Fr S w w'.drew := h.then (below_drew (Below.refl _ _))
theorem Fr.comp {w1 w2 : World} (h : Fr S w w1) (k : Fr S w1 w2) : Fr S w w2 := h.trans k (fun _ _ h => h)
theorem Fr.above {B : Nat} (h : Below B w w') {w2 : World} (hB : B ≤ w'.heap.size) (k : Fr S w' w2) (hS : ∀ i, i < B → ¬ S i) : Below B w w2 :=
  ⟨k.os.trans h.os, k.tape.trans h.tape, k.output.trans h.output, Nat.le_trans h.size k.size, fun i hi => (k.block i (Nat.lt_of_lt_of_le hi hB) (hS i hi)).trans (h.block i hi)⟩
end
section
variable {α : Type} {enc : α → Value} {h1 : ∀ x : α, (enc x).oneCell' = true} {e B : Nat} {w w' : World} {v : Value} {xs : List α} {S : Nat → Prop}
/-- A row of the call's own lives on where its block is not turned. -/
theorem Own.fr (h : Own (Kd.scalar enc h1) e B w v xs) (hf : Fr S w w') (hne : ∀ k, some k = v.ownBlock → ¬ S k) : Own (Kd.scalar enc h1) e B w' v xs :=
  ⟨Kd.R_mono (Kd.R_kept (Kd.R_tight rfl h.out) ⟨hf.size, hf.block⟩ hne) (fun _ _ => trivial)⟩
/-- Another type, another block. -/
theorem Own.ne (h : Own (Kd.scalar enc h1) e B w v xs) {g : Nat} {t : TypeId} {l : List Value} (hb : Ob w g t l) (ht : e ≠ t) : ∀ k, some k = v.ownBlock → ¬ k = g := fun k hk hkg => Kd.R_ne h.out hb ht (by rw [← hk, hkg])
end
section
variable {P : Program} {ops : Array Oper} {rest : List Oper} {o : Oper} {a : Act} {Q : Exit → Act → World → Prop}
/-- append of one whole number onto a row of the call's own: nothing else turns. -/
theorem app_int2 {k : IntKind} {w0 W : World} {B : Nat} {v : Value} {xs : List Int} {p : Int} {t e bytes : Nat} {z : Value}
    (ht : P.underlying t = some (.slice e)) (hinfo : (P.info? e).map (fun i => (i.zero, i.size, i.bytes)) = some (some z, 1, bytes)) (hz : z.cells.size = 1) (hb0 : 0 < bytes)
    (s x : Operand) (hgd : o.guard = none) (ho : o.op = .call { callee := .builtin .append, args := #[s, x], argTypes := #[t, t] })
    (hs : a.eval s = v) (hx : a.eval x = .slice (some ⟨W.heap.size, 0, none⟩) 1 1)
    (HO : Own (Kd.int k) e B W v xs) (HB : Below B w0 W) (hB : B ≤ W.heap.size) (hl : (xs.length + 1) * bytes ≤ 140737488355328)
    (h : ∀ v1 w1, Own (Kd.int k) e B w1 v1 (xs ++ [p]) → Below B w0 w1 → B ≤ w1.heap.size → Fr (fun k => some k = v.ownBlock) W w1 → wpList P ops Q rest (a.put o.dst v1) w1) :
    wpList P ops Q (o :: rest) a (W.alloc (.cells #[.int k p] e)) := by
  refine Kd.R_append (Kd.int k) (w0 := w0) B hgd s x t e z bytes ho ht hinfo hz Nat.zero_lt_one hb0 v xs p [.int k p] (fun _ => True) (fun _ => False) hs hx rfl (fun _ h => h.elim) (fun _ _ => trivial) HO.out HB hB hl ?_
  intro v1 w1 h1 h2 h3 _
  exact h v1 w1 ⟨h1⟩ h2 (Nat.le_trans hB h3.size) ⟨h3.os, h3.tape, h3.output, h3.size, fun i hi hne => h3.block i hi hne⟩
end
end Go.Proofs.Ytbcgihkmgmbomaa.K
