/- The sums of some texts are as known: the walk. -/
import Derived.Test.YtpfblfepgppinaaFcB
namespace Go.Proofs.Ytpfblfepgppinaa.FcKnownW
open Go.RowKit Go.Proofs.YtpfblfepgppinaaW.PrintWords Go.Proofs.YtpfblfepgppinaaW.PrintLast Go.Proofs.YtpfblfepgppinaaW.PrintMore Go.Proofs.Ytpfblfepgppinaa.K Go.Proofs.Ytpfblfepgppinaa.FcP Go.Proofs.Ytpfblfepgppinaa.FcA Go.Proofs.Ytpfblfepgppinaa.FcB
set_option linter.unusedVariables false
set_option linter.unusedSimpArgs false
attribute [local go_sem] max2_int min2_int max_two min_two

theorem bytes_rds (W : World) (e : TypeId) (s : ByteArray) (xs : List Int) (hx : bytesOf s = xs) (hs : s.size ≤ 9223372036854775807) : ∃ c, (Lib.bytesWorld W e s) = Lib.bytesWorld W e s ∧ grownCap W s.size 0 e = c ∧ Rds (Kd.int .u8) (Lib.bytesWorld W e s) (some ⟨W.heap.size, 0, none⟩) xs.length c xs := by
  subst hx
  refine ⟨_, rfl, rfl, ?_⟩
  have hl : (bytesOf s).length = s.size := bytesOf_length s
  rw [hl]
  exact ⟨Kd.C_of_reads (enc := Value.int .u8) (d := (0 : Int)) (h1 := fun _ => rfl) (bytes_reads W e s hs), hl.symm, grownCap_ge _ _ _ _⟩
/-- A text is made bytes, as one operation of a region. -/
theorem op_bytes {l : List Oper} {V : Nat → Value → World → Prop} {i : Nat} {o : Oper} {a' : Act} {w' : World} {s : ByteArray} {xs : List Int} (x : Operand) (hw : Region.wanted o (yielded l.toArray a'.tmps) = true) (hop : o.op = .convert 9 22 x) (hx : a'.eval x = .string s)
    (hn : bytesOf s = xs) (hs : s.size ≤ 9223372036854775807) (hV : ∀ v w, IsSl xs v w → V i v w) : OpOk Try.prog l V i o a' w' := by
  have kb := print_bytes (P := Try.prog) 9 22 5 Try.underlying9 Try.underlying22 Try.underlying5 s w'
  obtain ⟨c, _, hc, hr⟩ := bytes_rds w' 5 s xs hn hs
  have hl : s.size = xs.length := by rw [← hn]; exact (bytesOf_length s).symm
  unfold OpOk
  rw [if_pos hw]
  intro K Q' hK
  unfold Oper.wp
  have hrun : (execOp a'.eval o).run Try.prog w' = .ok (.value (.slice (some ⟨w'.heap.size, 0, none⟩) xs.length c)) (Lib.bytesWorld w' 5 s) := by
    rw [hc, hl] at kb
    simp [execOp, hop, hx, kb]
  rw [hrun]
  exact hK _ _ (bytes_below (Below.refl _ _) (Nat.le_refl _) 5 s) (hV _ _ ⟨_, _, rfl, hr⟩)

theorem sh0 : shortN [49, 50, 51, 52, 53, 54, 55, 56, 57] = 36974 := by kernel_rfl
theorem lo0 : longN [49, 50, 51, 52, 53, 54, 55, 56, 57] = 3421780262 := by kernel_rfl
theorem by0 : bytesOf { data := #[49, 50, 51, 52, 53, 54, 55, 56, 57] } = [49, 50, 51, 52, 53, 54, 55, 56, 57] := by decide +kernel
theorem bd0 : ∀ x ∈ ([49, 50, 51, 52, 53, 54, 55, 56, 57] : List Int), 0 ≤ x ∧ x ≤ 255 := by decide
theorem shc0 {A : Option Addr} {n c : Nat} {w : World} (h : Rds (Kd.int .u8) w A n c [49, 50, 51, 52, 53, 54, 55, 56, 57]) (hn : n ≤ 9223372036854775807) : Calls Try.prog 10 #[.slice A n c] w fun e w' => ∃ v, e = .returned v ∧ Below w.heap.size w w' ∧ v = .int .u16 36974 := by
  have := short_ok A n c _ w h bd0 hn
  rw [sh0] at this
  exact this.mono fun e w' ⟨he, hw⟩ => ⟨_, he, hw ▸ Below.refl _ _, rfl⟩
theorem loc0 {A : Option Addr} {n c : Nat} {w : World} (h : Rds (Kd.int .u8) w A n c [49, 50, 51, 52, 53, 54, 55, 56, 57]) (hn : n ≤ 9223372036854775807) : Calls Try.prog 11 #[.slice A n c] w fun e w' => ∃ v, e = .returned v ∧ Below w.heap.size w w' ∧ v = .int .u32 3421780262 := by
  have := long_ok A n c _ w h bd0 hn
  rw [lo0] at this
  exact this.mono fun e w' ⟨he, hw⟩ => ⟨_, he, hw ▸ Below.refl _ _, rfl⟩
set_option maxHeartbeats 8000000 in
set_option maxRecDepth 100000 in
theorem known0 (w : World) : Calls Try.prog 4 #[.int .i64 0] w fun e w' => e = .returned (.bool true) ∧ Below w.heap.size w w' := by
  go_enter Try.func4, Try.ntmps4
  go_wp2_with (first
      | (go_at_call 9; (with_reducible refine (alive_ok _).mono ?_); rintro e w1 ⟨rfl, hb1⟩; have HB1 := Aside0.mk hb1; clear hb1))
  have YL : Ob (((w1.alloc (.cells #[.string { data := #[49, 50, 51, 52, 53, 54, 55, 56, 57] }, .string { data := #[] }, .string { data := #[0] }, .string { data := #[97] }] 9)).alloc (.cells #[.int .u16 36974, .int .u16 0, .int .u16 61560, .int .u16 33527] 24)).alloc (.cells #[.int .u32 3421780262, .int .u32 0, .int .u32 3523407757, .int .u32 3904355907] 26)) w1.heap.size 9 [.string { data := #[49, 50, 51, 52, 53, 54, 55, 56, 57] }, .string { data := #[] }, .string { data := #[0] }, .string { data := #[97] }] := ((Ob.new w1 9 [.string { data := #[49, 50, 51, 52, 53, 54, 55, 56, 57] }, .string { data := #[] }, .string { data := #[0] }, .string { data := #[97] }]).alloc _).alloc _
  have YS : Ob (((w1.alloc (.cells #[.string { data := #[49, 50, 51, 52, 53, 54, 55, 56, 57] }, .string { data := #[] }, .string { data := #[0] }, .string { data := #[97] }] 9)).alloc (.cells #[.int .u16 36974, .int .u16 0, .int .u16 61560, .int .u16 33527] 24)).alloc (.cells #[.int .u32 3421780262, .int .u32 0, .int .u32 3523407757, .int .u32 3904355907] 26)) (w1.heap.size + 1) 24 [.int .u16 36974, .int .u16 0, .int .u16 61560, .int .u16 33527] := by
    have := (Ob.new (w1.alloc (.cells #[.string { data := #[49, 50, 51, 52, 53, 54, 55, 56, 57] }, .string { data := #[] }, .string { data := #[0] }, .string { data := #[97] }] 9)) 24 [.int .u16 36974, .int .u16 0, .int .u16 61560, .int .u16 33527]).alloc (.cells #[.int .u32 3421780262, .int .u32 0, .int .u32 3523407757, .int .u32 3904355907] 26)
    rwa [show (w1.alloc (.cells #[.string { data := #[49, 50, 51, 52, 53, 54, 55, 56, 57] }, .string { data := #[] }, .string { data := #[0] }, .string { data := #[97] }] 9)).heap.size = w1.heap.size + 1 by simp] at this
  have YT : Ob (((w1.alloc (.cells #[.string { data := #[49, 50, 51, 52, 53, 54, 55, 56, 57] }, .string { data := #[] }, .string { data := #[0] }, .string { data := #[97] }] 9)).alloc (.cells #[.int .u16 36974, .int .u16 0, .int .u16 61560, .int .u16 33527] 24)).alloc (.cells #[.int .u32 3421780262, .int .u32 0, .int .u32 3523407757, .int .u32 3904355907] 26)) (w1.heap.size + 1 + 1) 26 [.int .u32 3421780262, .int .u32 0, .int .u32 3523407757, .int .u32 3904355907] := by
    have := Ob.new ((w1.alloc (.cells #[.string { data := #[49, 50, 51, 52, 53, 54, 55, 56, 57] }, .string { data := #[] }, .string { data := #[0] }, .string { data := #[97] }] 9)).alloc (.cells #[.int .u16 36974, .int .u16 0, .int .u16 61560, .int .u16 33527] 24)) 26 [.int .u32 3421780262, .int .u32 0, .int .u32 3523407757, .int .u32 3904355907]
    rwa [show ((w1.alloc (.cells #[.string { data := #[49, 50, 51, 52, 53, 54, 55, 56, 57] }, .string { data := #[] }, .string { data := #[0] }, .string { data := #[97] }] 9)).alloc (.cells #[.int .u16 36974, .int .u16 0, .int .u16 61560, .int .u16 33527] 24)).heap.size = w1.heap.size + 1 + 1 by simp] at this
  have HB2 := Aside0.mk (below_alloc (below_alloc (below_alloc HB1.out (.cells #[.string { data := #[49, 50, 51, 52, 53, 54, 55, 56, 57] }, .string { data := #[] }, .string { data := #[0] }, .string { data := #[97] }] 9)) (.cells #[.int .u16 36974, .int .u16 0, .int .u16 61560, .int .u16 33527] 24)) (.cells #[.int .u32 3421780262, .int .u32 0, .int .u32 3523407757, .int .u32 3904355907] 26))
  generalize (((w1.alloc (.cells #[.string { data := #[49, 50, 51, 52, 53, 54, 55, 56, 57] }, .string { data := #[] }, .string { data := #[0] }, .string { data := #[97] }] 9)).alloc (.cells #[.int .u16 36974, .int .u16 0, .int .u16 61560, .int .u16 33527] 24)).alloc (.cells #[.int .u32 3421780262, .int .u32 0, .int .u32 3523407757, .int .u32 3904355907] 26)) = w2 at YL YS YT HB2 ⊢
  have FL : ∀ w', Below w2.heap.size w2 w' → w'.cell? ⟨w1.heap.size, 0, none⟩ = some (.string { data := #[49, 50, 51, 52, 53, 54, 55, 56, 57] }) := fun w' hb => (YL.below hb).at_ 0 rfl
  have FS : ∀ w', Below w2.heap.size w2 w' → w'.cell? ⟨w1.heap.size + 1, 0, none⟩ = some (.int .u16 36974) := fun w' hb => (YS.below hb).at_ 0 rfl
  have FT : ∀ w', Below w2.heap.size w2 w' → w'.cell? ⟨w1.heap.size + 1 + 1, 0, none⟩ = some (.int .u32 3421780262) := fun w' hb => (YT.below hb).at_ 0 rfl
  generalize w1.heap.size = b1 at FL FS FT ⊢
  clear YL YS YT
  refine region_each (VT (fun i => match i with | 0 => .slice (some ⟨b1, 0, none⟩) 4 4 | 1 => .int .i64 0 | 2 => .pointer (some ⟨b1, 0, none⟩) | 3 => .string { data := #[49, 50, 51, 52, 53, 54, 55, 56, 57] } | 5 => .int .u16 36974 | 6 => .slice (some ⟨b1 + 1, 0, none⟩) 4 4 | 7 => .int .i64 0 | 8 => .pointer (some ⟨b1 + 1, 0, none⟩) | 9 => .int .u16 36974 | 10 => .bool true | 11 => .bool true | 12 => .slice (some ⟨b1, 0, none⟩) 4 4 | 13 => .int .i64 0 | 14 => .pointer (some ⟨b1, 0, none⟩) | 15 => .string { data := #[49, 50, 51, 52, 53, 54, 55, 56, 57] } | 17 => .int .u32 3421780262 | 18 => .slice (some ⟨b1 + 1 + 1, 0, none⟩) 4 4 | 19 => .int .i64 0 | 20 => .pointer (some ⟨b1 + 1 + 1, 0, none⟩) | 21 => .int .u32 3421780262 | 22 => .bool true | 23 => .bool true | 24 => .bool true | _ => undef) [(4, [49, 50, 51, 52, 53, 54, 55, 56, 57]), (16, [49, 50, 51, 52, 53, 54, 55, 56, 57])]) (by kernel_rfl) (by kernel_rfl) (VT_stable _ _) ?_ ?_
  · refine ⟨?_, ?_, ?_, ?_, ?_, ?_, ?_, ?_, ?_, ?_, ?_, ?_, ?_, ?_, ?_, ?_, ?_, ?_, ?_, ?_, ?_, ?_, ?_, ?_, ?_, trivial⟩
    · intro a_ w_ st
      have e4 : a_.eval (.tmp 4) = .slice (some ⟨b1, 0, none⟩) 4 4 := st.slot 4 (by kernel_rfl)
      exact op_yield (.slice (some ⟨b1, 0, none⟩) 4 4) (wanted_none rfl _) (by simp only [execOp, e4]; rfl) rfl
    · intro a_ w_ st
      have e0 : a_.eval (.tmp 0) = .int .i64 0 := st.slot 0 (by kernel_rfl)
      exact op_yield (.int .i64 0) (wanted_none rfl _) (by simp only [execOp, e0]; rfl) rfl
    · intro a_ w_ st
      have e24 : a_.eval (.tmp 24) = .slice (some ⟨b1, 0, none⟩) 4 4 := st.dep 0 _ 24 rfl rfl (by kernel_rfl)
      have e25 : a_.eval (.tmp 25) = .int .i64 0 := st.dep 1 _ 25 rfl rfl (by kernel_rfl)
      exact op_yield (.pointer (some ⟨b1, 0, none⟩)) (wanted_none rfl _) (by simp only [execOp, e24, e25]; go_simp) rfl
    · intro a_ w_ st
      have e26 : a_.eval (.tmp 26) = .pointer (some ⟨b1, 0, none⟩) := st.dep 2 _ 26 rfl rfl (by kernel_rfl)
      have l_ := FL w_ st.below
      exact op_yield (.string { data := #[49, 50, 51, 52, 53, 54, 55, 56, 57] }) (wanted_none rfl _) (by simp only [execOp, e26]; go_simp) rfl
    · intro a_ w_ st
      have e27 : a_.eval (.tmp 27) = .string { data := #[49, 50, 51, 52, 53, 54, 55, 56, 57] } := st.dep 3 _ 27 rfl rfl (by kernel_rfl)
      exact op_bytes (.tmp 27) (wanted_none rfl _) rfl e27 by0 (by decide) (fun _ _ h => h)
    · intro a_ w_ st
      obtain ⟨A28_, c28_, e28, h28_⟩ : IsSl [49, 50, 51, 52, 53, 54, 55, 56, 57] (a_.eval (.tmp 28)) w_ := st.dep 4 _ 28 rfl rfl (by kernel_rfl)
      skip
      exact op_call Try.func10 (by kernel_rfl) rfl #[.slice A28_ _ c28_] (wanted_none rfl _) rfl (by simp [e28]) (shc0 (n := 9) h28_ (by simp))
    · intro a_ w_ st
      have e5 : a_.eval (.tmp 5) = .slice (some ⟨b1 + 1, 0, none⟩) 4 4 := st.slot 5 (by kernel_rfl)
      exact op_yield (.slice (some ⟨b1 + 1, 0, none⟩) 4 4) (wanted_none rfl _) (by simp only [execOp, e5]; rfl) rfl
    · intro a_ w_ st
      have e0 : a_.eval (.tmp 0) = .int .i64 0 := st.slot 0 (by kernel_rfl)
      exact op_yield (.int .i64 0) (wanted_none rfl _) (by simp only [execOp, e0]; rfl) rfl
    · intro a_ w_ st
      have e30 : a_.eval (.tmp 30) = .slice (some ⟨b1 + 1, 0, none⟩) 4 4 := st.dep 6 _ 30 rfl rfl (by kernel_rfl)
      have e31 : a_.eval (.tmp 31) = .int .i64 0 := st.dep 7 _ 31 rfl rfl (by kernel_rfl)
      exact op_yield (.pointer (some ⟨b1 + 1, 0, none⟩)) (wanted_none rfl _) (by simp only [execOp, e30, e31]; go_simp) rfl
    · intro a_ w_ st
      have e32 : a_.eval (.tmp 32) = .pointer (some ⟨b1 + 1, 0, none⟩) := st.dep 8 _ 32 rfl rfl (by kernel_rfl)
      have l_ := FS w_ st.below
      exact op_yield (.int .u16 36974) (wanted_none rfl _) (by simp only [execOp, e32]; go_simp) rfl
    · intro a_ w_ st
      have e29 : a_.eval (.tmp 29) = .int .u16 36974 := st.dep 5 _ 29 rfl rfl (by kernel_rfl)
      have e33 : a_.eval (.tmp 33) = .int .u16 36974 := st.dep 9 _ 33 rfl rfl (by kernel_rfl)
      exact op_yield (.bool true) (wanted_none rfl _) (by simp only [execOp, e29, e33]; go_simp) rfl
    · intro a_ w_ st
      have e34 : a_.eval (.tmp 34) = .bool true := st.dep 10 _ 34 rfl rfl (by kernel_rfl)
      exact op_yield (.bool true) (wanted_none rfl _) (by simp only [execOp, e34]; rfl) rfl
    · intro a_ w_ st
      have e35 : a_.eval (.tmp 35) = .bool true := st.dep 11 _ 35 rfl rfl (by kernel_rfl)
      have e4 : a_.eval (.tmp 4) = .slice (some ⟨b1, 0, none⟩) 4 4 := st.slot 4 (by kernel_rfl)
      exact op_yield (.slice (some ⟨b1, 0, none⟩) 4 4) (wanted_some rfl (st.yields 11 _ 35 rfl rfl (of_decide_eq_true (by kernel_rfl)) true e35)) (by simp only [execOp, e35, e4]; rfl) rfl
    · intro a_ w_ st
      have e35 : a_.eval (.tmp 35) = .bool true := st.dep 11 _ 35 rfl rfl (by kernel_rfl)
      have e0 : a_.eval (.tmp 0) = .int .i64 0 := st.slot 0 (by kernel_rfl)
      exact op_yield (.int .i64 0) (wanted_some rfl (st.yields 11 _ 35 rfl rfl (of_decide_eq_true (by kernel_rfl)) true e35)) (by simp only [execOp, e35, e0]; rfl) rfl
    · intro a_ w_ st
      have e35 : a_.eval (.tmp 35) = .bool true := st.dep 11 _ 35 rfl rfl (by kernel_rfl)
      have e36 : a_.eval (.tmp 36) = .slice (some ⟨b1, 0, none⟩) 4 4 := st.dep 12 _ 36 rfl rfl (by kernel_rfl)
      have e37 : a_.eval (.tmp 37) = .int .i64 0 := st.dep 13 _ 37 rfl rfl (by kernel_rfl)
      exact op_yield (.pointer (some ⟨b1, 0, none⟩)) (wanted_some rfl (st.yields 11 _ 35 rfl rfl (of_decide_eq_true (by kernel_rfl)) true e35)) (by simp only [execOp, e35, e36, e37]; go_simp) rfl
    · intro a_ w_ st
      have e35 : a_.eval (.tmp 35) = .bool true := st.dep 11 _ 35 rfl rfl (by kernel_rfl)
      have e38 : a_.eval (.tmp 38) = .pointer (some ⟨b1, 0, none⟩) := st.dep 14 _ 38 rfl rfl (by kernel_rfl)
      have l_ := FL w_ st.below
      exact op_yield (.string { data := #[49, 50, 51, 52, 53, 54, 55, 56, 57] }) (wanted_some rfl (st.yields 11 _ 35 rfl rfl (of_decide_eq_true (by kernel_rfl)) true e35)) (by simp only [execOp, e35, e38]; go_simp) rfl
    · intro a_ w_ st
      have e35 : a_.eval (.tmp 35) = .bool true := st.dep 11 _ 35 rfl rfl (by kernel_rfl)
      have e39 : a_.eval (.tmp 39) = .string { data := #[49, 50, 51, 52, 53, 54, 55, 56, 57] } := st.dep 15 _ 39 rfl rfl (by kernel_rfl)
      exact op_bytes (.tmp 39) (wanted_some rfl (st.yields 11 _ 35 rfl rfl (of_decide_eq_true (by kernel_rfl)) true e35)) rfl e39 by0 (by decide) (fun _ _ h => h)
    · intro a_ w_ st
      have e35 : a_.eval (.tmp 35) = .bool true := st.dep 11 _ 35 rfl rfl (by kernel_rfl)
      obtain ⟨A40_, c40_, e40, h40_⟩ : IsSl [49, 50, 51, 52, 53, 54, 55, 56, 57] (a_.eval (.tmp 40)) w_ := st.dep 16 _ 40 rfl rfl (by kernel_rfl)
      skip
      exact op_call Try.func11 (by kernel_rfl) rfl #[.slice A40_ _ c40_] (wanted_some rfl (st.yields 11 _ 35 rfl rfl (of_decide_eq_true (by kernel_rfl)) true e35)) rfl (by simp [e35, e40]) (loc0 (n := 9) h40_ (by simp))
    · intro a_ w_ st
      have e35 : a_.eval (.tmp 35) = .bool true := st.dep 11 _ 35 rfl rfl (by kernel_rfl)
      have e6 : a_.eval (.tmp 6) = .slice (some ⟨b1 + 1 + 1, 0, none⟩) 4 4 := st.slot 6 (by kernel_rfl)
      exact op_yield (.slice (some ⟨b1 + 1 + 1, 0, none⟩) 4 4) (wanted_some rfl (st.yields 11 _ 35 rfl rfl (of_decide_eq_true (by kernel_rfl)) true e35)) (by simp only [execOp, e35, e6]; rfl) rfl
    · intro a_ w_ st
      have e35 : a_.eval (.tmp 35) = .bool true := st.dep 11 _ 35 rfl rfl (by kernel_rfl)
      have e0 : a_.eval (.tmp 0) = .int .i64 0 := st.slot 0 (by kernel_rfl)
      exact op_yield (.int .i64 0) (wanted_some rfl (st.yields 11 _ 35 rfl rfl (of_decide_eq_true (by kernel_rfl)) true e35)) (by simp only [execOp, e35, e0]; rfl) rfl
    · intro a_ w_ st
      have e35 : a_.eval (.tmp 35) = .bool true := st.dep 11 _ 35 rfl rfl (by kernel_rfl)
      have e42 : a_.eval (.tmp 42) = .slice (some ⟨b1 + 1 + 1, 0, none⟩) 4 4 := st.dep 18 _ 42 rfl rfl (by kernel_rfl)
      have e43 : a_.eval (.tmp 43) = .int .i64 0 := st.dep 19 _ 43 rfl rfl (by kernel_rfl)
      exact op_yield (.pointer (some ⟨b1 + 1 + 1, 0, none⟩)) (wanted_some rfl (st.yields 11 _ 35 rfl rfl (of_decide_eq_true (by kernel_rfl)) true e35)) (by simp only [execOp, e35, e42, e43]; go_simp) rfl
    · intro a_ w_ st
      have e35 : a_.eval (.tmp 35) = .bool true := st.dep 11 _ 35 rfl rfl (by kernel_rfl)
      have e44 : a_.eval (.tmp 44) = .pointer (some ⟨b1 + 1 + 1, 0, none⟩) := st.dep 20 _ 44 rfl rfl (by kernel_rfl)
      have l_ := FT w_ st.below
      exact op_yield (.int .u32 3421780262) (wanted_some rfl (st.yields 11 _ 35 rfl rfl (of_decide_eq_true (by kernel_rfl)) true e35)) (by simp only [execOp, e35, e44]; go_simp) rfl
    · intro a_ w_ st
      have e35 : a_.eval (.tmp 35) = .bool true := st.dep 11 _ 35 rfl rfl (by kernel_rfl)
      have e41 : a_.eval (.tmp 41) = .int .u32 3421780262 := st.dep 17 _ 41 rfl rfl (by kernel_rfl)
      have e45 : a_.eval (.tmp 45) = .int .u32 3421780262 := st.dep 21 _ 45 rfl rfl (by kernel_rfl)
      exact op_yield (.bool true) (wanted_some rfl (st.yields 11 _ 35 rfl rfl (of_decide_eq_true (by kernel_rfl)) true e35)) (by simp only [execOp, e35, e41, e45]; go_simp) rfl
    · intro a_ w_ st
      have e35 : a_.eval (.tmp 35) = .bool true := st.dep 11 _ 35 rfl rfl (by kernel_rfl)
      have e46 : a_.eval (.tmp 46) = .bool true := st.dep 22 _ 46 rfl rfl (by kernel_rfl)
      exact op_yield (.bool true) (wanted_none rfl _) (by simp only [execOp, e35, e46]; rfl) rfl
    · intro a_ w_ st
      have e47 : a_.eval (.tmp 47) = .bool true := st.dep 23 _ 47 rfl rfl (by kernel_rfl)
      exact op_yield (.bool true) (wanted_none rfl _) (by simp only [execOp, e47]; rfl) rfl
  · intro a_ w_ st
    go_step
    go_step
    refine wp_ret ?_
    exact ⟨st.defers, _, results_tmp rfl _ _ _, ⟨by rw [show a_.tmps.getD 2 undef = .bool true from st.val 24 _ 2 rfl trivial rfl], below_step HB2.out st.below⟩⟩

theorem sh1 : shortN [] = 0 := by kernel_rfl
theorem lo1 : longN [] = 0 := by kernel_rfl
theorem by1 : bytesOf { data := #[] } = [] := by decide +kernel
theorem bd1 : ∀ x ∈ ([] : List Int), 0 ≤ x ∧ x ≤ 255 := by decide
theorem shc1 {A : Option Addr} {n c : Nat} {w : World} (h : Rds (Kd.int .u8) w A n c []) (hn : n ≤ 9223372036854775807) : Calls Try.prog 10 #[.slice A n c] w fun e w' => ∃ v, e = .returned v ∧ Below w.heap.size w w' ∧ v = .int .u16 0 := by
  have := short_ok A n c _ w h bd1 hn
  rw [sh1] at this
  exact this.mono fun e w' ⟨he, hw⟩ => ⟨_, he, hw ▸ Below.refl _ _, rfl⟩
theorem loc1 {A : Option Addr} {n c : Nat} {w : World} (h : Rds (Kd.int .u8) w A n c []) (hn : n ≤ 9223372036854775807) : Calls Try.prog 11 #[.slice A n c] w fun e w' => ∃ v, e = .returned v ∧ Below w.heap.size w w' ∧ v = .int .u32 0 := by
  have := long_ok A n c _ w h bd1 hn
  rw [lo1] at this
  exact this.mono fun e w' ⟨he, hw⟩ => ⟨_, he, hw ▸ Below.refl _ _, rfl⟩
set_option maxHeartbeats 8000000 in
set_option maxRecDepth 100000 in
theorem known1 (w : World) : Calls Try.prog 4 #[.int .i64 1] w fun e w' => e = .returned (.bool true) ∧ Below w.heap.size w w' := by
  go_enter Try.func4, Try.ntmps4
  go_wp2_with (first
      | (go_at_call 9; (with_reducible refine (alive_ok _).mono ?_); rintro e w1 ⟨rfl, hb1⟩; have HB1 := Aside0.mk hb1; clear hb1))
  have YL : Ob (((w1.alloc (.cells #[.string { data := #[49, 50, 51, 52, 53, 54, 55, 56, 57] }, .string { data := #[] }, .string { data := #[0] }, .string { data := #[97] }] 9)).alloc (.cells #[.int .u16 36974, .int .u16 0, .int .u16 61560, .int .u16 33527] 24)).alloc (.cells #[.int .u32 3421780262, .int .u32 0, .int .u32 3523407757, .int .u32 3904355907] 26)) w1.heap.size 9 [.string { data := #[49, 50, 51, 52, 53, 54, 55, 56, 57] }, .string { data := #[] }, .string { data := #[0] }, .string { data := #[97] }] := ((Ob.new w1 9 [.string { data := #[49, 50, 51, 52, 53, 54, 55, 56, 57] }, .string { data := #[] }, .string { data := #[0] }, .string { data := #[97] }]).alloc _).alloc _
  have YS : Ob (((w1.alloc (.cells #[.string { data := #[49, 50, 51, 52, 53, 54, 55, 56, 57] }, .string { data := #[] }, .string { data := #[0] }, .string { data := #[97] }] 9)).alloc (.cells #[.int .u16 36974, .int .u16 0, .int .u16 61560, .int .u16 33527] 24)).alloc (.cells #[.int .u32 3421780262, .int .u32 0, .int .u32 3523407757, .int .u32 3904355907] 26)) (w1.heap.size + 1) 24 [.int .u16 36974, .int .u16 0, .int .u16 61560, .int .u16 33527] := by
    have := (Ob.new (w1.alloc (.cells #[.string { data := #[49, 50, 51, 52, 53, 54, 55, 56, 57] }, .string { data := #[] }, .string { data := #[0] }, .string { data := #[97] }] 9)) 24 [.int .u16 36974, .int .u16 0, .int .u16 61560, .int .u16 33527]).alloc (.cells #[.int .u32 3421780262, .int .u32 0, .int .u32 3523407757, .int .u32 3904355907] 26)
    rwa [show (w1.alloc (.cells #[.string { data := #[49, 50, 51, 52, 53, 54, 55, 56, 57] }, .string { data := #[] }, .string { data := #[0] }, .string { data := #[97] }] 9)).heap.size = w1.heap.size + 1 by simp] at this
  have YT : Ob (((w1.alloc (.cells #[.string { data := #[49, 50, 51, 52, 53, 54, 55, 56, 57] }, .string { data := #[] }, .string { data := #[0] }, .string { data := #[97] }] 9)).alloc (.cells #[.int .u16 36974, .int .u16 0, .int .u16 61560, .int .u16 33527] 24)).alloc (.cells #[.int .u32 3421780262, .int .u32 0, .int .u32 3523407757, .int .u32 3904355907] 26)) (w1.heap.size + 1 + 1) 26 [.int .u32 3421780262, .int .u32 0, .int .u32 3523407757, .int .u32 3904355907] := by
    have := Ob.new ((w1.alloc (.cells #[.string { data := #[49, 50, 51, 52, 53, 54, 55, 56, 57] }, .string { data := #[] }, .string { data := #[0] }, .string { data := #[97] }] 9)).alloc (.cells #[.int .u16 36974, .int .u16 0, .int .u16 61560, .int .u16 33527] 24)) 26 [.int .u32 3421780262, .int .u32 0, .int .u32 3523407757, .int .u32 3904355907]
    rwa [show ((w1.alloc (.cells #[.string { data := #[49, 50, 51, 52, 53, 54, 55, 56, 57] }, .string { data := #[] }, .string { data := #[0] }, .string { data := #[97] }] 9)).alloc (.cells #[.int .u16 36974, .int .u16 0, .int .u16 61560, .int .u16 33527] 24)).heap.size = w1.heap.size + 1 + 1 by simp] at this
  have HB2 := Aside0.mk (below_alloc (below_alloc (below_alloc HB1.out (.cells #[.string { data := #[49, 50, 51, 52, 53, 54, 55, 56, 57] }, .string { data := #[] }, .string { data := #[0] }, .string { data := #[97] }] 9)) (.cells #[.int .u16 36974, .int .u16 0, .int .u16 61560, .int .u16 33527] 24)) (.cells #[.int .u32 3421780262, .int .u32 0, .int .u32 3523407757, .int .u32 3904355907] 26))
  generalize (((w1.alloc (.cells #[.string { data := #[49, 50, 51, 52, 53, 54, 55, 56, 57] }, .string { data := #[] }, .string { data := #[0] }, .string { data := #[97] }] 9)).alloc (.cells #[.int .u16 36974, .int .u16 0, .int .u16 61560, .int .u16 33527] 24)).alloc (.cells #[.int .u32 3421780262, .int .u32 0, .int .u32 3523407757, .int .u32 3904355907] 26)) = w2 at YL YS YT HB2 ⊢
  have FL : ∀ w', Below w2.heap.size w2 w' → w'.cell? ⟨w1.heap.size, 1, none⟩ = some (.string { data := #[] }) := fun w' hb => (YL.below hb).at_ 1 rfl
  have FS : ∀ w', Below w2.heap.size w2 w' → w'.cell? ⟨w1.heap.size + 1, 1, none⟩ = some (.int .u16 0) := fun w' hb => (YS.below hb).at_ 1 rfl
  have FT : ∀ w', Below w2.heap.size w2 w' → w'.cell? ⟨w1.heap.size + 1 + 1, 1, none⟩ = some (.int .u32 0) := fun w' hb => (YT.below hb).at_ 1 rfl
  generalize w1.heap.size = b1 at FL FS FT ⊢
  clear YL YS YT
  refine region_each (VT (fun i => match i with | 0 => .slice (some ⟨b1, 0, none⟩) 4 4 | 1 => .int .i64 1 | 2 => .pointer (some ⟨b1, 1, none⟩) | 3 => .string { data := #[] } | 5 => .int .u16 0 | 6 => .slice (some ⟨b1 + 1, 0, none⟩) 4 4 | 7 => .int .i64 1 | 8 => .pointer (some ⟨b1 + 1, 1, none⟩) | 9 => .int .u16 0 | 10 => .bool true | 11 => .bool true | 12 => .slice (some ⟨b1, 0, none⟩) 4 4 | 13 => .int .i64 1 | 14 => .pointer (some ⟨b1, 1, none⟩) | 15 => .string { data := #[] } | 17 => .int .u32 0 | 18 => .slice (some ⟨b1 + 1 + 1, 0, none⟩) 4 4 | 19 => .int .i64 1 | 20 => .pointer (some ⟨b1 + 1 + 1, 1, none⟩) | 21 => .int .u32 0 | 22 => .bool true | 23 => .bool true | 24 => .bool true | _ => undef) [(4, []), (16, [])]) (by kernel_rfl) (by kernel_rfl) (VT_stable _ _) ?_ ?_
  · refine ⟨?_, ?_, ?_, ?_, ?_, ?_, ?_, ?_, ?_, ?_, ?_, ?_, ?_, ?_, ?_, ?_, ?_, ?_, ?_, ?_, ?_, ?_, ?_, ?_, ?_, trivial⟩
    · intro a_ w_ st
      have e4 : a_.eval (.tmp 4) = .slice (some ⟨b1, 0, none⟩) 4 4 := st.slot 4 (by kernel_rfl)
      exact op_yield (.slice (some ⟨b1, 0, none⟩) 4 4) (wanted_none rfl _) (by simp only [execOp, e4]; rfl) rfl
    · intro a_ w_ st
      have e0 : a_.eval (.tmp 0) = .int .i64 1 := st.slot 0 (by kernel_rfl)
      exact op_yield (.int .i64 1) (wanted_none rfl _) (by simp only [execOp, e0]; rfl) rfl
    · intro a_ w_ st
      have e24 : a_.eval (.tmp 24) = .slice (some ⟨b1, 0, none⟩) 4 4 := st.dep 0 _ 24 rfl rfl (by kernel_rfl)
      have e25 : a_.eval (.tmp 25) = .int .i64 1 := st.dep 1 _ 25 rfl rfl (by kernel_rfl)
      exact op_yield (.pointer (some ⟨b1, 1, none⟩)) (wanted_none rfl _) (by simp only [execOp, e24, e25]; go_simp) rfl
    · intro a_ w_ st
      have e26 : a_.eval (.tmp 26) = .pointer (some ⟨b1, 1, none⟩) := st.dep 2 _ 26 rfl rfl (by kernel_rfl)
      have l_ := FL w_ st.below
      exact op_yield (.string { data := #[] }) (wanted_none rfl _) (by simp only [execOp, e26]; go_simp) rfl
    · intro a_ w_ st
      have e27 : a_.eval (.tmp 27) = .string { data := #[] } := st.dep 3 _ 27 rfl rfl (by kernel_rfl)
      exact op_bytes (.tmp 27) (wanted_none rfl _) rfl e27 by1 (by decide) (fun _ _ h => h)
    · intro a_ w_ st
      obtain ⟨A28_, c28_, e28, h28_⟩ : IsSl [] (a_.eval (.tmp 28)) w_ := st.dep 4 _ 28 rfl rfl (by kernel_rfl)
      skip
      exact op_call Try.func10 (by kernel_rfl) rfl #[.slice A28_ _ c28_] (wanted_none rfl _) rfl (by simp [e28]) (shc1 (n := 0) h28_ (by simp))
    · intro a_ w_ st
      have e5 : a_.eval (.tmp 5) = .slice (some ⟨b1 + 1, 0, none⟩) 4 4 := st.slot 5 (by kernel_rfl)
      exact op_yield (.slice (some ⟨b1 + 1, 0, none⟩) 4 4) (wanted_none rfl _) (by simp only [execOp, e5]; rfl) rfl
    · intro a_ w_ st
      have e0 : a_.eval (.tmp 0) = .int .i64 1 := st.slot 0 (by kernel_rfl)
      exact op_yield (.int .i64 1) (wanted_none rfl _) (by simp only [execOp, e0]; rfl) rfl
    · intro a_ w_ st
      have e30 : a_.eval (.tmp 30) = .slice (some ⟨b1 + 1, 0, none⟩) 4 4 := st.dep 6 _ 30 rfl rfl (by kernel_rfl)
      have e31 : a_.eval (.tmp 31) = .int .i64 1 := st.dep 7 _ 31 rfl rfl (by kernel_rfl)
      exact op_yield (.pointer (some ⟨b1 + 1, 1, none⟩)) (wanted_none rfl _) (by simp only [execOp, e30, e31]; go_simp) rfl
    · intro a_ w_ st
      have e32 : a_.eval (.tmp 32) = .pointer (some ⟨b1 + 1, 1, none⟩) := st.dep 8 _ 32 rfl rfl (by kernel_rfl)
      have l_ := FS w_ st.below
      exact op_yield (.int .u16 0) (wanted_none rfl _) (by simp only [execOp, e32]; go_simp) rfl
    · intro a_ w_ st
      have e29 : a_.eval (.tmp 29) = .int .u16 0 := st.dep 5 _ 29 rfl rfl (by kernel_rfl)
      have e33 : a_.eval (.tmp 33) = .int .u16 0 := st.dep 9 _ 33 rfl rfl (by kernel_rfl)
      exact op_yield (.bool true) (wanted_none rfl _) (by simp only [execOp, e29, e33]; go_simp) rfl
    · intro a_ w_ st
      have e34 : a_.eval (.tmp 34) = .bool true := st.dep 10 _ 34 rfl rfl (by kernel_rfl)
      exact op_yield (.bool true) (wanted_none rfl _) (by simp only [execOp, e34]; rfl) rfl
    · intro a_ w_ st
      have e35 : a_.eval (.tmp 35) = .bool true := st.dep 11 _ 35 rfl rfl (by kernel_rfl)
      have e4 : a_.eval (.tmp 4) = .slice (some ⟨b1, 0, none⟩) 4 4 := st.slot 4 (by kernel_rfl)
      exact op_yield (.slice (some ⟨b1, 0, none⟩) 4 4) (wanted_some rfl (st.yields 11 _ 35 rfl rfl (of_decide_eq_true (by kernel_rfl)) true e35)) (by simp only [execOp, e35, e4]; rfl) rfl
    · intro a_ w_ st
      have e35 : a_.eval (.tmp 35) = .bool true := st.dep 11 _ 35 rfl rfl (by kernel_rfl)
      have e0 : a_.eval (.tmp 0) = .int .i64 1 := st.slot 0 (by kernel_rfl)
      exact op_yield (.int .i64 1) (wanted_some rfl (st.yields 11 _ 35 rfl rfl (of_decide_eq_true (by kernel_rfl)) true e35)) (by simp only [execOp, e35, e0]; rfl) rfl
    · intro a_ w_ st
      have e35 : a_.eval (.tmp 35) = .bool true := st.dep 11 _ 35 rfl rfl (by kernel_rfl)
      have e36 : a_.eval (.tmp 36) = .slice (some ⟨b1, 0, none⟩) 4 4 := st.dep 12 _ 36 rfl rfl (by kernel_rfl)
      have e37 : a_.eval (.tmp 37) = .int .i64 1 := st.dep 13 _ 37 rfl rfl (by kernel_rfl)
      exact op_yield (.pointer (some ⟨b1, 1, none⟩)) (wanted_some rfl (st.yields 11 _ 35 rfl rfl (of_decide_eq_true (by kernel_rfl)) true e35)) (by simp only [execOp, e35, e36, e37]; go_simp) rfl
    · intro a_ w_ st
      have e35 : a_.eval (.tmp 35) = .bool true := st.dep 11 _ 35 rfl rfl (by kernel_rfl)
      have e38 : a_.eval (.tmp 38) = .pointer (some ⟨b1, 1, none⟩) := st.dep 14 _ 38 rfl rfl (by kernel_rfl)
      have l_ := FL w_ st.below
      exact op_yield (.string { data := #[] }) (wanted_some rfl (st.yields 11 _ 35 rfl rfl (of_decide_eq_true (by kernel_rfl)) true e35)) (by simp only [execOp, e35, e38]; go_simp) rfl
    · intro a_ w_ st
      have e35 : a_.eval (.tmp 35) = .bool true := st.dep 11 _ 35 rfl rfl (by kernel_rfl)
      have e39 : a_.eval (.tmp 39) = .string { data := #[] } := st.dep 15 _ 39 rfl rfl (by kernel_rfl)
      exact op_bytes (.tmp 39) (wanted_some rfl (st.yields 11 _ 35 rfl rfl (of_decide_eq_true (by kernel_rfl)) true e35)) rfl e39 by1 (by decide) (fun _ _ h => h)
    · intro a_ w_ st
      have e35 : a_.eval (.tmp 35) = .bool true := st.dep 11 _ 35 rfl rfl (by kernel_rfl)
      obtain ⟨A40_, c40_, e40, h40_⟩ : IsSl [] (a_.eval (.tmp 40)) w_ := st.dep 16 _ 40 rfl rfl (by kernel_rfl)
      skip
      exact op_call Try.func11 (by kernel_rfl) rfl #[.slice A40_ _ c40_] (wanted_some rfl (st.yields 11 _ 35 rfl rfl (of_decide_eq_true (by kernel_rfl)) true e35)) rfl (by simp [e35, e40]) (loc1 (n := 0) h40_ (by simp))
    · intro a_ w_ st
      have e35 : a_.eval (.tmp 35) = .bool true := st.dep 11 _ 35 rfl rfl (by kernel_rfl)
      have e6 : a_.eval (.tmp 6) = .slice (some ⟨b1 + 1 + 1, 0, none⟩) 4 4 := st.slot 6 (by kernel_rfl)
      exact op_yield (.slice (some ⟨b1 + 1 + 1, 0, none⟩) 4 4) (wanted_some rfl (st.yields 11 _ 35 rfl rfl (of_decide_eq_true (by kernel_rfl)) true e35)) (by simp only [execOp, e35, e6]; rfl) rfl
    · intro a_ w_ st
      have e35 : a_.eval (.tmp 35) = .bool true := st.dep 11 _ 35 rfl rfl (by kernel_rfl)
      have e0 : a_.eval (.tmp 0) = .int .i64 1 := st.slot 0 (by kernel_rfl)
      exact op_yield (.int .i64 1) (wanted_some rfl (st.yields 11 _ 35 rfl rfl (of_decide_eq_true (by kernel_rfl)) true e35)) (by simp only [execOp, e35, e0]; rfl) rfl
    · intro a_ w_ st
      have e35 : a_.eval (.tmp 35) = .bool true := st.dep 11 _ 35 rfl rfl (by kernel_rfl)
      have e42 : a_.eval (.tmp 42) = .slice (some ⟨b1 + 1 + 1, 0, none⟩) 4 4 := st.dep 18 _ 42 rfl rfl (by kernel_rfl)
      have e43 : a_.eval (.tmp 43) = .int .i64 1 := st.dep 19 _ 43 rfl rfl (by kernel_rfl)
      exact op_yield (.pointer (some ⟨b1 + 1 + 1, 1, none⟩)) (wanted_some rfl (st.yields 11 _ 35 rfl rfl (of_decide_eq_true (by kernel_rfl)) true e35)) (by simp only [execOp, e35, e42, e43]; go_simp) rfl
    · intro a_ w_ st
      have e35 : a_.eval (.tmp 35) = .bool true := st.dep 11 _ 35 rfl rfl (by kernel_rfl)
      have e44 : a_.eval (.tmp 44) = .pointer (some ⟨b1 + 1 + 1, 1, none⟩) := st.dep 20 _ 44 rfl rfl (by kernel_rfl)
      have l_ := FT w_ st.below
      exact op_yield (.int .u32 0) (wanted_some rfl (st.yields 11 _ 35 rfl rfl (of_decide_eq_true (by kernel_rfl)) true e35)) (by simp only [execOp, e35, e44]; go_simp) rfl
    · intro a_ w_ st
      have e35 : a_.eval (.tmp 35) = .bool true := st.dep 11 _ 35 rfl rfl (by kernel_rfl)
      have e41 : a_.eval (.tmp 41) = .int .u32 0 := st.dep 17 _ 41 rfl rfl (by kernel_rfl)
      have e45 : a_.eval (.tmp 45) = .int .u32 0 := st.dep 21 _ 45 rfl rfl (by kernel_rfl)
      exact op_yield (.bool true) (wanted_some rfl (st.yields 11 _ 35 rfl rfl (of_decide_eq_true (by kernel_rfl)) true e35)) (by simp only [execOp, e35, e41, e45]; go_simp) rfl
    · intro a_ w_ st
      have e35 : a_.eval (.tmp 35) = .bool true := st.dep 11 _ 35 rfl rfl (by kernel_rfl)
      have e46 : a_.eval (.tmp 46) = .bool true := st.dep 22 _ 46 rfl rfl (by kernel_rfl)
      exact op_yield (.bool true) (wanted_none rfl _) (by simp only [execOp, e35, e46]; rfl) rfl
    · intro a_ w_ st
      have e47 : a_.eval (.tmp 47) = .bool true := st.dep 23 _ 47 rfl rfl (by kernel_rfl)
      exact op_yield (.bool true) (wanted_none rfl _) (by simp only [execOp, e47]; rfl) rfl
  · intro a_ w_ st
    go_step
    go_step
    refine wp_ret ?_
    exact ⟨st.defers, _, results_tmp rfl _ _ _, ⟨by rw [show a_.tmps.getD 2 undef = .bool true from st.val 24 _ 2 rfl trivial rfl], below_step HB2.out st.below⟩⟩

theorem sh2 : shortN [0] = 61560 := by kernel_rfl
theorem lo2 : longN [0] = 3523407757 := by kernel_rfl
theorem by2 : bytesOf { data := #[0] } = [0] := by decide +kernel
theorem bd2 : ∀ x ∈ ([0] : List Int), 0 ≤ x ∧ x ≤ 255 := by decide
theorem shc2 {A : Option Addr} {n c : Nat} {w : World} (h : Rds (Kd.int .u8) w A n c [0]) (hn : n ≤ 9223372036854775807) : Calls Try.prog 10 #[.slice A n c] w fun e w' => ∃ v, e = .returned v ∧ Below w.heap.size w w' ∧ v = .int .u16 61560 := by
  have := short_ok A n c _ w h bd2 hn
  rw [sh2] at this
  exact this.mono fun e w' ⟨he, hw⟩ => ⟨_, he, hw ▸ Below.refl _ _, rfl⟩
theorem loc2 {A : Option Addr} {n c : Nat} {w : World} (h : Rds (Kd.int .u8) w A n c [0]) (hn : n ≤ 9223372036854775807) : Calls Try.prog 11 #[.slice A n c] w fun e w' => ∃ v, e = .returned v ∧ Below w.heap.size w w' ∧ v = .int .u32 3523407757 := by
  have := long_ok A n c _ w h bd2 hn
  rw [lo2] at this
  exact this.mono fun e w' ⟨he, hw⟩ => ⟨_, he, hw ▸ Below.refl _ _, rfl⟩
set_option maxHeartbeats 8000000 in
set_option maxRecDepth 100000 in
theorem known2 (w : World) : Calls Try.prog 4 #[.int .i64 2] w fun e w' => e = .returned (.bool true) ∧ Below w.heap.size w w' := by
  go_enter Try.func4, Try.ntmps4
  go_wp2_with (first
      | (go_at_call 9; (with_reducible refine (alive_ok _).mono ?_); rintro e w1 ⟨rfl, hb1⟩; have HB1 := Aside0.mk hb1; clear hb1))
  have YL : Ob (((w1.alloc (.cells #[.string { data := #[49, 50, 51, 52, 53, 54, 55, 56, 57] }, .string { data := #[] }, .string { data := #[0] }, .string { data := #[97] }] 9)).alloc (.cells #[.int .u16 36974, .int .u16 0, .int .u16 61560, .int .u16 33527] 24)).alloc (.cells #[.int .u32 3421780262, .int .u32 0, .int .u32 3523407757, .int .u32 3904355907] 26)) w1.heap.size 9 [.string { data := #[49, 50, 51, 52, 53, 54, 55, 56, 57] }, .string { data := #[] }, .string { data := #[0] }, .string { data := #[97] }] := ((Ob.new w1 9 [.string { data := #[49, 50, 51, 52, 53, 54, 55, 56, 57] }, .string { data := #[] }, .string { data := #[0] }, .string { data := #[97] }]).alloc _).alloc _
  have YS : Ob (((w1.alloc (.cells #[.string { data := #[49, 50, 51, 52, 53, 54, 55, 56, 57] }, .string { data := #[] }, .string { data := #[0] }, .string { data := #[97] }] 9)).alloc (.cells #[.int .u16 36974, .int .u16 0, .int .u16 61560, .int .u16 33527] 24)).alloc (.cells #[.int .u32 3421780262, .int .u32 0, .int .u32 3523407757, .int .u32 3904355907] 26)) (w1.heap.size + 1) 24 [.int .u16 36974, .int .u16 0, .int .u16 61560, .int .u16 33527] := by
    have := (Ob.new (w1.alloc (.cells #[.string { data := #[49, 50, 51, 52, 53, 54, 55, 56, 57] }, .string { data := #[] }, .string { data := #[0] }, .string { data := #[97] }] 9)) 24 [.int .u16 36974, .int .u16 0, .int .u16 61560, .int .u16 33527]).alloc (.cells #[.int .u32 3421780262, .int .u32 0, .int .u32 3523407757, .int .u32 3904355907] 26)
    rwa [show (w1.alloc (.cells #[.string { data := #[49, 50, 51, 52, 53, 54, 55, 56, 57] }, .string { data := #[] }, .string { data := #[0] }, .string { data := #[97] }] 9)).heap.size = w1.heap.size + 1 by simp] at this
  have YT : Ob (((w1.alloc (.cells #[.string { data := #[49, 50, 51, 52, 53, 54, 55, 56, 57] }, .string { data := #[] }, .string { data := #[0] }, .string { data := #[97] }] 9)).alloc (.cells #[.int .u16 36974, .int .u16 0, .int .u16 61560, .int .u16 33527] 24)).alloc (.cells #[.int .u32 3421780262, .int .u32 0, .int .u32 3523407757, .int .u32 3904355907] 26)) (w1.heap.size + 1 + 1) 26 [.int .u32 3421780262, .int .u32 0, .int .u32 3523407757, .int .u32 3904355907] := by
    have := Ob.new ((w1.alloc (.cells #[.string { data := #[49, 50, 51, 52, 53, 54, 55, 56, 57] }, .string { data := #[] }, .string { data := #[0] }, .string { data := #[97] }] 9)).alloc (.cells #[.int .u16 36974, .int .u16 0, .int .u16 61560, .int .u16 33527] 24)) 26 [.int .u32 3421780262, .int .u32 0, .int .u32 3523407757, .int .u32 3904355907]
    rwa [show ((w1.alloc (.cells #[.string { data := #[49, 50, 51, 52, 53, 54, 55, 56, 57] }, .string { data := #[] }, .string { data := #[0] }, .string { data := #[97] }] 9)).alloc (.cells #[.int .u16 36974, .int .u16 0, .int .u16 61560, .int .u16 33527] 24)).heap.size = w1.heap.size + 1 + 1 by simp] at this
  have HB2 := Aside0.mk (below_alloc (below_alloc (below_alloc HB1.out (.cells #[.string { data := #[49, 50, 51, 52, 53, 54, 55, 56, 57] }, .string { data := #[] }, .string { data := #[0] }, .string { data := #[97] }] 9)) (.cells #[.int .u16 36974, .int .u16 0, .int .u16 61560, .int .u16 33527] 24)) (.cells #[.int .u32 3421780262, .int .u32 0, .int .u32 3523407757, .int .u32 3904355907] 26))
  generalize (((w1.alloc (.cells #[.string { data := #[49, 50, 51, 52, 53, 54, 55, 56, 57] }, .string { data := #[] }, .string { data := #[0] }, .string { data := #[97] }] 9)).alloc (.cells #[.int .u16 36974, .int .u16 0, .int .u16 61560, .int .u16 33527] 24)).alloc (.cells #[.int .u32 3421780262, .int .u32 0, .int .u32 3523407757, .int .u32 3904355907] 26)) = w2 at YL YS YT HB2 ⊢
  have FL : ∀ w', Below w2.heap.size w2 w' → w'.cell? ⟨w1.heap.size, 2, none⟩ = some (.string { data := #[0] }) := fun w' hb => (YL.below hb).at_ 2 rfl
  have FS : ∀ w', Below w2.heap.size w2 w' → w'.cell? ⟨w1.heap.size + 1, 2, none⟩ = some (.int .u16 61560) := fun w' hb => (YS.below hb).at_ 2 rfl
  have FT : ∀ w', Below w2.heap.size w2 w' → w'.cell? ⟨w1.heap.size + 1 + 1, 2, none⟩ = some (.int .u32 3523407757) := fun w' hb => (YT.below hb).at_ 2 rfl
  generalize w1.heap.size = b1 at FL FS FT ⊢
  clear YL YS YT
  refine region_each (VT (fun i => match i with | 0 => .slice (some ⟨b1, 0, none⟩) 4 4 | 1 => .int .i64 2 | 2 => .pointer (some ⟨b1, 2, none⟩) | 3 => .string { data := #[0] } | 5 => .int .u16 61560 | 6 => .slice (some ⟨b1 + 1, 0, none⟩) 4 4 | 7 => .int .i64 2 | 8 => .pointer (some ⟨b1 + 1, 2, none⟩) | 9 => .int .u16 61560 | 10 => .bool true | 11 => .bool true | 12 => .slice (some ⟨b1, 0, none⟩) 4 4 | 13 => .int .i64 2 | 14 => .pointer (some ⟨b1, 2, none⟩) | 15 => .string { data := #[0] } | 17 => .int .u32 3523407757 | 18 => .slice (some ⟨b1 + 1 + 1, 0, none⟩) 4 4 | 19 => .int .i64 2 | 20 => .pointer (some ⟨b1 + 1 + 1, 2, none⟩) | 21 => .int .u32 3523407757 | 22 => .bool true | 23 => .bool true | 24 => .bool true | _ => undef) [(4, [0]), (16, [0])]) (by kernel_rfl) (by kernel_rfl) (VT_stable _ _) ?_ ?_
  · refine ⟨?_, ?_, ?_, ?_, ?_, ?_, ?_, ?_, ?_, ?_, ?_, ?_, ?_, ?_, ?_, ?_, ?_, ?_, ?_, ?_, ?_, ?_, ?_, ?_, ?_, trivial⟩
    · intro a_ w_ st
      have e4 : a_.eval (.tmp 4) = .slice (some ⟨b1, 0, none⟩) 4 4 := st.slot 4 (by kernel_rfl)
      exact op_yield (.slice (some ⟨b1, 0, none⟩) 4 4) (wanted_none rfl _) (by simp only [execOp, e4]; rfl) rfl
    · intro a_ w_ st
      have e0 : a_.eval (.tmp 0) = .int .i64 2 := st.slot 0 (by kernel_rfl)
      exact op_yield (.int .i64 2) (wanted_none rfl _) (by simp only [execOp, e0]; rfl) rfl
    · intro a_ w_ st
      have e24 : a_.eval (.tmp 24) = .slice (some ⟨b1, 0, none⟩) 4 4 := st.dep 0 _ 24 rfl rfl (by kernel_rfl)
      have e25 : a_.eval (.tmp 25) = .int .i64 2 := st.dep 1 _ 25 rfl rfl (by kernel_rfl)
      exact op_yield (.pointer (some ⟨b1, 2, none⟩)) (wanted_none rfl _) (by simp only [execOp, e24, e25]; go_simp) rfl
    · intro a_ w_ st
      have e26 : a_.eval (.tmp 26) = .pointer (some ⟨b1, 2, none⟩) := st.dep 2 _ 26 rfl rfl (by kernel_rfl)
      have l_ := FL w_ st.below
      exact op_yield (.string { data := #[0] }) (wanted_none rfl _) (by simp only [execOp, e26]; go_simp) rfl
    · intro a_ w_ st
      have e27 : a_.eval (.tmp 27) = .string { data := #[0] } := st.dep 3 _ 27 rfl rfl (by kernel_rfl)
      exact op_bytes (.tmp 27) (wanted_none rfl _) rfl e27 by2 (by decide) (fun _ _ h => h)
    · intro a_ w_ st
      obtain ⟨A28_, c28_, e28, h28_⟩ : IsSl [0] (a_.eval (.tmp 28)) w_ := st.dep 4 _ 28 rfl rfl (by kernel_rfl)
      skip
      exact op_call Try.func10 (by kernel_rfl) rfl #[.slice A28_ _ c28_] (wanted_none rfl _) rfl (by simp [e28]) (shc2 (n := 1) h28_ (by simp))
    · intro a_ w_ st
      have e5 : a_.eval (.tmp 5) = .slice (some ⟨b1 + 1, 0, none⟩) 4 4 := st.slot 5 (by kernel_rfl)
      exact op_yield (.slice (some ⟨b1 + 1, 0, none⟩) 4 4) (wanted_none rfl _) (by simp only [execOp, e5]; rfl) rfl
    · intro a_ w_ st
      have e0 : a_.eval (.tmp 0) = .int .i64 2 := st.slot 0 (by kernel_rfl)
      exact op_yield (.int .i64 2) (wanted_none rfl _) (by simp only [execOp, e0]; rfl) rfl
    · intro a_ w_ st
      have e30 : a_.eval (.tmp 30) = .slice (some ⟨b1 + 1, 0, none⟩) 4 4 := st.dep 6 _ 30 rfl rfl (by kernel_rfl)
      have e31 : a_.eval (.tmp 31) = .int .i64 2 := st.dep 7 _ 31 rfl rfl (by kernel_rfl)
      exact op_yield (.pointer (some ⟨b1 + 1, 2, none⟩)) (wanted_none rfl _) (by simp only [execOp, e30, e31]; go_simp) rfl
    · intro a_ w_ st
      have e32 : a_.eval (.tmp 32) = .pointer (some ⟨b1 + 1, 2, none⟩) := st.dep 8 _ 32 rfl rfl (by kernel_rfl)
      have l_ := FS w_ st.below
      exact op_yield (.int .u16 61560) (wanted_none rfl _) (by simp only [execOp, e32]; go_simp) rfl
    · intro a_ w_ st
      have e29 : a_.eval (.tmp 29) = .int .u16 61560 := st.dep 5 _ 29 rfl rfl (by kernel_rfl)
      have e33 : a_.eval (.tmp 33) = .int .u16 61560 := st.dep 9 _ 33 rfl rfl (by kernel_rfl)
      exact op_yield (.bool true) (wanted_none rfl _) (by simp only [execOp, e29, e33]; go_simp) rfl
    · intro a_ w_ st
      have e34 : a_.eval (.tmp 34) = .bool true := st.dep 10 _ 34 rfl rfl (by kernel_rfl)
      exact op_yield (.bool true) (wanted_none rfl _) (by simp only [execOp, e34]; rfl) rfl
    · intro a_ w_ st
      have e35 : a_.eval (.tmp 35) = .bool true := st.dep 11 _ 35 rfl rfl (by kernel_rfl)
      have e4 : a_.eval (.tmp 4) = .slice (some ⟨b1, 0, none⟩) 4 4 := st.slot 4 (by kernel_rfl)
      exact op_yield (.slice (some ⟨b1, 0, none⟩) 4 4) (wanted_some rfl (st.yields 11 _ 35 rfl rfl (of_decide_eq_true (by kernel_rfl)) true e35)) (by simp only [execOp, e35, e4]; rfl) rfl
    · intro a_ w_ st
      have e35 : a_.eval (.tmp 35) = .bool true := st.dep 11 _ 35 rfl rfl (by kernel_rfl)
      have e0 : a_.eval (.tmp 0) = .int .i64 2 := st.slot 0 (by kernel_rfl)
      exact op_yield (.int .i64 2) (wanted_some rfl (st.yields 11 _ 35 rfl rfl (of_decide_eq_true (by kernel_rfl)) true e35)) (by simp only [execOp, e35, e0]; rfl) rfl
    · intro a_ w_ st
      have e35 : a_.eval (.tmp 35) = .bool true := st.dep 11 _ 35 rfl rfl (by kernel_rfl)
      have e36 : a_.eval (.tmp 36) = .slice (some ⟨b1, 0, none⟩) 4 4 := st.dep 12 _ 36 rfl rfl (by kernel_rfl)
      have e37 : a_.eval (.tmp 37) = .int .i64 2 := st.dep 13 _ 37 rfl rfl (by kernel_rfl)
      exact op_yield (.pointer (some ⟨b1, 2, none⟩)) (wanted_some rfl (st.yields 11 _ 35 rfl rfl (of_decide_eq_true (by kernel_rfl)) true e35)) (by simp only [execOp, e35, e36, e37]; go_simp) rfl
    · intro a_ w_ st
      have e35 : a_.eval (.tmp 35) = .bool true := st.dep 11 _ 35 rfl rfl (by kernel_rfl)
      have e38 : a_.eval (.tmp 38) = .pointer (some ⟨b1, 2, none⟩) := st.dep 14 _ 38 rfl rfl (by kernel_rfl)
      have l_ := FL w_ st.below
      exact op_yield (.string { data := #[0] }) (wanted_some rfl (st.yields 11 _ 35 rfl rfl (of_decide_eq_true (by kernel_rfl)) true e35)) (by simp only [execOp, e35, e38]; go_simp) rfl
    · intro a_ w_ st
      have e35 : a_.eval (.tmp 35) = .bool true := st.dep 11 _ 35 rfl rfl (by kernel_rfl)
      have e39 : a_.eval (.tmp 39) = .string { data := #[0] } := st.dep 15 _ 39 rfl rfl (by kernel_rfl)
      exact op_bytes (.tmp 39) (wanted_some rfl (st.yields 11 _ 35 rfl rfl (of_decide_eq_true (by kernel_rfl)) true e35)) rfl e39 by2 (by decide) (fun _ _ h => h)
    · intro a_ w_ st
      have e35 : a_.eval (.tmp 35) = .bool true := st.dep 11 _ 35 rfl rfl (by kernel_rfl)
      obtain ⟨A40_, c40_, e40, h40_⟩ : IsSl [0] (a_.eval (.tmp 40)) w_ := st.dep 16 _ 40 rfl rfl (by kernel_rfl)
      skip
      exact op_call Try.func11 (by kernel_rfl) rfl #[.slice A40_ _ c40_] (wanted_some rfl (st.yields 11 _ 35 rfl rfl (of_decide_eq_true (by kernel_rfl)) true e35)) rfl (by simp [e35, e40]) (loc2 (n := 1) h40_ (by simp))
    · intro a_ w_ st
      have e35 : a_.eval (.tmp 35) = .bool true := st.dep 11 _ 35 rfl rfl (by kernel_rfl)
      have e6 : a_.eval (.tmp 6) = .slice (some ⟨b1 + 1 + 1, 0, none⟩) 4 4 := st.slot 6 (by kernel_rfl)
      exact op_yield (.slice (some ⟨b1 + 1 + 1, 0, none⟩) 4 4) (wanted_some rfl (st.yields 11 _ 35 rfl rfl (of_decide_eq_true (by kernel_rfl)) true e35)) (by simp only [execOp, e35, e6]; rfl) rfl
    · intro a_ w_ st
      have e35 : a_.eval (.tmp 35) = .bool true := st.dep 11 _ 35 rfl rfl (by kernel_rfl)
      have e0 : a_.eval (.tmp 0) = .int .i64 2 := st.slot 0 (by kernel_rfl)
      exact op_yield (.int .i64 2) (wanted_some rfl (st.yields 11 _ 35 rfl rfl (of_decide_eq_true (by kernel_rfl)) true e35)) (by simp only [execOp, e35, e0]; rfl) rfl
    · intro a_ w_ st
      have e35 : a_.eval (.tmp 35) = .bool true := st.dep 11 _ 35 rfl rfl (by kernel_rfl)
      have e42 : a_.eval (.tmp 42) = .slice (some ⟨b1 + 1 + 1, 0, none⟩) 4 4 := st.dep 18 _ 42 rfl rfl (by kernel_rfl)
      have e43 : a_.eval (.tmp 43) = .int .i64 2 := st.dep 19 _ 43 rfl rfl (by kernel_rfl)
      exact op_yield (.pointer (some ⟨b1 + 1 + 1, 2, none⟩)) (wanted_some rfl (st.yields 11 _ 35 rfl rfl (of_decide_eq_true (by kernel_rfl)) true e35)) (by simp only [execOp, e35, e42, e43]; go_simp) rfl
    · intro a_ w_ st
      have e35 : a_.eval (.tmp 35) = .bool true := st.dep 11 _ 35 rfl rfl (by kernel_rfl)
      have e44 : a_.eval (.tmp 44) = .pointer (some ⟨b1 + 1 + 1, 2, none⟩) := st.dep 20 _ 44 rfl rfl (by kernel_rfl)
      have l_ := FT w_ st.below
      exact op_yield (.int .u32 3523407757) (wanted_some rfl (st.yields 11 _ 35 rfl rfl (of_decide_eq_true (by kernel_rfl)) true e35)) (by simp only [execOp, e35, e44]; go_simp) rfl
    · intro a_ w_ st
      have e35 : a_.eval (.tmp 35) = .bool true := st.dep 11 _ 35 rfl rfl (by kernel_rfl)
      have e41 : a_.eval (.tmp 41) = .int .u32 3523407757 := st.dep 17 _ 41 rfl rfl (by kernel_rfl)
      have e45 : a_.eval (.tmp 45) = .int .u32 3523407757 := st.dep 21 _ 45 rfl rfl (by kernel_rfl)
      exact op_yield (.bool true) (wanted_some rfl (st.yields 11 _ 35 rfl rfl (of_decide_eq_true (by kernel_rfl)) true e35)) (by simp only [execOp, e35, e41, e45]; go_simp) rfl
    · intro a_ w_ st
      have e35 : a_.eval (.tmp 35) = .bool true := st.dep 11 _ 35 rfl rfl (by kernel_rfl)
      have e46 : a_.eval (.tmp 46) = .bool true := st.dep 22 _ 46 rfl rfl (by kernel_rfl)
      exact op_yield (.bool true) (wanted_none rfl _) (by simp only [execOp, e35, e46]; rfl) rfl
    · intro a_ w_ st
      have e47 : a_.eval (.tmp 47) = .bool true := st.dep 23 _ 47 rfl rfl (by kernel_rfl)
      exact op_yield (.bool true) (wanted_none rfl _) (by simp only [execOp, e47]; rfl) rfl
  · intro a_ w_ st
    go_step
    go_step
    refine wp_ret ?_
    exact ⟨st.defers, _, results_tmp rfl _ _ _, ⟨by rw [show a_.tmps.getD 2 undef = .bool true from st.val 24 _ 2 rfl trivial rfl], below_step HB2.out st.below⟩⟩

theorem sh3 : shortN [97] = 33527 := by kernel_rfl
theorem lo3 : longN [97] = 3904355907 := by kernel_rfl
theorem by3 : bytesOf { data := #[97] } = [97] := by decide +kernel
theorem bd3 : ∀ x ∈ ([97] : List Int), 0 ≤ x ∧ x ≤ 255 := by decide
theorem shc3 {A : Option Addr} {n c : Nat} {w : World} (h : Rds (Kd.int .u8) w A n c [97]) (hn : n ≤ 9223372036854775807) : Calls Try.prog 10 #[.slice A n c] w fun e w' => ∃ v, e = .returned v ∧ Below w.heap.size w w' ∧ v = .int .u16 33527 := by
  have := short_ok A n c _ w h bd3 hn
  rw [sh3] at this
  exact this.mono fun e w' ⟨he, hw⟩ => ⟨_, he, hw ▸ Below.refl _ _, rfl⟩
theorem loc3 {A : Option Addr} {n c : Nat} {w : World} (h : Rds (Kd.int .u8) w A n c [97]) (hn : n ≤ 9223372036854775807) : Calls Try.prog 11 #[.slice A n c] w fun e w' => ∃ v, e = .returned v ∧ Below w.heap.size w w' ∧ v = .int .u32 3904355907 := by
  have := long_ok A n c _ w h bd3 hn
  rw [lo3] at this
  exact this.mono fun e w' ⟨he, hw⟩ => ⟨_, he, hw ▸ Below.refl _ _, rfl⟩
set_option maxHeartbeats 8000000 in
set_option maxRecDepth 100000 in
theorem known3 (w : World) : Calls Try.prog 4 #[.int .i64 3] w fun e w' => e = .returned (.bool true) ∧ Below w.heap.size w w' := by
  go_enter Try.func4, Try.ntmps4
  go_wp2_with (first
      | (go_at_call 9; (with_reducible refine (alive_ok _).mono ?_); rintro e w1 ⟨rfl, hb1⟩; have HB1 := Aside0.mk hb1; clear hb1))
  have YL : Ob (((w1.alloc (.cells #[.string { data := #[49, 50, 51, 52, 53, 54, 55, 56, 57] }, .string { data := #[] }, .string { data := #[0] }, .string { data := #[97] }] 9)).alloc (.cells #[.int .u16 36974, .int .u16 0, .int .u16 61560, .int .u16 33527] 24)).alloc (.cells #[.int .u32 3421780262, .int .u32 0, .int .u32 3523407757, .int .u32 3904355907] 26)) w1.heap.size 9 [.string { data := #[49, 50, 51, 52, 53, 54, 55, 56, 57] }, .string { data := #[] }, .string { data := #[0] }, .string { data := #[97] }] := ((Ob.new w1 9 [.string { data := #[49, 50, 51, 52, 53, 54, 55, 56, 57] }, .string { data := #[] }, .string { data := #[0] }, .string { data := #[97] }]).alloc _).alloc _
  have YS : Ob (((w1.alloc (.cells #[.string { data := #[49, 50, 51, 52, 53, 54, 55, 56, 57] }, .string { data := #[] }, .string { data := #[0] }, .string { data := #[97] }] 9)).alloc (.cells #[.int .u16 36974, .int .u16 0, .int .u16 61560, .int .u16 33527] 24)).alloc (.cells #[.int .u32 3421780262, .int .u32 0, .int .u32 3523407757, .int .u32 3904355907] 26)) (w1.heap.size + 1) 24 [.int .u16 36974, .int .u16 0, .int .u16 61560, .int .u16 33527] := by
    have := (Ob.new (w1.alloc (.cells #[.string { data := #[49, 50, 51, 52, 53, 54, 55, 56, 57] }, .string { data := #[] }, .string { data := #[0] }, .string { data := #[97] }] 9)) 24 [.int .u16 36974, .int .u16 0, .int .u16 61560, .int .u16 33527]).alloc (.cells #[.int .u32 3421780262, .int .u32 0, .int .u32 3523407757, .int .u32 3904355907] 26)
    rwa [show (w1.alloc (.cells #[.string { data := #[49, 50, 51, 52, 53, 54, 55, 56, 57] }, .string { data := #[] }, .string { data := #[0] }, .string { data := #[97] }] 9)).heap.size = w1.heap.size + 1 by simp] at this
  have YT : Ob (((w1.alloc (.cells #[.string { data := #[49, 50, 51, 52, 53, 54, 55, 56, 57] }, .string { data := #[] }, .string { data := #[0] }, .string { data := #[97] }] 9)).alloc (.cells #[.int .u16 36974, .int .u16 0, .int .u16 61560, .int .u16 33527] 24)).alloc (.cells #[.int .u32 3421780262, .int .u32 0, .int .u32 3523407757, .int .u32 3904355907] 26)) (w1.heap.size + 1 + 1) 26 [.int .u32 3421780262, .int .u32 0, .int .u32 3523407757, .int .u32 3904355907] := by
    have := Ob.new ((w1.alloc (.cells #[.string { data := #[49, 50, 51, 52, 53, 54, 55, 56, 57] }, .string { data := #[] }, .string { data := #[0] }, .string { data := #[97] }] 9)).alloc (.cells #[.int .u16 36974, .int .u16 0, .int .u16 61560, .int .u16 33527] 24)) 26 [.int .u32 3421780262, .int .u32 0, .int .u32 3523407757, .int .u32 3904355907]
    rwa [show ((w1.alloc (.cells #[.string { data := #[49, 50, 51, 52, 53, 54, 55, 56, 57] }, .string { data := #[] }, .string { data := #[0] }, .string { data := #[97] }] 9)).alloc (.cells #[.int .u16 36974, .int .u16 0, .int .u16 61560, .int .u16 33527] 24)).heap.size = w1.heap.size + 1 + 1 by simp] at this
  have HB2 := Aside0.mk (below_alloc (below_alloc (below_alloc HB1.out (.cells #[.string { data := #[49, 50, 51, 52, 53, 54, 55, 56, 57] }, .string { data := #[] }, .string { data := #[0] }, .string { data := #[97] }] 9)) (.cells #[.int .u16 36974, .int .u16 0, .int .u16 61560, .int .u16 33527] 24)) (.cells #[.int .u32 3421780262, .int .u32 0, .int .u32 3523407757, .int .u32 3904355907] 26))
  generalize (((w1.alloc (.cells #[.string { data := #[49, 50, 51, 52, 53, 54, 55, 56, 57] }, .string { data := #[] }, .string { data := #[0] }, .string { data := #[97] }] 9)).alloc (.cells #[.int .u16 36974, .int .u16 0, .int .u16 61560, .int .u16 33527] 24)).alloc (.cells #[.int .u32 3421780262, .int .u32 0, .int .u32 3523407757, .int .u32 3904355907] 26)) = w2 at YL YS YT HB2 ⊢
  have FL : ∀ w', Below w2.heap.size w2 w' → w'.cell? ⟨w1.heap.size, 3, none⟩ = some (.string { data := #[97] }) := fun w' hb => (YL.below hb).at_ 3 rfl
  have FS : ∀ w', Below w2.heap.size w2 w' → w'.cell? ⟨w1.heap.size + 1, 3, none⟩ = some (.int .u16 33527) := fun w' hb => (YS.below hb).at_ 3 rfl
  have FT : ∀ w', Below w2.heap.size w2 w' → w'.cell? ⟨w1.heap.size + 1 + 1, 3, none⟩ = some (.int .u32 3904355907) := fun w' hb => (YT.below hb).at_ 3 rfl
  generalize w1.heap.size = b1 at FL FS FT ⊢
  clear YL YS YT
  refine region_each (VT (fun i => match i with | 0 => .slice (some ⟨b1, 0, none⟩) 4 4 | 1 => .int .i64 3 | 2 => .pointer (some ⟨b1, 3, none⟩) | 3 => .string { data := #[97] } | 5 => .int .u16 33527 | 6 => .slice (some ⟨b1 + 1, 0, none⟩) 4 4 | 7 => .int .i64 3 | 8 => .pointer (some ⟨b1 + 1, 3, none⟩) | 9 => .int .u16 33527 | 10 => .bool true | 11 => .bool true | 12 => .slice (some ⟨b1, 0, none⟩) 4 4 | 13 => .int .i64 3 | 14 => .pointer (some ⟨b1, 3, none⟩) | 15 => .string { data := #[97] } | 17 => .int .u32 3904355907 | 18 => .slice (some ⟨b1 + 1 + 1, 0, none⟩) 4 4 | 19 => .int .i64 3 | 20 => .pointer (some ⟨b1 + 1 + 1, 3, none⟩) | 21 => .int .u32 3904355907 | 22 => .bool true | 23 => .bool true | 24 => .bool true | _ => undef) [(4, [97]), (16, [97])]) (by kernel_rfl) (by kernel_rfl) (VT_stable _ _) ?_ ?_
  · refine ⟨?_, ?_, ?_, ?_, ?_, ?_, ?_, ?_, ?_, ?_, ?_, ?_, ?_, ?_, ?_, ?_, ?_, ?_, ?_, ?_, ?_, ?_, ?_, ?_, ?_, trivial⟩
    · intro a_ w_ st
      have e4 : a_.eval (.tmp 4) = .slice (some ⟨b1, 0, none⟩) 4 4 := st.slot 4 (by kernel_rfl)
      exact op_yield (.slice (some ⟨b1, 0, none⟩) 4 4) (wanted_none rfl _) (by simp only [execOp, e4]; rfl) rfl
    · intro a_ w_ st
      have e0 : a_.eval (.tmp 0) = .int .i64 3 := st.slot 0 (by kernel_rfl)
      exact op_yield (.int .i64 3) (wanted_none rfl _) (by simp only [execOp, e0]; rfl) rfl
    · intro a_ w_ st
      have e24 : a_.eval (.tmp 24) = .slice (some ⟨b1, 0, none⟩) 4 4 := st.dep 0 _ 24 rfl rfl (by kernel_rfl)
      have e25 : a_.eval (.tmp 25) = .int .i64 3 := st.dep 1 _ 25 rfl rfl (by kernel_rfl)
      exact op_yield (.pointer (some ⟨b1, 3, none⟩)) (wanted_none rfl _) (by simp only [execOp, e24, e25]; go_simp) rfl
    · intro a_ w_ st
      have e26 : a_.eval (.tmp 26) = .pointer (some ⟨b1, 3, none⟩) := st.dep 2 _ 26 rfl rfl (by kernel_rfl)
      have l_ := FL w_ st.below
      exact op_yield (.string { data := #[97] }) (wanted_none rfl _) (by simp only [execOp, e26]; go_simp) rfl
    · intro a_ w_ st
      have e27 : a_.eval (.tmp 27) = .string { data := #[97] } := st.dep 3 _ 27 rfl rfl (by kernel_rfl)
      exact op_bytes (.tmp 27) (wanted_none rfl _) rfl e27 by3 (by decide) (fun _ _ h => h)
    · intro a_ w_ st
      obtain ⟨A28_, c28_, e28, h28_⟩ : IsSl [97] (a_.eval (.tmp 28)) w_ := st.dep 4 _ 28 rfl rfl (by kernel_rfl)
      skip
      exact op_call Try.func10 (by kernel_rfl) rfl #[.slice A28_ _ c28_] (wanted_none rfl _) rfl (by simp [e28]) (shc3 (n := 1) h28_ (by simp))
    · intro a_ w_ st
      have e5 : a_.eval (.tmp 5) = .slice (some ⟨b1 + 1, 0, none⟩) 4 4 := st.slot 5 (by kernel_rfl)
      exact op_yield (.slice (some ⟨b1 + 1, 0, none⟩) 4 4) (wanted_none rfl _) (by simp only [execOp, e5]; rfl) rfl
    · intro a_ w_ st
      have e0 : a_.eval (.tmp 0) = .int .i64 3 := st.slot 0 (by kernel_rfl)
      exact op_yield (.int .i64 3) (wanted_none rfl _) (by simp only [execOp, e0]; rfl) rfl
    · intro a_ w_ st
      have e30 : a_.eval (.tmp 30) = .slice (some ⟨b1 + 1, 0, none⟩) 4 4 := st.dep 6 _ 30 rfl rfl (by kernel_rfl)
      have e31 : a_.eval (.tmp 31) = .int .i64 3 := st.dep 7 _ 31 rfl rfl (by kernel_rfl)
      exact op_yield (.pointer (some ⟨b1 + 1, 3, none⟩)) (wanted_none rfl _) (by simp only [execOp, e30, e31]; go_simp) rfl
    · intro a_ w_ st
      have e32 : a_.eval (.tmp 32) = .pointer (some ⟨b1 + 1, 3, none⟩) := st.dep 8 _ 32 rfl rfl (by kernel_rfl)
      have l_ := FS w_ st.below
      exact op_yield (.int .u16 33527) (wanted_none rfl _) (by simp only [execOp, e32]; go_simp) rfl
    · intro a_ w_ st
      have e29 : a_.eval (.tmp 29) = .int .u16 33527 := st.dep 5 _ 29 rfl rfl (by kernel_rfl)
      have e33 : a_.eval (.tmp 33) = .int .u16 33527 := st.dep 9 _ 33 rfl rfl (by kernel_rfl)
      exact op_yield (.bool true) (wanted_none rfl _) (by simp only [execOp, e29, e33]; go_simp) rfl
    · intro a_ w_ st
      have e34 : a_.eval (.tmp 34) = .bool true := st.dep 10 _ 34 rfl rfl (by kernel_rfl)
      exact op_yield (.bool true) (wanted_none rfl _) (by simp only [execOp, e34]; rfl) rfl
    · intro a_ w_ st
      have e35 : a_.eval (.tmp 35) = .bool true := st.dep 11 _ 35 rfl rfl (by kernel_rfl)
      have e4 : a_.eval (.tmp 4) = .slice (some ⟨b1, 0, none⟩) 4 4 := st.slot 4 (by kernel_rfl)
      exact op_yield (.slice (some ⟨b1, 0, none⟩) 4 4) (wanted_some rfl (st.yields 11 _ 35 rfl rfl (of_decide_eq_true (by kernel_rfl)) true e35)) (by simp only [execOp, e35, e4]; rfl) rfl
    · intro a_ w_ st
      have e35 : a_.eval (.tmp 35) = .bool true := st.dep 11 _ 35 rfl rfl (by kernel_rfl)
      have e0 : a_.eval (.tmp 0) = .int .i64 3 := st.slot 0 (by kernel_rfl)
      exact op_yield (.int .i64 3) (wanted_some rfl (st.yields 11 _ 35 rfl rfl (of_decide_eq_true (by kernel_rfl)) true e35)) (by simp only [execOp, e35, e0]; rfl) rfl
    · intro a_ w_ st
      have e35 : a_.eval (.tmp 35) = .bool true := st.dep 11 _ 35 rfl rfl (by kernel_rfl)
      have e36 : a_.eval (.tmp 36) = .slice (some ⟨b1, 0, none⟩) 4 4 := st.dep 12 _ 36 rfl rfl (by kernel_rfl)
      have e37 : a_.eval (.tmp 37) = .int .i64 3 := st.dep 13 _ 37 rfl rfl (by kernel_rfl)
      exact op_yield (.pointer (some ⟨b1, 3, none⟩)) (wanted_some rfl (st.yields 11 _ 35 rfl rfl (of_decide_eq_true (by kernel_rfl)) true e35)) (by simp only [execOp, e35, e36, e37]; go_simp) rfl
    · intro a_ w_ st
      have e35 : a_.eval (.tmp 35) = .bool true := st.dep 11 _ 35 rfl rfl (by kernel_rfl)
      have e38 : a_.eval (.tmp 38) = .pointer (some ⟨b1, 3, none⟩) := st.dep 14 _ 38 rfl rfl (by kernel_rfl)
      have l_ := FL w_ st.below
      exact op_yield (.string { data := #[97] }) (wanted_some rfl (st.yields 11 _ 35 rfl rfl (of_decide_eq_true (by kernel_rfl)) true e35)) (by simp only [execOp, e35, e38]; go_simp) rfl
    · intro a_ w_ st
      have e35 : a_.eval (.tmp 35) = .bool true := st.dep 11 _ 35 rfl rfl (by kernel_rfl)
      have e39 : a_.eval (.tmp 39) = .string { data := #[97] } := st.dep 15 _ 39 rfl rfl (by kernel_rfl)
      exact op_bytes (.tmp 39) (wanted_some rfl (st.yields 11 _ 35 rfl rfl (of_decide_eq_true (by kernel_rfl)) true e35)) rfl e39 by3 (by decide) (fun _ _ h => h)
    · intro a_ w_ st
      have e35 : a_.eval (.tmp 35) = .bool true := st.dep 11 _ 35 rfl rfl (by kernel_rfl)
      obtain ⟨A40_, c40_, e40, h40_⟩ : IsSl [97] (a_.eval (.tmp 40)) w_ := st.dep 16 _ 40 rfl rfl (by kernel_rfl)
      skip
      exact op_call Try.func11 (by kernel_rfl) rfl #[.slice A40_ _ c40_] (wanted_some rfl (st.yields 11 _ 35 rfl rfl (of_decide_eq_true (by kernel_rfl)) true e35)) rfl (by simp [e35, e40]) (loc3 (n := 1) h40_ (by simp))
    · intro a_ w_ st
      have e35 : a_.eval (.tmp 35) = .bool true := st.dep 11 _ 35 rfl rfl (by kernel_rfl)
      have e6 : a_.eval (.tmp 6) = .slice (some ⟨b1 + 1 + 1, 0, none⟩) 4 4 := st.slot 6 (by kernel_rfl)
      exact op_yield (.slice (some ⟨b1 + 1 + 1, 0, none⟩) 4 4) (wanted_some rfl (st.yields 11 _ 35 rfl rfl (of_decide_eq_true (by kernel_rfl)) true e35)) (by simp only [execOp, e35, e6]; rfl) rfl
    · intro a_ w_ st
      have e35 : a_.eval (.tmp 35) = .bool true := st.dep 11 _ 35 rfl rfl (by kernel_rfl)
      have e0 : a_.eval (.tmp 0) = .int .i64 3 := st.slot 0 (by kernel_rfl)
      exact op_yield (.int .i64 3) (wanted_some rfl (st.yields 11 _ 35 rfl rfl (of_decide_eq_true (by kernel_rfl)) true e35)) (by simp only [execOp, e35, e0]; rfl) rfl
    · intro a_ w_ st
      have e35 : a_.eval (.tmp 35) = .bool true := st.dep 11 _ 35 rfl rfl (by kernel_rfl)
      have e42 : a_.eval (.tmp 42) = .slice (some ⟨b1 + 1 + 1, 0, none⟩) 4 4 := st.dep 18 _ 42 rfl rfl (by kernel_rfl)
      have e43 : a_.eval (.tmp 43) = .int .i64 3 := st.dep 19 _ 43 rfl rfl (by kernel_rfl)
      exact op_yield (.pointer (some ⟨b1 + 1 + 1, 3, none⟩)) (wanted_some rfl (st.yields 11 _ 35 rfl rfl (of_decide_eq_true (by kernel_rfl)) true e35)) (by simp only [execOp, e35, e42, e43]; go_simp) rfl
    · intro a_ w_ st
      have e35 : a_.eval (.tmp 35) = .bool true := st.dep 11 _ 35 rfl rfl (by kernel_rfl)
      have e44 : a_.eval (.tmp 44) = .pointer (some ⟨b1 + 1 + 1, 3, none⟩) := st.dep 20 _ 44 rfl rfl (by kernel_rfl)
      have l_ := FT w_ st.below
      exact op_yield (.int .u32 3904355907) (wanted_some rfl (st.yields 11 _ 35 rfl rfl (of_decide_eq_true (by kernel_rfl)) true e35)) (by simp only [execOp, e35, e44]; go_simp) rfl
    · intro a_ w_ st
      have e35 : a_.eval (.tmp 35) = .bool true := st.dep 11 _ 35 rfl rfl (by kernel_rfl)
      have e41 : a_.eval (.tmp 41) = .int .u32 3904355907 := st.dep 17 _ 41 rfl rfl (by kernel_rfl)
      have e45 : a_.eval (.tmp 45) = .int .u32 3904355907 := st.dep 21 _ 45 rfl rfl (by kernel_rfl)
      exact op_yield (.bool true) (wanted_some rfl (st.yields 11 _ 35 rfl rfl (of_decide_eq_true (by kernel_rfl)) true e35)) (by simp only [execOp, e35, e41, e45]; go_simp) rfl
    · intro a_ w_ st
      have e35 : a_.eval (.tmp 35) = .bool true := st.dep 11 _ 35 rfl rfl (by kernel_rfl)
      have e46 : a_.eval (.tmp 46) = .bool true := st.dep 22 _ 46 rfl rfl (by kernel_rfl)
      exact op_yield (.bool true) (wanted_none rfl _) (by simp only [execOp, e35, e46]; rfl) rfl
    · intro a_ w_ st
      have e47 : a_.eval (.tmp 47) = .bool true := st.dep 23 _ 47 rfl rfl (by kernel_rfl)
      exact op_yield (.bool true) (wanted_none rfl _) (by simp only [execOp, e47]; rfl) rfl
  · intro a_ w_ st
    go_step
    go_step
    refine wp_ret ?_
    exact ⟨st.defers, _, results_tmp rfl _ _ _, ⟨by rw [show a_.tmps.getD 2 undef = .bool true from st.val 24 _ 2 rfl trivial rfl], below_step HB2.out st.below⟩⟩

set_option maxHeartbeats 8000000 in
set_option maxRecDepth 100000 in
theorem known_out (a : Int) (w : World) (h : a < 0 ∨ 4 ≤ a) : Calls Try.prog 4 #[.int .i64 a] w fun e w' => e = .returned (.bool true) ∧ Below w.heap.size w w' := by
  rcases h with h | h
  all_goals
    go_enter Try.func4, Try.ntmps4
    go_wp2_with (first
      | (go_at_call 9; (with_reducible refine (alive_ok _).mono ?_); rintro e w1 ⟨rfl, hb1⟩; have HB1 := Aside0.mk hb1; clear hb1))
    go_ret
    exact ⟨rfl, below_alloc (below_alloc (below_alloc HB1.out _) _) _⟩
theorem walk (a : Int) (W : World) (_h : (Lit.int .i64 a).wf = true) : Calls Try.prog 4 #[.int .i64 a] W fun e w' => e = .returned (.bool true) ∧ Below W.heap.size W w' := by
  by_cases h : a < 0 ∨ 4 ≤ a
  · exact known_out a W h
  · have hc : a = 0 ∨ a = 1 ∨ a = 2 ∨ a = 3 := by omega
    rcases hc with rfl | rfl | rfl | rfl
    · exact known0 W
    · exact known1 W
    · exact known2 W
    · exact known3 W

end Go.Proofs.Ytpfblfepgppinaa.FcKnownW
