/- Contracts of Short, Long and the example. -/
import Derived.Test.YtlcemeligolabaaFcA
import Derived.Lib.SlBytesConst
namespace Go.Proofs.Ytlcemeligolabaa.FcB
open Go.RowKit Go.Proofs.YtlcemeligolabaaW.PrintWords Go.Proofs.YtlcemeligolabaaW.PrintLast Go.Proofs.YtlcemeligolabaaW.PrintMore Go.Proofs.Ytlcemeligolabaa.K Go.Proofs.Ytlcemeligolabaa.FcP Go.Proofs.Ytlcemeligolabaa.FcA
set_option linter.unusedVariables false
set_option linter.unusedSimpArgs false
attribute [local go_sem] max2_int min2_int max_two min_two

def shortN (l : List Int) : Nat := sumN 33800 16 (nat l)
def longN (l : List Int) : Nat := sumN 3988292384 32 (nat l)
theorem shortN_lt (l : List Int) : shortN l < 65536 := sumN_lt 33800 16 (nat l)
theorem longN_lt (l : List Int) : longN l < 4294967296 := sumN_lt 3988292384 32 (nat l)
set_option maxHeartbeats 8000000 in
set_option maxRecDepth 100000 in
theorem short_ok (A : Option Addr) (n c : Nat) (l : List Int) (w : World) (hr : Rds (Kd.int .u8) w A n c l) (hl : ∀ x ∈ l, 0 ≤ x ∧ x ≤ 255) (hn : n ≤ 9223372036854775807) :
    Calls Try.prog 37 #[.slice A n c] w fun e w' => e = .returned (.int .u16 ((shortN l : Nat) : Int)) ∧ w = w' := by
  have HR := Aside0.mk hr
  have HL := Aside0.mk hl
  have hy := feed_lt 33800 16 (by decide) (by decide) (nat l) 65535 (by decide) (nat_lt hl)
  have e1 : IntKind.u16.wrap ((com 32 (feed 33800 65535 (nat l)) : Nat) : Int) = ((shortN l : Nat) : Int) := by
    rw [u16_w]
    unfold shortN sumN com
    rw [show feed 33800 (2 ^ 16 - 1) (nat l) = feed 33800 65535 (nat l) from rfl]
    generalize feed 33800 65535 (nat l) = y at hy
    simp only [show (2 : Nat) ^ 32 = 4294967296 from rfl, show (2 : Nat) ^ 16 = 65536 from rfl] at *
    omega
  clear hr hl hy
  go_enter Try.func37, Try.ntmps37
  go_wp2_with (first | (go_at_call 40; have hcall : Calls Try.prog 40 #[.slice A n c, .int .u32 65535, .int .u32 33800] w fun e w' => e = .returned (.int .u32 ((com 32 (feed 33800 65535 (nat l)) : Nat) : Int)) ∧ w = w' := sum_ok A n c 65535 33800 l w HR.out HL.out hn (by decide) (by decide); (with_reducible refine hcall.mono ?_); clear hcall; rintro e w' ⟨rfl, rfl⟩))
  go_ret
  exact ⟨rfl, rfl⟩
set_option maxHeartbeats 8000000 in
set_option maxRecDepth 100000 in
theorem long_ok (A : Option Addr) (n c : Nat) (l : List Int) (w : World) (hr : Rds (Kd.int .u8) w A n c l) (hl : ∀ x ∈ l, 0 ≤ x ∧ x ≤ 255) (hn : n ≤ 9223372036854775807) :
    Calls Try.prog 38 #[.slice A n c] w fun e w' => e = .returned (.int .u32 ((longN l : Nat) : Int)) ∧ w = w' := by
  have HR := Aside0.mk hr
  have HL := Aside0.mk hl
  clear hr hl
  go_enter Try.func38, Try.ntmps38
  go_wp2_with (first | (go_at_call 40; have hcall : Calls Try.prog 40 #[.slice A n c, .int .u32 4294967295, .int .u32 3988292384] w fun e w' => e = .returned (.int .u32 ((longN l : Nat) : Int)) ∧ w = w' := sum_ok A n c 4294967295 3988292384 l w HR.out HL.out hn (by decide) (by decide); (with_reducible refine hcall.mono ?_); clear hcall; rintro e w' ⟨rfl, rfl⟩))
  go_ret
  exact ⟨rfl, rfl⟩
theorem rds_lit (w : World) (e : TypeId) (fr : Nat × Nat) (xs : List Int) (n : Nat) (hn : xs.length = n) (hm : n ≤ 9223372036854775807) : Rds (Kd.int .u8) (w.alloc (.cells (xs.map (Value.int .u8)).toArray e fr)) (some ⟨w.heap.size, 0, none⟩) n n xs := by
  subst hn
  refine ⟨⟨rfl, hm, fun _ => ⟨_, rfl, fun j p hj => ⟨[.int .u8 p], rfl, rfl, fun i u hu => ?_⟩⟩⟩, rfl, Nat.le_refl _⟩
  have hb : (w.alloc (.cells (xs.map (Value.int .u8)).toArray e fr)).heap[w.heap.size]? = some (.cells (xs.map (Value.int .u8)).toArray e fr) := heap_alloc_new w _
  cases i with
  | zero =>
    simp at hu
    subst hu
    rw [add_at]
    simp only [World.cell?]
    rw [Nat.zero_add, show j * (Kd.int .u8).sz + 0 = j from Nat.mul_one j, hb]
    simp [hj]
  | succ i => simp at hu
def nine : List Int := [49, 50, 51, 52, 53, 54, 55, 56, 57]
theorem nine_b : ∀ x ∈ nine, 0 ≤ x ∧ x ≤ 255 := by decide
theorem nine_s : shortN nine = 36974 := by kernel_rfl
theorem nine_l : longN nine = 3421780262 := by kernel_rfl
theorem short_nine (w : World) : Calls Try.prog 37 #[.slice (some ⟨w.heap.size, 0, none⟩) 9 9] (w.alloc (.cells #[.int .u8 49, .int .u8 50, .int .u8 51, .int .u8 52, .int .u8 53, .int .u8 54, .int .u8 55, .int .u8 56, .int .u8 57] 5 (9, 10))) fun e w' => e = .returned (.int .u16 36974) ∧ w.alloc (.cells #[.int .u8 49, .int .u8 50, .int .u8 51, .int .u8 52, .int .u8 53, .int .u8 54, .int .u8 55, .int .u8 56, .int .u8 57] 5 (9, 10)) = w' := by
  have h := short_ok _ 9 9 nine _ (rds_lit w 5 (9, 10) nine 9 rfl (by decide)) nine_b (by decide)
  rw [nine_s] at h
  exact h
theorem long_nine (w : World) : Calls Try.prog 38 #[.slice (some ⟨w.heap.size, 0, none⟩) 9 9] (w.alloc (.cells #[.int .u8 49, .int .u8 50, .int .u8 51, .int .u8 52, .int .u8 53, .int .u8 54, .int .u8 55, .int .u8 56, .int .u8 57] 5 (9, 10))) fun e w' => e = .returned (.int .u32 3421780262) ∧ w.alloc (.cells #[.int .u8 49, .int .u8 50, .int .u8 51, .int .u8 52, .int .u8 53, .int .u8 54, .int .u8 55, .int .u8 56, .int .u8 57] 5 (9, 10)) = w' := by
  have h := long_ok _ 9 9 nine _ (rds_lit w 5 (9, 10) nine 9 rfl (by decide)) nine_b (by decide)
  rw [nine_l] at h
  exact h
theorem long_nine2 (w : World) (X : Obj) : Calls Try.prog 38 #[.slice (some ⟨w.heap.size + 1, 0, none⟩) 9 9] ((w.alloc X).alloc (.cells #[.int .u8 49, .int .u8 50, .int .u8 51, .int .u8 52, .int .u8 53, .int .u8 54, .int .u8 55, .int .u8 56, .int .u8 57] 5 (9, 10))) fun e w' => e = .returned (.int .u32 3421780262) ∧ (w.alloc X).alloc (.cells #[.int .u8 49, .int .u8 50, .int .u8 51, .int .u8 52, .int .u8 53, .int .u8 54, .int .u8 55, .int .u8 56, .int .u8 57] 5 (9, 10)) = w' := by
  have h := long_nine (w.alloc X)
  rw [show (w.alloc X).heap.size = w.heap.size + 1 by simp] at h
  exact h
end Go.Proofs.Ytlcemeligolabaa.FcB
