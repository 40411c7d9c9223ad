/- Contracts of package ray: Row. -/
import Derived.Test.YtjhbomgfjffmdaaRay0
set_option linter.unusedVariables false
set_option linter.unusedSimpArgs false
namespace Go.Proofs.Ytjhbomgfjffmdaa
open Go.RowKit
/-- the boxes of Row's loop: the cell (block g), the walk (block h) -/
def RaySt (wr : World) (g h : Nat) (c : Cl) (m : Int) (A O : Cl) : Prop :=
  wr.cell? ⟨g, 0, none⟩ = some (.int .i64 c.x) ∧ wr.cell? ⟨g, 1, none⟩ = some (.int .i64 c.y) ∧ wr.frozen? ⟨g, 0, none⟩ = false ∧ wr.frozen? ⟨g, 1, none⟩ = false ∧
  wr.cell? ⟨h, 1, none⟩ = some (.int .i64 m) ∧ wr.cell? ⟨h, 2, none⟩ = some (.int .i64 A.x) ∧ wr.cell? ⟨h, 3, none⟩ = some (.int .i64 A.y) ∧ wr.cell? ⟨h, 4, none⟩ = some (.int .i64 O.x) ∧ wr.cell? ⟨h, 5, none⟩ = some (.int .i64 O.y)
def restI (n m k : Int) : Int := n + 2 * k * m - 2 * n * rayK n m k
theorem at_bd {a b : Cl} (ha : canP a) (hb : canP b) {k : Int} (h0 : 0 ≤ k) (h1 : k ≤ rayN a b) : -2000 ≤ (rayAt a b k).x ∧ (rayAt a b k).x ≤ 4000 ∧ -2000 ≤ (rayAt a b k).y ∧ (rayAt a b k).y ≤ 4000 := by
  have hbd := ray_bd a b ha hb
  obtain ⟨_, _, _, _⟩ := ha
  have hK : 0 ≤ rayK (rayN a b) (rayM a b) k ∧ rayK (rayN a b) (rayM a b) k ≤ 1023 := by
    rcases Int.lt_or_eq_of_le (show 0 ≤ rayN a b by omega) with h | h
    · have := K_bd (n := rayN a b) (m := rayM a b) (i := k) h (by omega) (by omega) h0 h1; omega
    · have : k = 0 := by omega
      subst this
      rw [K_zero (by omega)]; omega
  have s1 := mul_unit (k := k) (s := sg (b.x - a.x)) (K := 1023) h0 (by omega) (by rcases sg_or (b.x - a.x) with h | h <;> simp [h])
  have s2 := mul_unit (k := k) (s := sg (b.y - a.y)) (K := 1023) h0 (by omega) (by rcases sg_or (b.y - a.y) with h | h <;> simp [h])
  have s3 := mul_unit (s := sg (b.x - a.x)) (K := 1023) hK.1 hK.2 (by rcases sg_or (b.x - a.x) with h | h <;> simp [h])
  have s4 := mul_unit (s := sg (b.y - a.y)) (K := 1023) hK.1 hK.2 (by rcases sg_or (b.y - a.y) with h | h <;> simp [h])
  rw [Int.mul_comm] at s1 s2 s3 s4
  unfold rayAt
  by_cases h : steep a b
  · rw [if_pos h]; simp only; omega
  · rw [if_neg h]; simp only; omega
theorem unit_A (a b : Cl) : ((rayA a b).x = -1 ∨ (rayA a b).x = 0 ∨ (rayA a b).x = 1) ∧ ((rayA a b).y = -1 ∨ (rayA a b).y = 0 ∨ (rayA a b).y = 1) := by
  unfold rayA
  by_cases h : steep a b
  · rw [if_pos h]; refine ⟨.inr (.inl rfl), ?_⟩; rcases sg_or (b.y - a.y) with h | h <;> simp [h]
  · rw [if_neg h]; refine ⟨?_, .inr (.inl rfl)⟩; rcases sg_or (b.x - a.x) with h | h <;> simp [h]
theorem unit_O (a b : Cl) : ((rayO a b).x = -1 ∨ (rayO a b).x = 0 ∨ (rayO a b).x = 1) ∧ ((rayO a b).y = -1 ∨ (rayO a b).y = 0 ∨ (rayO a b).y = 1) := by
  unfold rayO
  by_cases h : steep a b
  · rw [if_pos h]; refine ⟨?_, .inr (.inl rfl)⟩; rcases sg_or (b.x - a.x) with h | h <;> simp [h]
  · rw [if_neg h]; refine ⟨.inr (.inl rfl), ?_⟩; rcases sg_or (b.y - a.y) with h | h <;> simp [h]
/-- one step of Row -/
theorem at_step {a b : Cl} {n m k : Int} {A O : Cl} (hn : rayN a b = n) (hm : rayM a b = m) (hA : rayA a b = A) (hO : rayO a b = O) (hn0 : 0 < n) (h0 : 0 ≤ m) (h1 : m ≤ n) :
    (2 * n ≤ restI n m k + 2 * m → rayAt a b (k + 1) = ⟨(rayAt a b k).x + A.x + O.x, (rayAt a b k).y + A.y + O.y⟩ ∧ restI n m (k + 1) = restI n m k + 2 * m - 2 * n) ∧
    (¬ 2 * n ≤ restI n m k + 2 * m → rayAt a b (k + 1) = ⟨(rayAt a b k).x + A.x, (rayAt a b k).y + A.y⟩ ∧ restI n m (k + 1) = restI n m k + 2 * m) := by
  have hs := K_step (i := k) hn0 h0 h1
  have e : 2 * (k + 1) * m = 2 * k * m + 2 * m := by rw [Int.mul_add, Int.add_mul]; omega
  have ea : ∀ u : Int, (k + 1) * u = k * u + u := fun u => by rw [Int.add_mul, Int.one_mul]
  rw [rayAt_eq, rayAt_eq, hn, hm, hA, hO]
  unfold restI
  constructor
  · intro hc
    rw [if_pos hc] at hs
    rw [hs, e, ea, ea]
    have eK : ∀ u : Int, (rayK n m k + 1) * u = rayK n m k * u + u := fun u => by rw [Int.add_mul, Int.one_mul]
    refine ⟨?_, by rw [Int.mul_add]; omega⟩
    rw [eK, eK]
    simp only [Cl.mk.injEq]
    omega
  · intro hc
    rw [if_neg hc] at hs
    rw [hs, e, ea, ea]
    refine ⟨?_, by omega⟩
    simp only [Cl.mk.injEq]
    omega
theorem rest_bd {n m k : Int} (hn : 0 < n) : 0 ≤ restI n m k ∧ restI n m k < 2 * n := K_rest hn
theorem at_zero (a b : Cl) (h : 0 ≤ rayN a b) : rayAt a b 0 = a := by
  rw [rayAt_eq, K_zero h]; simp

theorem Row_no (ax ay bx by_ : Int) (w : World) (h : ¬ (canP ⟨ax, ay⟩ ∧ canP ⟨bx, by_⟩)) :
    Calls Try.prog 13 #[.agg #[.int .i64 ax, .int .i64 ay], .agg #[.int .i64 bx, .int .i64 by_]] w fun r w' => r = .returned (.tuple #[.slice none 0 0, .int .i64 4]) ∧ Below w.heap.size w w' := by
  go_enter Try.func13, Try.ntmps13
  go_wp2_with (go_at_call 15; refine (Len_no _ _ _ _ _ h).mono ?_; rintro e w' ⟨rfl, qb⟩; obtain ⟨qc, qf, ql⟩ := rules qb (Nat.le_refl _); have qz0 := ql (w.heap.size) (by first | (simp; done) | assumption | omega | (simp; omega)); have qz1 := ql (w.heap.size + 1) (by first | (simp; done) | assumption | omega | (simp; omega)); clear ql)
  go_ret2
  exact ⟨rfl, (by repeat (first | with_reducible exact Below.refl _ _ | with_reducible assumption | with_reducible refine below_alloc ?_ _ | with_reducible refine below_draw ?_ | ((with_reducible apply bset); (focus (first | exact Nat.le_refl _ | (simp; done) | omega | (simp; omega)))) | ((with_reducible apply bcall); assumption; (focus (first | exact Nat.le_refl _ | (simp; done) | omega | (simp; omega))))))⟩

set_option maxRecDepth 100000 in
set_option maxHeartbeats 4000000 in
theorem Row_ok {ax ay bx by_ : Int} (N : Nat) (w : World) (h : Hid (canP ⟨ax, ay⟩ ∧ canP ⟨bx, by_⟩)) (hn : Hid (rayN ⟨ax, ay⟩ ⟨bx, by_⟩ = (N : Int))) :
    Calls Try.prog 13 #[.agg #[.int .i64 ax, .int .i64 ay], .agg #[.int .i64 bx, .int .i64 by_]] w fun r w' => ∃ v, r = .returned (.tuple #[v, .int .i64 0]) ∧ w'.ownsRow w.heap.size 23 2 v (N + 1) (ccells (rayRow ⟨ax, ay⟩ ⟨bx, by_⟩ (N + 1))) ∧ Below w.heap.size w w' := by
  have hbd := ray_bd ⟨ax, ay⟩ ⟨bx, by_⟩ h.out.1 h.out.2
  have hat := fun k => @at_bd _ _ h.out.1 h.out.2 k
  have h0 := at_zero ⟨ax, ay⟩ ⟨bx, by_⟩ (by omega)
  have huA := unit_A ⟨ax, ay⟩ ⟨bx, by_⟩
  have huO := unit_O ⟨ax, ay⟩ ⟨bx, by_⟩
  rw [hn.out] at hbd hat
  generalize hm : rayM ⟨ax, ay⟩ ⟨bx, by_⟩ = m at *
  generalize hA : rayA ⟨ax, ay⟩ ⟨bx, by_⟩ = A at *
  generalize hO : rayO ⟨ax, ay⟩ ⟨bx, by_⟩ = O at *
  have hstep := fun k => @at_step _ _ _ m k A O hn.out hm hA hO
  obtain ⟨b0, b1, b2⟩ := hbd
  have hm' := Lib.hid hm
  clear hm
  have hA' := Lib.hid hA
  clear hA
  have hO' := Lib.hid hO
  clear hO
  have hat' := Lib.hid hat
  clear hat
  have hstep' := Lib.hid hstep
  clear hstep
  have h0' := Lib.hid h0
  clear h0
  have huA' := Lib.hid huA
  clear huA
  have huO' := Lib.hid huO
  clear huO
  go_enter Try.func13, Try.ntmps13
  go_wp2_with fail
  refine (Len_ok _ h hn).mono ?_
  rintro e W1 ⟨rfl, q1b⟩
  obtain ⟨q1c, q1f, q1l⟩ := rules q1b (Nat.le_refl _); have q1z0 := q1l (w.heap.size) (by first | (simp; done) | assumption | omega | (simp; omega)); have q1z1 := q1l (w.heap.size + 1) (by first | (simp; done) | assumption | omega | (simp; omega))
  clear q1l
  go_wp2_with fail
  refine (of_eq _ h hn hm' hA' hO').mono ?_
  rintro e W2 ⟨rfl, q2b⟩
  obtain ⟨q2c, q2f, q2l⟩ := rules q2b (Nat.le_refl _); have q2z0 := q2l (w.heap.size) (by first | (simp; done) | assumption | omega | (simp; omega)); have q2z1 := q2l (w.heap.size + 1) (by first | (simp; done) | assumption | omega | (simp; omega))
  clear q2l
  go_wp2
  have l0 := World.ownsRow_lit (base := W2.heap.size + 1) (e := 23) (size := 2) (W2.alloc (.cells #[.int .i64 N, .int .i64 m, .int .i64 A.x, .int .i64 A.y, .int .i64 O.x, .int .i64 O.y] 82)) #[.int .i64 ax, .int .i64 ay] 1 (by simp) (by decide) rfl
  have s0 : RaySt ((W2.alloc (.cells #[.int .i64 N, .int .i64 m, .int .i64 A.x, .int .i64 A.y, .int .i64 O.x, .int .i64 O.y] 82)).alloc (.cells #[.int .i64 ax, .int .i64 ay] 23)) w.heap.size W2.heap.size (rayAt ⟨ax, ay⟩ ⟨bx, by_⟩ ((0 : Nat) : Int)) m A O := by
    rw [show rayAt ⟨ax, ay⟩ ⟨bx, by_⟩ ((0 : Nat) : Int) = ⟨ax, ay⟩ from h0'.out]
    unfold RaySt
    refine ⟨?_, ?_, ?_, ?_, ?_, ?_, ?_, ?_, ?_⟩ <;> (simp [go_sem, *]; done)
  have e0 : restI N m ((0 : Nat) : Int) = N := by
    unfold restI
    rw [show (((0 : Nat) : Int)) = 0 from rfl, K_zero (by omega)]; simp
  go_loopw [9, 10, 27] (fun v r q wr => ∃ (k : Nat) (V : Value), k ≤ N ∧ q = .int .i64 k ∧ r = .int .i64 (restI N m k) ∧ V = v ∧ wr.ownsRow (W2.heap.size + 1) 23 2 V (k + 1) (ccells (rayRow ⟨ax, ay⟩ ⟨bx, by_⟩ (k + 1))) ∧ RaySt wr w.heap.size W2.heap.size (rayAt ⟨ax, ay⟩ ⟨bx, by_⟩ k) m A O ∧ Below w.heap.size w wr ∧ W2.heap.size + 2 ≤ wr.heap.size) (fun _ _ q _ => N - (intOf q).toNat)
  case atStart => exact ⟨0, _, Nat.zero_le _, rfl, by rw [e0], rfl, by
    have e1 : rayRow ⟨ax, ay⟩ ⟨bx, by_⟩ (0 + 1) = [⟨ax, ay⟩] := by
      have : rayRow ⟨ax, ay⟩ ⟨bx, by_⟩ (0 + 1) = [rayAt ⟨ax, ay⟩ ⟨bx, by_⟩ ((0 : Nat) : Int)] := rfl
      rw [this, show rayAt ⟨ax, ay⟩ ⟨bx, by_⟩ ((0 : Nat) : Int) = ⟨ax, ay⟩ from h0'.out]
    rw [e1]
    have := l0
    simp only [World.size_alloc] at this
    exact this, s0, (by repeat (first | with_reducible exact Below.refl _ _ | with_reducible assumption | with_reducible refine below_alloc ?_ _ | with_reducible refine below_draw ?_ | ((with_reducible apply bset); (focus (first | exact Nat.le_refl _ | (simp; done) | omega | (simp; omega)))) | ((with_reducible apply bcall); assumption; (focus (first | exact Nat.le_refl _ | (simp; done) | omega | (simp; omega)))))), by simp⟩
  case round =>
    clear l0 s0 e0
    obtain ⟨k, V, hk, rfl, rfl, rfl, hq, hst, hw0, hqs⟩ := hrel
    by_cases hlt : k < N
    · obtain ⟨t0, t1, t2, t3, t4, t5, t6, t7, t8⟩ := hst
      obtain ⟨x0, x1, x2, x3⟩ := hat'.out (k : Int) (by omega) (by omega)
      obtain ⟨y1, y2⟩ := hstep'.out k (by omega) b0 b1
      obtain ⟨r0, r1⟩ := rest_bd (n := (N : Int)) (m := m) (k := (k : Int)) (by omega)
      obtain ⟨x4, x5⟩ := mul_unit (k := 1) (K := 1) (by omega) (by omega) huA'.out.1
      obtain ⟨x6, x7⟩ := mul_unit (k := 1) (K := 1) (by omega) (by omega) huA'.out.2
      obtain ⟨x8, x9⟩ := mul_unit (k := 1) (K := 1) (by omega) (by omega) huO'.out.1
      obtain ⟨xa, xb⟩ := mul_unit (k := 1) (K := 1) (by omega) (by omega) huO'.out.2
      have z0 : w.heap.size < W2.heap.size := by omega
      have z1 : w.heap.size < wr.heap.size := by omega
      have z2 : W2.heap.size < wr.heap.size := by omega
      have u1 := Lib.hid y1
      have u2 := Lib.hid y2
      clear y1 y2
      generalize restI N m k = rv at *
      generalize rayAt ⟨ax, ay⟩ ⟨bx, by_⟩ k = cv at *
      by_cases hc : 2 * (N : Int) ≤ rv + 2 * m
      · have hk1 := Lib.hid (u1.out hc).1
        have hk2 := Lib.hid (u1.out hc).2
        clear u1 u2
        go_wp2_with fail
        refine (plus_any _ _ _ _ _ _ (by omega) (by omega) (by omega) (by omega) (by omega) (by omega) (by omega) (by omega)).mono ?_
        rintro e W3 ⟨rfl, p3b⟩
        obtain ⟨p3c, p3f, p3l⟩ := rules p3b (Nat.le_refl _)
        have p3y0 := p3l w.heap.size (by first | (simp; done) | assumption | omega | (simp; omega))
        have p3y1 := p3l W2.heap.size (by first | (simp; done) | assumption | omega | (simp; omega))
        have p3s := p3b.size
        try simp at p3s
        clear p3l
        have s0 : W3.cell? ⟨w.heap.size, 0, none⟩ = some (.int .i64 (cv.x)) := by rw [p3c _ _ (by first | omega | (simp; omega))]; simp [go_sem, *]
        have s1 : W3.cell? ⟨w.heap.size, 1, none⟩ = some (.int .i64 (cv.y)) := by rw [p3c _ _ (by first | omega | (simp; omega))]; simp [go_sem, *]
        have s2 : W3.frozen? ⟨w.heap.size, 0, none⟩ = false := by rw [p3f _ _ (by first | omega | (simp; omega))]; simp [go_sem, *]
        have s3 : W3.frozen? ⟨w.heap.size, 1, none⟩ = false := by rw [p3f _ _ (by first | omega | (simp; omega))]; simp [go_sem, *]
        have s4 : W3.cell? ⟨W2.heap.size, 1, none⟩ = some (.int .i64 m) := by rw [p3c _ _ (by first | omega | (simp; omega))]; simp [go_sem, *]
        have s5 : W3.cell? ⟨W2.heap.size, 2, none⟩ = some (.int .i64 A.x) := by rw [p3c _ _ (by first | omega | (simp; omega))]; simp [go_sem, *]
        have s6 : W3.cell? ⟨W2.heap.size, 3, none⟩ = some (.int .i64 A.y) := by rw [p3c _ _ (by first | omega | (simp; omega))]; simp [go_sem, *]
        have s7 : W3.cell? ⟨W2.heap.size, 4, none⟩ = some (.int .i64 O.x) := by rw [p3c _ _ (by first | omega | (simp; omega))]; simp [go_sem, *]
        have s8 : W3.cell? ⟨W2.heap.size, 5, none⟩ = some (.int .i64 O.y) := by rw [p3c _ _ (by first | omega | (simp; omega))]; simp [go_sem, *]
        clear p3c p3f t0 t1 t2 t3 t4 t5 t6 t7 t8
        have hq3 := own_keep hq p3b (Nat.le_refl _)
        go_wp2_with fail
        refine (plus_any _ _ _ _ _ _ (by omega) (by omega) (by omega) (by omega) (by omega) (by omega) (by omega) (by omega)).mono ?_
        rintro e W4 ⟨rfl, p4b⟩
        obtain ⟨p4c, p4f, p4l⟩ := rules p4b (Nat.le_refl _)
        have p4y0 := p4l w.heap.size (by first | (simp; done) | assumption | omega | (simp; omega))
        have p4y1 := p4l W2.heap.size (by first | (simp; done) | assumption | omega | (simp; omega))
        have p4s := p4b.size
        try simp at p4s
        clear p4l
        have v0 : W4.cell? ⟨w.heap.size, 0, none⟩ = some (.int .i64 (cv.x + A.x)) := by rw [p4c _ _ (by first | omega | (simp; omega))]; simp [go_sem, *]
        have v1 : W4.cell? ⟨w.heap.size, 1, none⟩ = some (.int .i64 (cv.y + A.y)) := by rw [p4c _ _ (by first | omega | (simp; omega))]; simp [go_sem, *]
        have v2 : W4.frozen? ⟨w.heap.size, 0, none⟩ = false := by rw [p4f _ _ (by first | omega | (simp; omega))]; simp [go_sem, *]
        have v3 : W4.frozen? ⟨w.heap.size, 1, none⟩ = false := by rw [p4f _ _ (by first | omega | (simp; omega))]; simp [go_sem, *]
        have v4 : W4.cell? ⟨W2.heap.size, 1, none⟩ = some (.int .i64 m) := by rw [p4c _ _ (by first | omega | (simp; omega))]; simp [go_sem, *]
        have v5 : W4.cell? ⟨W2.heap.size, 2, none⟩ = some (.int .i64 A.x) := by rw [p4c _ _ (by first | omega | (simp; omega))]; simp [go_sem, *]
        have v6 : W4.cell? ⟨W2.heap.size, 3, none⟩ = some (.int .i64 A.y) := by rw [p4c _ _ (by first | omega | (simp; omega))]; simp [go_sem, *]
        have v7 : W4.cell? ⟨W2.heap.size, 4, none⟩ = some (.int .i64 O.x) := by rw [p4c _ _ (by first | omega | (simp; omega))]; simp [go_sem, *]
        have v8 : W4.cell? ⟨W2.heap.size, 5, none⟩ = some (.int .i64 O.y) := by rw [p4c _ _ (by first | omega | (simp; omega))]; simp [go_sem, *]
        clear p4c p4f s0 s1 s2 s3 s4 s5 s6 s7 s8
        have hq4 := own_keep (own_setCell (own_setCell hq3 (p := ⟨w.heap.size, 0, none⟩) (by simp only; omega) _) (p := ⟨w.heap.size, 1, none⟩) (by simp only; omega) _) p4b (by simp)
        go_wp2_with (at_builtin; refine wpList_push rfl (.tmp 50) (.tmp 52) 25 23 rfl Try.underlying25 _ 2 16 cell_info rfl (by decide) _ (k + 1) _ rfl (W2.heap.size + 1) (own_setCell (own_setCell hq4 (by simp only; omega) _) (by simp only; omega) _) _ (Below.refl _ _) (by simp; omega) _ _ _ (by simp) rfl rfl (by simp [Value.oneCell']) (by unfold maxLen; omega) (by omega) ?_; intro v' w' hown' hE' hB')
        obtain ⟨pc, pf, _⟩ := rules hE' (by simp; omega)
        have hst' : RaySt w' w.heap.size W2.heap.size (rayAt ⟨ax, ay⟩ ⟨bx, by_⟩ ((k : Int) + 1)) m A O := by
          rw [hk1.out]
          unfold RaySt
          rw [pc _ _ (by omega), pc _ _ (by omega), pf _ _ (by omega), pf _ _ (by omega), pc _ _ (by omega), pc _ _ (by omega), pc _ _ (by omega), pc _ _ (by omega), pc _ _ (by omega)]
          refine ⟨?_, ?_, ?_, ?_, ?_, ?_, ?_, ?_, ?_⟩ <;> (simp [go_sem, *]; done)
        have hbel : Below w.heap.size w w' := Below.trans (show Below w.heap.size w _ from (by repeat (first | with_reducible exact Below.refl _ _ | with_reducible assumption | with_reducible refine below_alloc ?_ _ | with_reducible refine below_draw ?_ | ((with_reducible apply bset); (focus (first | exact Nat.le_refl _ | (simp; done) | omega | (simp; omega)))) | ((with_reducible apply bcall); assumption; (focus (first | exact Nat.le_refl _ | (simp; done) | omega | (simp; omega))))))) (hE'.mono (by omega))
        have hsz := hE'.size
        simp at hsz
        clear pc pf hE'
        go_wp2
        go_roundw
        case rel => exact ⟨k + 1, _, by omega, by go_num, by rw [show ((k + 1 : Nat) : Int) = (k : Int) + 1 by omega, hk2.out], rfl, by rw [rayRow_succ, ccells_snoc, show ((k + 1 : Nat) : Int) = (k : Int) + 1 by omega, hk1.out]; exact hown', by rw [show ((k + 1 : Nat) : Int) = (k : Int) + 1 by omega]; exact hst', hbel, by omega⟩
        case measure => simp [intOf]; omega
      · have hk1 := Lib.hid (u2.out (by omega)).1
        have hk2 := Lib.hid (u2.out (by omega)).2
        clear u1 u2
        go_wp2_with fail
        refine (plus_any _ _ _ _ _ _ (by omega) (by omega) (by omega) (by omega) (by omega) (by omega) (by omega) (by omega)).mono ?_
        rintro e W3 ⟨rfl, p3b⟩
        obtain ⟨p3c, p3f, p3l⟩ := rules p3b (Nat.le_refl _)
        have p3y0 := p3l w.heap.size (by first | (simp; done) | assumption | omega | (simp; omega))
        have p3y1 := p3l W2.heap.size (by first | (simp; done) | assumption | omega | (simp; omega))
        have p3s := p3b.size
        try simp at p3s
        clear p3l
        have s0 : W3.cell? ⟨w.heap.size, 0, none⟩ = some (.int .i64 (cv.x)) := by rw [p3c _ _ (by first | omega | (simp; omega))]; simp [go_sem, *]
        have s1 : W3.cell? ⟨w.heap.size, 1, none⟩ = some (.int .i64 (cv.y)) := by rw [p3c _ _ (by first | omega | (simp; omega))]; simp [go_sem, *]
        have s2 : W3.frozen? ⟨w.heap.size, 0, none⟩ = false := by rw [p3f _ _ (by first | omega | (simp; omega))]; simp [go_sem, *]
        have s3 : W3.frozen? ⟨w.heap.size, 1, none⟩ = false := by rw [p3f _ _ (by first | omega | (simp; omega))]; simp [go_sem, *]
        have s4 : W3.cell? ⟨W2.heap.size, 1, none⟩ = some (.int .i64 m) := by rw [p3c _ _ (by first | omega | (simp; omega))]; simp [go_sem, *]
        have s5 : W3.cell? ⟨W2.heap.size, 2, none⟩ = some (.int .i64 A.x) := by rw [p3c _ _ (by first | omega | (simp; omega))]; simp [go_sem, *]
        have s6 : W3.cell? ⟨W2.heap.size, 3, none⟩ = some (.int .i64 A.y) := by rw [p3c _ _ (by first | omega | (simp; omega))]; simp [go_sem, *]
        have s7 : W3.cell? ⟨W2.heap.size, 4, none⟩ = some (.int .i64 O.x) := by rw [p3c _ _ (by first | omega | (simp; omega))]; simp [go_sem, *]
        have s8 : W3.cell? ⟨W2.heap.size, 5, none⟩ = some (.int .i64 O.y) := by rw [p3c _ _ (by first | omega | (simp; omega))]; simp [go_sem, *]
        clear p3c p3f t0 t1 t2 t3 t4 t5 t6 t7 t8
        have hq3 := own_keep hq p3b (Nat.le_refl _)
        go_wp2_with (at_builtin; refine wpList_push rfl (.tmp 50) (.tmp 52) 25 23 rfl Try.underlying25 _ 2 16 cell_info rfl (by decide) _ (k + 1) _ rfl (W2.heap.size + 1) (own_setCell (own_setCell hq3 (by simp only; omega) _) (by simp only; omega) _) _ (Below.refl _ _) (by simp; omega) _ _ _ (by simp) rfl rfl (by simp [Value.oneCell']) (by unfold maxLen; omega) (by omega) ?_; intro v' w' hown' hE' hB')
        obtain ⟨pc, pf, _⟩ := rules hE' (by simp; omega)
        have hst' : RaySt w' w.heap.size W2.heap.size (rayAt ⟨ax, ay⟩ ⟨bx, by_⟩ ((k : Int) + 1)) m A O := by
          rw [hk1.out]
          unfold RaySt
          rw [pc _ _ (by omega), pc _ _ (by omega), pf _ _ (by omega), pf _ _ (by omega), pc _ _ (by omega), pc _ _ (by omega), pc _ _ (by omega), pc _ _ (by omega), pc _ _ (by omega)]
          refine ⟨?_, ?_, ?_, ?_, ?_, ?_, ?_, ?_, ?_⟩ <;> (simp [go_sem, *]; done)
        have hbel : Below w.heap.size w w' := Below.trans (show Below w.heap.size w _ from (by repeat (first | with_reducible exact Below.refl _ _ | with_reducible assumption | with_reducible refine below_alloc ?_ _ | with_reducible refine below_draw ?_ | ((with_reducible apply bset); (focus (first | exact Nat.le_refl _ | (simp; done) | omega | (simp; omega)))) | ((with_reducible apply bcall); assumption; (focus (first | exact Nat.le_refl _ | (simp; done) | omega | (simp; omega))))))) (hE'.mono (by omega))
        have hsz := hE'.size
        simp at hsz
        clear pc pf hE'
        go_wp2
        go_roundw
        case rel => exact ⟨k + 1, _, by omega, by go_num, by rw [show ((k + 1 : Nat) : Int) = (k : Int) + 1 by omega, hk2.out], rfl, by rw [rayRow_succ, ccells_snoc, show ((k + 1 : Nat) : Int) = (k : Int) + 1 by omega, hk1.out]; exact hown', by rw [show ((k + 1 : Nat) : Int) = (k : Int) + 1 by omega]; exact hst', hbel, by omega⟩
        case measure => simp [intOf]; omega
    · have hkN : k = N := by omega
      subst hkN
      go_wp2
      go_ret2
      exact ⟨_, rfl, own_mono hq (by omega), hw0⟩

end Go.Proofs.Ytjhbomgfjffmdaa
