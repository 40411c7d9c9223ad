/- Layer 5: the laws. -/
import Derived.Test.YtbnjbgcadkdljaaDoorRef5b
import Derived.Test.YtbnjbgcadkdljaaDoorK17
set_option linter.unusedVariables false
set_option linter.unusedSimpArgs false
namespace Go.Proofs.YtbnjbgcadkdljaaDoor
open Go Go.RowKit
theorem kflaw5_1 : (Tryd.prog.info? 2).map (fun i => (i.size, i.zero.map Value.cells)) = some (1, some (List.toArray [(.int .i64 0)])) := by kernel_rfl
theorem kflaw5_2 : callB Tryd.prog 33 = true := by kernel_rfl
theorem kflaw5_5 : callB Tryd.prog 41 = true := by kernel_rfl
theorem kflaw5_6 : (Tryd.prog.info? 5).map (fun i => (i.size, i.zero.map Value.cells)) = some (1, some (List.toArray [(.int .u8 0)])) := by kernel_rfl
theorem kflaw5_7 : (Tryd.prog.info? 5).map (fun i => (i.zero.map (·.cells.toList), i.size, i.bytes)) = some (some [(.int .u8 0)], 1, 1) := by kernel_rfl
theorem kflaw5_11 : elB Tryd.prog 24 1 = true := by kernel_rfl
theorem kflaw5_12 : (Tryd.prog.info? 2).map (fun i => (i.zero.map (·.cells.toList), i.size, i.bytes)) = some (some [(.int .i64 0)], 1, 8) := by kernel_rfl
theorem kflaw5_13 : elB Tryd.prog 39 1 = true := by kernel_rfl
theorem kflaw5_14 : oneB Tryd.prog 2 = true := by kernel_rfl
theorem rgP_fun {bs : List Int} {q p x1 e1 x2 e2 : Int} {z1 z2 : List Int} (h1 : rgP bs q p z1 x1 e1) (h2 : rgP bs q p z2 x2 e2) : z1 = z2 ∧ x1 = x2 ∧ e1 = e2 := by
  rcases h1 with ⟨hb, rfl, rfl, rfl⟩ | ⟨a, n, rfl, rfl, ha, hn, h1⟩
  · rcases h2 with ⟨_, rfl, rfl, rfl⟩ | ⟨a, n, rfl, rfl, ha, hn, _⟩
    · exact ⟨rfl, rfl, rfl⟩
    · unfold rgBad at hb; omega
  · rcases h2 with ⟨hb, _⟩ | ⟨a', n', ea, en, _, _, h2⟩
    · unfold rgBad at hb; omega
    · obtain rfl : a = a' := by omega
      obtain rfl : n = n' := by omega
      rcases h1 with ⟨m, h1, rfl, rfl⟩ | ⟨h1, rfl, rfl, _⟩ <;> rcases h2 with ⟨m', h2, rfl, rfl⟩ | ⟨h2, rfl, rfl, _⟩ <;> rw [h1] at h2 <;> cases h2 <;> exact ⟨rfl, rfl, rfl⟩
theorem rgP_put {za zb zs z : List Int} {q p x e : Int} (h : rgP (za ++ runsB (rnl zs 0) ++ zb) q p z x e) (hq : q = (za.length : Int)) (hp : p = (zs.length : Int)) (hI : allI zs) (hn : zs.length ≤ 1048576) : zs = z ∧ x = ((za ++ runsB (rnl zs 0)).length : Int) ∧ e = 0 := by
  have hl : (za ++ runsB (rnl zs 0) ++ zb).length = za.length + (runsB (rnl zs 0)).length + zb.length := by rw [List.length_append, List.length_append]
  rcases h with ⟨hb, _⟩ | ⟨a, n, ea, en, _, _, h⟩
  · unfold rgBad at hb; omega
  · obtain rfl : a = za.length := by omega
    obtain rfl : n = zs.length := by omega
    have hg := rget_put (za ++ runsB (rnl zs 0) ++ zb) zb zs.length (by omega) (zs.length + 1) zs [] za.length false (by simp) (by omega) hI (by rw [List.append_assoc, List.drop_left]) (fun h => by cases h)
    rcases h with ⟨m, h1, rfl, rfl⟩ | ⟨h1, _⟩
    · rw [h1] at hg
      simp only [List.nil_append, Except.ok.injEq, Prod.mk.injEq] at hg
      exact ⟨hg.1.symm, by rw [hg.2, List.length_append], rfl⟩
    · rw [h1] at hg; cases hg
theorem rgP_back {bs zs : List Int} {q p x : Int} (hB : okB bs) (h : rgP bs q p zs x 0) : ∃ a m : Nat, q = a ∧ x = m ∧ a ≤ m ∧ m ≤ bs.length ∧ (bs.drop a).take (m - a) = runsB (rnl zs 0) ∧ allI zs ∧ zs.length ≤ 1048576 ∧ p = zs.length := by
  rcases h with ⟨_, _, _, h⟩ | ⟨a, n, rfl, rfl, ha, hn, h⟩
  · cases h
  · rcases h with ⟨m, h1, rfl, _⟩ | ⟨_, _, _, h⟩
    · obtain ⟨t, e1, e2, e3, e4, e5, _, e7⟩ := rget_got bs n hB (by omega) (n + 1) [] a false zs m ha (Nat.zero_le _) h1
      simp only [List.nil_append] at e1
      subst e1
      exact ⟨a, m, rfl, rfl, e3, e4, e5, e7, by omega, by omega⟩
    · exact absurd rfl h
theorem okB_app {a b : List Int} (ha : okB a) (hb : okB b) : okB (a ++ b) := fun z hz => (List.mem_append.1 hz).elim (ha z) (hb z)
theorem lebL_ok : ∀ (f : Nat) (u : Int), 0 ≤ u → u < 2 * 128 ^ f → okB (lebL f u)
  | 0, u, h0, h1, c, hc => by simp [lebL] at hc; subst hc; simp at h1; omega
  | f + 1, u, h0, h1, c, hc => by
    rw [lebL] at hc
    split at hc
    · simp at hc; subst hc; omega
    · rcases List.mem_cons.1 hc with rfl | hc
      · omega
      · exact lebL_ok f (u / 128) (by omega) (by rw [Int.pow_succ] at h1; omega) c hc
theorem runB_ok {k : Nat} {z : Int} (hk : k ≤ 2000000) (hz : -9223372036854775808 ≤ z ∧ z ≤ 9223372036854775807) : okB (runB k z) := by
  unfold runB
  split
  · intro c hc
    rcases List.mem_cons.1 hc with rfl | hc
    · omega
    · exact lebL_ok 9 _ (by omega) (by omega) c hc
  · exact lebL_ok 9 _ (fold_rng hz).1 (fold_rng hz).2
theorem runsB_ok {zs : List Int} (hI : allI zs) (hn : zs.length ≤ 2000000) : okB (runsB (rnl zs 0)) := fun c hc => by
  unfold runsB at hc
  obtain ⟨r, hr, hc⟩ := List.mem_flatMap.1 hc
  have := rn_rng zs 0 hI r hr
  exact runB_ok (by omega) this.2 c hc
theorem runs_short {zs : List Int} (hn : zs.length ≤ 1000000) (h : ∀ j, j < zs.length → -4294967295 ≤ nth zs j ∧ nth zs j ≤ 4294967295) : (runsB (rnl zs 0)).length ≤ 5 * zs.length := by
  have := rests_len zs 0 (by omega) (fun z hz => by
    obtain ⟨j, hj, rfl⟩ := List.mem_iff_getElem.1 hz
    have := h j hj
    rwa [nth_lt hj] at this)
  omega

theorem Put_ex (A : Option Addr) (c : Nat) (w : World) (h : Rd w A (vi .i64 [0, 0, 0, -1])) : Ret Tryd.prog 33 [.slice none 0 0, .slice A 4 c] w (fun v w' => ∃ A' c, v = .slice A' 3 c ∧ HS w w' [.row A' 3 c (vi .u8 [0, 2, 1]) 5 1]) := by
  have h := runsPut none A 0 0 4 c [] [0, 0, 0, -1] w rd_none rfl (by omega) h rfl (by omega) (by unfold allI; decide)
  have e : runsB (rnl [0, 0, 0, -1] 0) = [0, 2, 1] := by decide
  rw [e] at h
  exact h

end Go.Proofs.YtbnjbgcadkdljaaDoor
