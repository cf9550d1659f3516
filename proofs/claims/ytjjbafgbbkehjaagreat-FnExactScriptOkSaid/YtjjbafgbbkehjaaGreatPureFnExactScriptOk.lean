/- FnExactScriptOk: the program and the reference answer alike. No condition. -/
import Derived.Test.YtjjbafgbbkehjaaGreatVmRowFnExactScriptOk
import Derived.Test.YtjjbafgbbkehjaaGreatVmLibThree
namespace Go.Proofs.YtjjbafgbbkehjaaGreat.Vm
open Go Go.Proofs.YtjjbafgbbkehjaaGreat.Lib
set_option linter.unusedSimpArgs false
set_option linter.unusedVariables false
def SZ (r n : Int) (S : Prop) : Prop := r ≤ n ∧ (0 ≤ r → S)
theorem SZ.neg {n : Int} {S : Prop} (h0 : 0 ≤ n) : SZ (-1) n S := ⟨by omega, fun h => absurd h (by omega)⟩
theorem sz33 (x : List (Ty.T y90)) (ho : Ty.ok (.sl 118 y90) x) (n : Int) (h0 : 0 ≤ n) (h1 : n ≤ 1048576) : SZ (v33 x n) n (Ty.short (.sl 118 y90) x) := by
  have hl := ho.2
  unfold v33
  rw [wrap_in (by omega) (by omega)]
  by_cases h : n - (x.length : Int) < 0
  · rw [decide_eq_true h]; exact .neg h0
  · rw [decide_eq_false h]; exact ⟨show n - (x.length : Int) ≤ n by omega, fun _ => ⟨by omega, fun x _ => by simp [Ty.short]⟩⟩
theorem sz34 (x : List (Ty.T y94)) (ho : Ty.ok (.sl 120 y94) x) (n : Int) (h0 : 0 ≤ n) (h1 : n ≤ 1048576) : SZ (v34 x n) n (Ty.short (.sl 120 y94) x) := by
  have hl := ho.2
  unfold v34
  rw [wrap_in (by omega) (by omega)]
  by_cases h : n - (x.length : Int) < 0
  · rw [decide_eq_true h]; exact .neg h0
  · rw [decide_eq_false h]; exact ⟨show n - (x.length : Int) ≤ n by omega, fun _ => ⟨by omega, fun x _ => by simp [Ty.short]⟩⟩
theorem sz9 (x : Ty.T y24) (ho : Ty.ok y24 x) (n : Int) (h0 : 0 ≤ n) (h1 : n ≤ 1048576) : SZ (v9 x n) n (Ty.short y24 x) := by
  unfold v9
  have y0 := sz33 x.1 ho.1 n h0 h1
  have z0 := y0
  by_cases g0 : v33 x.1 n < 0
  · rw [decide_eq_true g0]; exact .neg h0
  · rw [decide_eq_false g0]
    have y1 := sz34 x.2.1 ho.2.1 (v33 x.1 n) (by omega) (by have := z0.1; omega)
    have z1 := y1
    by_cases g1 : v34 x.2.1 (v33 x.1 n) < 0
    · rw [decide_eq_true g1]; exact .neg h0
    · rw [decide_eq_false g1]
      exact ⟨show v34 x.2.1 (v33 x.1 n) ≤ n by have := z0.1; have := z1.1; omega, fun _ => ⟨(z0.2 (by omega)), ⟨(z1.2 (by omega)), (by simp [Ty.short])⟩⟩⟩
theorem sz64 (x : List (Ty.T y115)) (ho : Ty.ok (.sl 134 y115) x) (n : Int) (h0 : 0 ≤ n) (h1 : n ≤ 1048576) : SZ (v64 x n) n (Ty.short (.sl 134 y115) x) := by
  have hl := ho.2
  unfold v64
  rw [wrap_in (by omega) (by omega)]
  by_cases h : n - (x.length : Int) < 0
  · rw [decide_eq_true h]; exact .neg h0
  · rw [decide_eq_false h]; exact ⟨show n - (x.length : Int) ≤ n by omega, fun _ => ⟨by omega, fun x _ => by simp [Ty.short]⟩⟩
theorem sz63 (x : Ty.T y81) (ho : Ty.ok y81 x) (n : Int) (h0 : 0 ≤ n) (h1 : n ≤ 1048576) : SZ (v63 x n) n (Ty.short y81 x) := by
  unfold v63
  have y0 := sz64 x.2.2.2.2.2.2 ho.2.2.2.2.2.2 n h0 h1
  have z0 := y0
  by_cases g0 : v64 x.2.2.2.2.2.2 n < 0
  · rw [decide_eq_true g0]; exact .neg h0
  · rw [decide_eq_false g0]
    exact ⟨show v64 x.2.2.2.2.2.2 n ≤ n by have := z0.1; omega, fun _ => ⟨(by simp [Ty.short]), ⟨(by simp [Ty.short]), ⟨(by simp [Ty.short]), ⟨(by simp [Ty.short]), ⟨(by simp [Ty.short]), ⟨(by simp [Ty.short]), (z0.2 (by omega))⟩⟩⟩⟩⟩⟩⟩
theorem sz35 (x : Ty.T y83) (ho : Ty.ok y83 x) (n : Int) (h0 : 0 ≤ n) (h1 : n ≤ 1048576) : SZ (v35 x n) n (Ty.short y83 x) := by
  unfold v35
  have y0 := sz63 x.2.2.2.2.2.2.1 ho.2.2.2.2.2.2.1 n h0 h1
  have z0 := y0
  by_cases g0 : v63 x.2.2.2.2.2.2.1 n < 0
  · rw [decide_eq_true g0]; exact .neg h0
  · rw [decide_eq_false g0]
    exact ⟨show v63 x.2.2.2.2.2.2.1 n ≤ n by have := z0.1; omega, fun _ => ⟨(by simp [Ty.short]), ⟨(by simp [Ty.short]), ⟨(by simp [Ty.short]), ⟨(by simp [Ty.short]), ⟨(by simp [Ty.short]), ⟨(by simp [Ty.short]), ⟨(z0.2 (by omega)), (by simp [Ty.short])⟩⟩⟩⟩⟩⟩⟩⟩
theorem sz10 (xs : List (Ty.T y83)) (ho : Ty.ok (.sl 84 y83) xs) (n : Int) (h0 : 0 ≤ n) (h1 : n ≤ 1048576) : d10 xs n = true ∧ SZ (v10 xs n) n (Ty.short (.sl 84 y83) xs) := by
  have hl := ho.2
  unfold d10 v10
  rw [wrap_in (n := n - (xs.length : Int)) (by omega) (by omega)]
  by_cases h : n - (xs.length : Int) < 0
  · rw [decide_eq_true h]; exact ⟨rfl, .neg h0⟩
  · rw [decide_eq_false h]
    have key := sz_iter (s := s10_0) (mk := fun n r i => (xs, n, r, i, ())) (xs := xs) (g := v35) (S := Ty.short y83) (B := 1048576) (fun x hx n h0 h1 => sz35 x (ho.1 x hx) n h0 h1) (fun i x n r hn0 hn1 hx => by
      have hxm : x ∈ xs := List.mem_of_getElem? hx
      obtain ⟨hi, rfl⟩ := List.getElem?_eq_some_iff.1 hx
      skip
      simp [s10_0, t10_0, optC_some, hi,  wrap_nat (n := i) (by omega), Bool.cond_decide]) (fun n r => by simp [s10_0, t10_0]) xs.length 0 (n - (xs.length : Int)) 0 (n10_0 (xs, n - (xs.length : Int), 0, 0, ())) (by omega) (by simp [n10_0]; omega) (by omega) (by omega)
    rcases key with ⟨n', i', hk⟩ | ⟨n', hk, g0, g1, g2⟩
    · have e0 : k10_0 xs (n - (xs.length : Int)) 0 0 0 = true := at_of hk 0
      have ew : w10_0 xs (n - (xs.length : Int)) 0 0 = (xs, n', -1, i', ()) := val_of hk
      rw [e0, ew]
      exact ⟨rfl, .neg h0⟩
    · have e0 : k10_0 xs (n - (xs.length : Int)) 0 0 0 = false := at_of hk 0
      have e1 : k10_0 xs (n - (xs.length : Int)) 0 0 1 = true := at_of hk 1
      have ew : w10_0 xs (n - (xs.length : Int)) 0 0 = (xs, n', 0, (xs.length : Int), ()) := val_of hk
      rw [e0, e1, ew]
      refine ⟨rfl, ?_, fun _ => ⟨by omega, fun x hx => ?_⟩⟩
      · show n' ≤ n
        omega
      · obtain ⟨j, hj⟩ := List.getElem?_of_mem hx
        exact g2 j x (Nat.zero_le _) hj
theorem sz36 (x : Ty.T y86) (ho : Ty.ok y86 x) (n : Int) (h0 : 0 ≤ n) (h1 : n ≤ 1048576) : SZ (v36 x n) n (Ty.short y86 x) := by
  unfold v36
  have y0 := sz35 x.2.1 ho.2.1 n h0 h1
  have z0 := y0
  by_cases g0 : v35 x.2.1 n < 0
  · rw [decide_eq_true g0]; exact .neg h0
  · rw [decide_eq_false g0]
    have y1 := sz64 x.2.2.2 ho.2.2.2 (v35 x.2.1 n) (by omega) (by have := z0.1; omega)
    have z1 := y1
    by_cases g1 : v64 x.2.2.2 (v35 x.2.1 n) < 0
    · rw [decide_eq_true g1]; exact .neg h0
    · rw [decide_eq_false g1]
      exact ⟨show v64 x.2.2.2 (v35 x.2.1 n) ≤ n by have := z0.1; have := z1.1; omega, fun _ => ⟨(by simp [Ty.short]), ⟨(z0.2 (by omega)), ⟨(by simp [Ty.short]), (z1.2 (by omega))⟩⟩⟩⟩
theorem sz11 (xs : List (Ty.T y86)) (ho : Ty.ok (.sl 87 y86) xs) (n : Int) (h0 : 0 ≤ n) (h1 : n ≤ 1048576) : d11 xs n = true ∧ SZ (v11 xs n) n (Ty.short (.sl 87 y86) xs) := by
  have hl := ho.2
  unfold d11 v11
  rw [wrap_in (n := n - (xs.length : Int)) (by omega) (by omega)]
  by_cases h : n - (xs.length : Int) < 0
  · rw [decide_eq_true h]; exact ⟨rfl, .neg h0⟩
  · rw [decide_eq_false h]
    have key := sz_iter (s := s11_0) (mk := fun n r i => (xs, n, r, i, ())) (xs := xs) (g := v36) (S := Ty.short y86) (B := 1048576) (fun x hx n h0 h1 => sz36 x (ho.1 x hx) n h0 h1) (fun i x n r hn0 hn1 hx => by
      have hxm : x ∈ xs := List.mem_of_getElem? hx
      obtain ⟨hi, rfl⟩ := List.getElem?_eq_some_iff.1 hx
      skip
      simp [s11_0, t11_0, optC_some, hi,  wrap_nat (n := i) (by omega), Bool.cond_decide]) (fun n r => by simp [s11_0, t11_0]) xs.length 0 (n - (xs.length : Int)) 0 (n11_0 (xs, n - (xs.length : Int), 0, 0, ())) (by omega) (by simp [n11_0]; omega) (by omega) (by omega)
    rcases key with ⟨n', i', hk⟩ | ⟨n', hk, g0, g1, g2⟩
    · have e0 : k11_0 xs (n - (xs.length : Int)) 0 0 0 = true := at_of hk 0
      have ew : w11_0 xs (n - (xs.length : Int)) 0 0 = (xs, n', -1, i', ()) := val_of hk
      rw [e0, ew]
      exact ⟨rfl, .neg h0⟩
    · have e0 : k11_0 xs (n - (xs.length : Int)) 0 0 0 = false := at_of hk 0
      have e1 : k11_0 xs (n - (xs.length : Int)) 0 0 1 = true := at_of hk 1
      have ew : w11_0 xs (n - (xs.length : Int)) 0 0 = (xs, n', 0, (xs.length : Int), ()) := val_of hk
      rw [e0, e1, ew]
      refine ⟨rfl, ?_, fun _ => ⟨by omega, fun x hx => ?_⟩⟩
      · show n' ≤ n
        omega
      · obtain ⟨j, hj⟩ := List.getElem?_of_mem hx
        exact g2 j x (Nat.zero_le _) hj
theorem sz12 (x : List (Ty.T (.int .i64))) (ho : Ty.ok (.sl 3 (.int .i64)) x) (n : Int) (h0 : 0 ≤ n) (h1 : n ≤ 1048576) : SZ (v12 x n) n (Ty.short (.sl 3 (.int .i64)) x) := by
  have hl := ho.2
  unfold v12
  rw [wrap_in (by omega) (by omega)]
  by_cases h : n - (x.length : Int) < 0
  · rw [decide_eq_true h]; exact .neg h0
  · rw [decide_eq_false h]; exact ⟨show n - (x.length : Int) ≤ n by omega, fun _ => ⟨by omega, fun x _ => by simp [Ty.short]⟩⟩
theorem sz4 (x : Ty.T y29) (ho : Ty.ok y29 x) (n : Int) (h0 : 0 ≤ n) (h1 : n ≤ 1048576) : d4 x n = true ∧ SZ (v4 x n) n (Ty.short y29 x) := by
  unfold d4 v4
  have y0 := sz9 x.1 ho.1 n h0 h1
  have z0 := y0
  by_cases g0 : v9 x.1 n < 0
  · rw [decide_eq_true g0]; exact ⟨rfl, .neg h0⟩
  · rw [decide_eq_false g0]
    have y1 := sz10 x.2.1 ho.2.1 (v9 x.1 n) (by omega) (by have := z0.1; omega)
    rw [y1.1]
    have z1 := y1.2
    by_cases g1 : v10 x.2.1 (v9 x.1 n) < 0
    · rw [decide_eq_true g1]; exact ⟨rfl, .neg h0⟩
    · rw [decide_eq_false g1]
      have y2 := sz11 x.2.2.1 ho.2.2.1 (v10 x.2.1 (v9 x.1 n)) (by omega) (by have := z0.1; have := z1.1; omega)
      rw [y2.1]
      have z2 := y2.2
      by_cases g2 : v11 x.2.2.1 (v10 x.2.1 (v9 x.1 n)) < 0
      · rw [decide_eq_true g2]; exact ⟨rfl, .neg h0⟩
      · rw [decide_eq_false g2]
        have y3 := sz12 x.2.2.2 ho.2.2.2 (v11 x.2.2.1 (v10 x.2.1 (v9 x.1 n))) (by omega) (by have := z0.1; have := z1.1; have := z2.1; omega)
        have z3 := y3
        by_cases g3 : v12 x.2.2.2 (v11 x.2.2.1 (v10 x.2.1 (v9 x.1 n))) < 0
        · rw [decide_eq_true g3]; exact ⟨rfl, .neg h0⟩
        · rw [decide_eq_false g3]
          exact ⟨rfl, ⟨show v12 x.2.2.2 (v11 x.2.2.1 (v10 x.2.1 (v9 x.1 n))) ≤ n by have := z0.1; have := z1.1; have := z2.1; have := z3.1; omega, fun _ => ⟨(z0.2 (by omega)), ⟨(z1.2 (by omega)), ⟨(z2.2 (by omega)), (z3.2 (by omega))⟩⟩⟩⟩⟩
theorem to71 (x : Ty.T y90) : v71 x = x := rfl
theorem to42 (xs : List (Ty.T y90)) (hs : Ty.short (.sl 118 y90) xs) : d42 xs = true ∧ v42 xs = xs := by
  have hb := hs.1
  have h : ∀ (n : Nat) (hn : xs.length < n) (out : List (Ty.T y90)) (ho : out.length = xs.length), iter s42_0 n (xs, [], 0, out, ()) = some (0, (xs, [], (xs.length : Int), xs, ())) := fun n hn out ho => by
    have := map_iter (s := s42_0) (mk := fun i o => (xs, [], i, o, ())) (xs := xs) (conv := fun x => x) (fun i out x hx hl => by
      obtain ⟨hi, rfl⟩ := List.getElem?_eq_some_iff.1 hx
      skip
      simp [s42_0, t42_0, optC_some, hi, hl, to71, wrap_nat (n := i) (by omega)]) (fun out hl => by simp [s42_0, t42_0]) xs.length 0 out n (by omega) ho hn
    simpa using this
  have h := h (n42_0 (xs, [], 0, (List.replicate ((xs.length : Int)).toNat (Ty.zero y90)), ())) (by simp [n42_0]; omega) (List.replicate ((xs.length : Int)).toNat (Ty.zero y90)) (by simp)
  have hk : k42_0 xs [] 0 (List.replicate ((xs.length : Int)).toNat (Ty.zero y90)) 0 = true := at_of h 0
  have hw : w42_0 xs [] 0 (List.replicate ((xs.length : Int)).toNat (Ty.zero y90)) = (xs, [], (xs.length : Int), xs, ()) := val_of h
  constructor
  · show (_ && (_ && (cond (k42_0 xs [] 0 (List.replicate ((xs.length : Int)).toNat (Ty.zero y90)) 0) true false))) = true
    rw [hk]
    simp
    omega
  · show cond (k42_0 xs [] 0 (List.replicate ((xs.length : Int)).toNat (Ty.zero y90)) 0) (w42_0 xs [] 0 (List.replicate ((xs.length : Int)).toNat (Ty.zero y90))).2.2.2.1 [] = xs
    rw [hk, hw]
    rfl
theorem to72 (x : Ty.T y94) : v72 x = x := rfl
theorem to43 (xs : List (Ty.T y94)) (hs : Ty.short (.sl 120 y94) xs) : d43 xs = true ∧ v43 xs = xs := by
  have hb := hs.1
  have h : ∀ (n : Nat) (hn : xs.length < n) (out : List (Ty.T y94)) (ho : out.length = xs.length), iter s43_0 n (xs, [], 0, out, ()) = some (0, (xs, [], (xs.length : Int), xs, ())) := fun n hn out ho => by
    have := map_iter (s := s43_0) (mk := fun i o => (xs, [], i, o, ())) (xs := xs) (conv := fun x => x) (fun i out x hx hl => by
      obtain ⟨hi, rfl⟩ := List.getElem?_eq_some_iff.1 hx
      skip
      simp [s43_0, t43_0, optC_some, hi, hl, to72, wrap_nat (n := i) (by omega)]) (fun out hl => by simp [s43_0, t43_0]) xs.length 0 out n (by omega) ho hn
    simpa using this
  have h := h (n43_0 (xs, [], 0, (List.replicate ((xs.length : Int)).toNat (Ty.zero y94)), ())) (by simp [n43_0]; omega) (List.replicate ((xs.length : Int)).toNat (Ty.zero y94)) (by simp)
  have hk : k43_0 xs [] 0 (List.replicate ((xs.length : Int)).toNat (Ty.zero y94)) 0 = true := at_of h 0
  have hw : w43_0 xs [] 0 (List.replicate ((xs.length : Int)).toNat (Ty.zero y94)) = (xs, [], (xs.length : Int), xs, ()) := val_of h
  constructor
  · show (_ && (_ && (cond (k43_0 xs [] 0 (List.replicate ((xs.length : Int)).toNat (Ty.zero y94)) 0) true false))) = true
    rw [hk]
    simp
    omega
  · show cond (k43_0 xs [] 0 (List.replicate ((xs.length : Int)).toNat (Ty.zero y94)) 0) (w43_0 xs [] 0 (List.replicate ((xs.length : Int)).toNat (Ty.zero y94))).2.2.2.1 [] = xs
    rw [hk, hw]
    rfl
theorem to17 (x : Ty.T y24) (hs : Ty.short y24 x) : d17 x = true ∧ v17 x = (x.2.2.1, x.2.2.2, x.1, x.2.1) := by
  have h0 := to42 x.1 hs.1
  have h1 := to43 x.2.1 hs.2.1
  unfold d17 v17
  rw [h0.1, h0.2, h1.1, h1.2]
  exact ⟨rfl, rfl⟩
theorem to73 (x : Ty.T y49) : v73 x = x := rfl
theorem to74 (x : Ty.T y51) : v74 x = x := rfl
theorem to97 (x : Ty.T y115) : v97 x = x := rfl
theorem to76 (xs : List (Ty.T y115)) (hs : Ty.short (.sl 134 y115) xs) : d76 xs = true ∧ v76 xs = xs := by
  have hb := hs.1
  have h : ∀ (n : Nat) (hn : xs.length < n) (out : List (Ty.T y115)) (ho : out.length = xs.length), iter s76_0 n (xs, [], 0, out, ()) = some (0, (xs, [], (xs.length : Int), xs, ())) := fun n hn out ho => by
    have := map_iter (s := s76_0) (mk := fun i o => (xs, [], i, o, ())) (xs := xs) (conv := fun x => x) (fun i out x hx hl => by
      obtain ⟨hi, rfl⟩ := List.getElem?_eq_some_iff.1 hx
      skip
      simp [s76_0, t76_0, optC_some, hi, hl, to97, wrap_nat (n := i) (by omega)]) (fun out hl => by simp [s76_0, t76_0]) xs.length 0 out n (by omega) ho hn
    simpa using this
  have h := h (n76_0 (xs, [], 0, (List.replicate ((xs.length : Int)).toNat (Ty.zero y115)), ())) (by simp [n76_0]; omega) (List.replicate ((xs.length : Int)).toNat (Ty.zero y115)) (by simp)
  have hk : k76_0 xs [] 0 (List.replicate ((xs.length : Int)).toNat (Ty.zero y115)) 0 = true := at_of h 0
  have hw : w76_0 xs [] 0 (List.replicate ((xs.length : Int)).toNat (Ty.zero y115)) = (xs, [], (xs.length : Int), xs, ()) := val_of h
  constructor
  · show (_ && (_ && (cond (k76_0 xs [] 0 (List.replicate ((xs.length : Int)).toNat (Ty.zero y115)) 0) true false))) = true
    rw [hk]
    simp
    omega
  · show cond (k76_0 xs [] 0 (List.replicate ((xs.length : Int)).toNat (Ty.zero y115)) 0) (w76_0 xs [] 0 (List.replicate ((xs.length : Int)).toNat (Ty.zero y115))).2.2.2.1 [] = xs
    rw [hk, hw]
    rfl
theorem to75 (x : Ty.T y81) (hs : Ty.short y81 x) : d75 x = true ∧ v75 x = (x.1, x.2.1, x.2.2.1, x.2.2.2.1, x.2.2.2.2.1, x.2.2.2.2.2.1, x.2.2.2.2.2.2) := by
  have h0 := to76 x.2.2.2.2.2.2 hs.2.2.2.2.2.2
  unfold d75 v75
  rw [h0.1, h0.2]
  exact ⟨rfl, rfl⟩
theorem to44 (x : Ty.T y83) (hs : Ty.short y83 x) : d44 x = true ∧ v44 x = (x.1, x.2.1, x.2.2.1, x.2.2.2.1, x.2.2.2.2.1.1, x.2.2.2.2.1.2.1, x.2.2.2.2.1.2.2.1, x.2.2.2.2.1.2.2.2.1, x.2.2.2.2.1.2.2.2.2.1, x.2.2.2.2.1.2.2.2.2.2.1, x.2.2.2.2.1.2.2.2.2.2.2, x.2.2.2.2.2.1.1, x.2.2.2.2.2.1.2, x.2.2.2.2.2.2.1.1, x.2.2.2.2.2.2.1.2.1, x.2.2.2.2.2.2.1.2.2.1, x.2.2.2.2.2.2.1.2.2.2.1, x.2.2.2.2.2.2.1.2.2.2.2.1, x.2.2.2.2.2.2.1.2.2.2.2.2.1, x.2.2.2.2.2.2.2.1, x.2.2.2.2.2.2.2.2, x.2.2.2.2.2.2.1.2.2.2.2.2.2) := by
  have h0 : True ∧ v73 x.2.2.2.2.1 = _ := ⟨trivial, to73 x.2.2.2.2.1⟩
  have h1 : True ∧ v74 x.2.2.2.2.2.1 = _ := ⟨trivial, to74 x.2.2.2.2.2.1⟩
  have h2 := to75 x.2.2.2.2.2.2.1 hs.2.2.2.2.2.2.1
  unfold d44 v44
  rw [h0.2, h1.2, h2.1, h2.2]
  exact ⟨rfl, rfl⟩
theorem to18 (xs : List (Ty.T y83)) (hs : Ty.short (.sl 84 y83) xs) : d18 xs = true ∧ v18 xs = xs := by
  have hb := hs.1
  have h : ∀ (n : Nat) (hn : xs.length < n) (out : List (Ty.T y56)) (ho : out.length = xs.length), iter s18_0 n (xs, [], 0, out, ()) = some (0, (xs, [], (xs.length : Int), xs, ())) := fun n hn out ho => by
    have := map_iter (s := s18_0) (mk := fun i o => (xs, [], i, o, ())) (xs := xs) (conv := fun x => x) (fun i out x hx hl => by
      obtain ⟨hi, rfl⟩ := List.getElem?_eq_some_iff.1 hx
      have h0 := to44 xs[i] (hs.2 _ (List.getElem_mem hi))
      simp [s18_0, t18_0, optC_some, hi, hl, h0.1, h0.2, wrap_nat (n := i) (by omega)]) (fun out hl => by simp [s18_0, t18_0]) xs.length 0 out n (by omega) ho hn
    simpa using this
  have h := h (n18_0 (xs, [], 0, (List.replicate ((xs.length : Int)).toNat (Ty.zero y56)), ())) (by simp [n18_0]; omega) (List.replicate ((xs.length : Int)).toNat (Ty.zero y56)) (by simp)
  have hk : k18_0 xs [] 0 (List.replicate ((xs.length : Int)).toNat (Ty.zero y56)) 0 = true := at_of h 0
  have hw : w18_0 xs [] 0 (List.replicate ((xs.length : Int)).toNat (Ty.zero y56)) = (xs, [], (xs.length : Int), xs, ()) := val_of h
  constructor
  · show (_ && (_ && (cond (k18_0 xs [] 0 (List.replicate ((xs.length : Int)).toNat (Ty.zero y56)) 0) true false))) = true
    rw [hk]
    simp
    omega
  · show cond (k18_0 xs [] 0 (List.replicate ((xs.length : Int)).toNat (Ty.zero y56)) 0) (w18_0 xs [] 0 (List.replicate ((xs.length : Int)).toNat (Ty.zero y56))).2.2.2.1 [] = xs
    rw [hk, hw]
    rfl
theorem to45 (x : Ty.T y86) (hs : Ty.short y86 x) : d45 x = true ∧ v45 x = (x.1, x.2.1.1, x.2.1.2.1, x.2.1.2.2.1, x.2.1.2.2.2.1, x.2.1.2.2.2.2.1.1, x.2.1.2.2.2.2.1.2.1, x.2.1.2.2.2.2.1.2.2.1, x.2.1.2.2.2.2.1.2.2.2.1, x.2.1.2.2.2.2.1.2.2.2.2.1, x.2.1.2.2.2.2.1.2.2.2.2.2.1, x.2.1.2.2.2.2.1.2.2.2.2.2.2, x.2.1.2.2.2.2.2.1.1, x.2.1.2.2.2.2.2.1.2, x.2.1.2.2.2.2.2.2.1.1, x.2.1.2.2.2.2.2.2.1.2.1, x.2.1.2.2.2.2.2.2.1.2.2.1, x.2.1.2.2.2.2.2.2.1.2.2.2.1, x.2.1.2.2.2.2.2.2.1.2.2.2.2.1, x.2.1.2.2.2.2.2.2.1.2.2.2.2.2.1, x.2.1.2.2.2.2.2.2.2.1, x.2.1.2.2.2.2.2.2.2.2, x.2.2.1, x.2.1.2.2.2.2.2.2.1.2.2.2.2.2.2, x.2.2.2) := by
  have h0 := to44 x.2.1 hs.2.1
  have h1 := to76 x.2.2.2 hs.2.2.2
  unfold d45 v45
  rw [h0.1, h0.2, h1.1, h1.2]
  exact ⟨rfl, rfl⟩
theorem to19 (xs : List (Ty.T y86)) (hs : Ty.short (.sl 87 y86) xs) : d19 xs = true ∧ v19 xs = xs := by
  have hb := hs.1
  have h : ∀ (n : Nat) (hn : xs.length < n) (out : List (Ty.T y58)) (ho : out.length = xs.length), iter s19_0 n (xs, [], 0, out, ()) = some (0, (xs, [], (xs.length : Int), xs, ())) := fun n hn out ho => by
    have := map_iter (s := s19_0) (mk := fun i o => (xs, [], i, o, ())) (xs := xs) (conv := fun x => x) (fun i out x hx hl => by
      obtain ⟨hi, rfl⟩ := List.getElem?_eq_some_iff.1 hx
      have h0 := to45 xs[i] (hs.2 _ (List.getElem_mem hi))
      simp [s19_0, t19_0, optC_some, hi, hl, h0.1, h0.2, wrap_nat (n := i) (by omega)]) (fun out hl => by simp [s19_0, t19_0]) xs.length 0 out n (by omega) ho hn
    simpa using this
  have h := h (n19_0 (xs, [], 0, (List.replicate ((xs.length : Int)).toNat (Ty.zero y58)), ())) (by simp [n19_0]; omega) (List.replicate ((xs.length : Int)).toNat (Ty.zero y58)) (by simp)
  have hk : k19_0 xs [] 0 (List.replicate ((xs.length : Int)).toNat (Ty.zero y58)) 0 = true := at_of h 0
  have hw : w19_0 xs [] 0 (List.replicate ((xs.length : Int)).toNat (Ty.zero y58)) = (xs, [], (xs.length : Int), xs, ()) := val_of h
  constructor
  · show (_ && (_ && (cond (k19_0 xs [] 0 (List.replicate ((xs.length : Int)).toNat (Ty.zero y58)) 0) true false))) = true
    rw [hk]
    simp
    omega
  · show cond (k19_0 xs [] 0 (List.replicate ((xs.length : Int)).toNat (Ty.zero y58)) 0) (w19_0 xs [] 0 (List.replicate ((xs.length : Int)).toNat (Ty.zero y58))).2.2.2.1 [] = xs
    rw [hk, hw]
    rfl
theorem to20 (xs : List (Int)) (hs : Ty.short (.sl 3 (.int .i64)) xs) : d20 xs = true ∧ v20 xs = xs := by
  have hb := hs.1
  have h : ∀ (n : Nat) (hn : xs.length < n) (out : List (Int)) (ho : out.length = xs.length), iter s20_0 n (xs, [], 0, out, ()) = some (0, (xs, [], (xs.length : Int), xs, ())) := fun n hn out ho => by
    have := map_iter (s := s20_0) (mk := fun i o => (xs, [], i, o, ())) (xs := xs) (conv := fun x => x) (fun i out x hx hl => by
      obtain ⟨hi, rfl⟩ := List.getElem?_eq_some_iff.1 hx
      skip
      simp [s20_0, t20_0, optC_some, hi, hl,  wrap_nat (n := i) (by omega)]) (fun out hl => by simp [s20_0, t20_0]) xs.length 0 out n (by omega) ho hn
    simpa using this
  have h := h (n20_0 (xs, [], 0, (List.replicate ((xs.length : Int)).toNat (Ty.zero (.int .i64))), ())) (by simp [n20_0]; omega) (List.replicate ((xs.length : Int)).toNat (Ty.zero (.int .i64))) (by simp)
  have hk : k20_0 xs [] 0 (List.replicate ((xs.length : Int)).toNat (Ty.zero (.int .i64))) 0 = true := at_of h 0
  have hw : w20_0 xs [] 0 (List.replicate ((xs.length : Int)).toNat (Ty.zero (.int .i64))) = (xs, [], (xs.length : Int), xs, ()) := val_of h
  constructor
  · show (_ && (_ && (cond (k20_0 xs [] 0 (List.replicate ((xs.length : Int)).toNat (Ty.zero (.int .i64))) 0) true false))) = true
    rw [hk]
    simp
    omega
  · show cond (k20_0 xs [] 0 (List.replicate ((xs.length : Int)).toNat (Ty.zero (.int .i64))) 0) (w20_0 xs [] 0 (List.replicate ((xs.length : Int)).toNat (Ty.zero (.int .i64)))).2.2.2.1 [] = xs
    rw [hk, hw]
    rfl
theorem to6 (x : Ty.T y29) (hs : Ty.short y29 x) : d6 x = true ∧ v6 x = (x.1.2.2.1, x.1.2.2.2, x.1.1, x.1.2.1, x.2.1, x.2.2.1, x.2.2.2) := by
  have h0 := to17 x.1 hs.1
  have h1 := to18 x.2.1 hs.2.1
  have h2 := to19 x.2.2.1 hs.2.2.1
  have h3 := to20 x.2.2.2 hs.2.2.2
  unfold d6 v6
  rw [h0.1, h0.2, h1.1, h1.2, h2.1, h2.2, h3.1, h3.2]
  exact ⟨rfl, rfl⟩
theorem eq89 (x : Ty.T y90) : v89 x x = true := by simp [v89]
theorem eq59 (xs : List (Ty.T y90)) (hs : Ty.short (.sl 91 y90) xs) : d59 xs xs = true ∧ v59 xs xs = true := by
  have hb := hs.1
  have h := all_iter (s := s59_0) (mk := fun i => (xs, xs, false, i, ())) (c := 1) (N := xs.length) (fun i hi => by
    skip
    simp [s59_0, t59_0, optC_some, hi, eq89, wrap_nat (n := i) (by omega)]) (by simp [s59_0, t59_0]) xs.length 0 (n59_0 (xs, xs, false, 0, ())) (by omega) (by simp [n59_0]; omega)
  have h0 : k59_0 xs xs false 0 0 = false := at_of h 0
  have h1 : k59_0 xs xs false 0 1 = true := at_of h 1
  unfold d59 v59
  rw [h0, h1]
  simp
theorem eq90 (x : Ty.T y94) : v90 x x = true := by simp [v90]
theorem eq60 (xs : List (Ty.T y94)) (hs : Ty.short (.sl 95 y94) xs) : d60 xs xs = true ∧ v60 xs xs = true := by
  have hb := hs.1
  have h := all_iter (s := s60_0) (mk := fun i => (xs, xs, false, i, ())) (c := 1) (N := xs.length) (fun i hi => by
    skip
    simp [s60_0, t60_0, optC_some, hi, eq90, wrap_nat (n := i) (by omega)]) (by simp [s60_0, t60_0]) xs.length 0 (n60_0 (xs, xs, false, 0, ())) (by omega) (by simp [n60_0]; omega)
  have h0 : k60_0 xs xs false 0 0 = false := at_of h 0
  have h1 : k60_0 xs xs false 0 1 = true := at_of h 1
  unfold d60 v60
  rw [h0, h1]
  simp
theorem eq29 (x : Ty.T y35) (hs : Ty.short y35 x) : d29 x x = true ∧ v29 x x = true := by
  have h0 := eq59 x.1 hs.1
  have h1 := eq60 x.2.1 hs.2.1
  unfold d29 v29
  rw [h0.1, h0.2, h1.1, h1.2]
  simp
theorem eq91 (x : Ty.T y49) : v91 x x = true := by simp [v91]
theorem eq92 (x : Ty.T y51) : v92 x x = true := by simp [v92]
theorem eq105 (x : Ty.T y115) : v105 x x = true := by simp [v105]
theorem eq94 (xs : List (Ty.T y115)) (hs : Ty.short (.sl 116 y115) xs) : d94 xs xs = true ∧ v94 xs xs = true := by
  have hb := hs.1
  have h := all_iter (s := s94_0) (mk := fun i => (xs, xs, false, i, ())) (c := 1) (N := xs.length) (fun i hi => by
    skip
    simp [s94_0, t94_0, optC_some, hi, eq105, wrap_nat (n := i) (by omega)]) (by simp [s94_0, t94_0]) xs.length 0 (n94_0 (xs, xs, false, 0, ())) (by omega) (by simp [n94_0]; omega)
  have h0 : k94_0 xs xs false 0 0 = false := at_of h 0
  have h1 : k94_0 xs xs false 0 1 = true := at_of h 1
  unfold d94 v94
  rw [h0, h1]
  simp
theorem eq93 (x : Ty.T y54) (hs : Ty.short y54 x) : d93 x x = true ∧ v93 x x = true := by
  have h0 := eq94 x.2.2.2.2.2.2 hs.2.2.2.2.2.2
  unfold d93 v93
  rw [h0.1, h0.2]
  simp
theorem eq61 (x : Ty.T y56) (hs : Ty.short y56 x) : d61 x x = true ∧ v61 x x = true := by
  have h2 := eq93 x.2.2.2.2.2.2.1 hs.2.2.2.2.2.2.1
  unfold d61 v61
  rw [h2.1, h2.2, eq91, eq92]
  simp
theorem eq30 (xs : List (Ty.T y56)) (hs : Ty.short (.sl 57 y56) xs) : d30 xs xs = true ∧ v30 xs xs = true := by
  have hb := hs.1
  have h := all_iter (s := s30_0) (mk := fun i => (xs, xs, false, i, ())) (c := 1) (N := xs.length) (fun i hi => by
    have h0 := eq61 xs[i] (hs.2 _ (List.getElem_mem hi))
    simp [s30_0, t30_0, optC_some, hi, h0.1, h0.2, wrap_nat (n := i) (by omega)]) (by simp [s30_0, t30_0]) xs.length 0 (n30_0 (xs, xs, false, 0, ())) (by omega) (by simp [n30_0]; omega)
  have h0 : k30_0 xs xs false 0 0 = false := at_of h 0
  have h1 : k30_0 xs xs false 0 1 = true := at_of h 1
  unfold d30 v30
  rw [h0, h1]
  simp
theorem eq62 (x : Ty.T y58) (hs : Ty.short y58 x) : d62 x x = true ∧ v62 x x = true := by
  have h0 := eq61 x.2.1 hs.2.1
  have h1 := eq94 x.2.2.2 hs.2.2.2
  unfold d62 v62
  rw [h0.1, h0.2, h1.1, h1.2]
  simp
theorem eq31 (xs : List (Ty.T y58)) (hs : Ty.short (.sl 59 y58) xs) : d31 xs xs = true ∧ v31 xs xs = true := by
  have hb := hs.1
  have h := all_iter (s := s31_0) (mk := fun i => (xs, xs, false, i, ())) (c := 1) (N := xs.length) (fun i hi => by
    have h0 := eq62 xs[i] (hs.2 _ (List.getElem_mem hi))
    simp [s31_0, t31_0, optC_some, hi, h0.1, h0.2, wrap_nat (n := i) (by omega)]) (by simp [s31_0, t31_0]) xs.length 0 (n31_0 (xs, xs, false, 0, ())) (by omega) (by simp [n31_0]; omega)
  have h0 : k31_0 xs xs false 0 0 = false := at_of h 0
  have h1 : k31_0 xs xs false 0 1 = true := at_of h 1
  unfold d31 v31
  rw [h0, h1]
  simp
theorem eq32 (xs : List (Int)) (hs : Ty.short (.sl 3 (.int .i64)) xs) : d32 xs xs = true ∧ v32 xs xs = true := by
  have hb := hs.1
  have h := all_iter (s := s32_0) (mk := fun i => (xs, xs, false, i, ())) (c := 1) (N := xs.length) (fun i hi => by
    skip
    simp [s32_0, t32_0, optC_some, hi,  wrap_nat (n := i) (by omega)]) (by simp [s32_0, t32_0]) xs.length 0 (n32_0 (xs, xs, false, 0, ())) (by omega) (by simp [n32_0]; omega)
  have h0 : k32_0 xs xs false 0 0 = false := at_of h 0
  have h1 : k32_0 xs xs false 0 1 = true := at_of h 1
  unfold d32 v32
  rw [h0, h1]
  simp
theorem eq8 (x : Ty.T y39) (hs : Ty.short y39 x) : d8 x x = true ∧ v8 x x = true := by
  have h0 := eq29 x.1 hs.1
  have h1 := eq30 x.2.1 hs.2.1
  have h2 := eq31 x.2.2.1 hs.2.2.1
  have h3 := eq32 x.2.2.2 hs.2.2.2
  unfold d8 v8
  rw [h0.1, h0.2, h1.1, h1.2, h2.1, h2.2, h3.1, h3.2]
  simp
theorem evOk' (a : Int) (b : Int) (c : Int) (d : Int) (n : Int) (z : Int) (t : Bool) : v88 ((a, b, c, d, n, z, t) : Ty.T y115) = v70 ((a, b, c, d, n, z, t) : Ty.T y115) := by
  simp only [v88, v70, v14, v46, v52, v56, v103, v77, v104, v78]
  dsimp only [Ty.T]
  have cc : ∀ (p q r : Bool), cond p q r = true ↔ (p = true ∧ q = true) ∨ (p = false ∧ r = true) := by decide
  have cf : ∀ (p q r : Bool), cond p q r = false ↔ (p = true ∧ q = false) ∨ (p = false ∧ r = false) := by decide
  by_cases h1 : a = 1
  · subst h1; rw [Bool.eq_iff_iff]; cases t <;> simp [cc, cf, *] <;> omega
  by_cases h2 : a = 2
  · subst h2; rw [Bool.eq_iff_iff]; cases t <;> simp [cc, cf, *] <;> omega
  by_cases h3 : a = 3
  · subst h3; rw [Bool.eq_iff_iff]; cases t <;> simp [cc, cf, *] <;> omega
  by_cases h4 : a = 4
  · subst h4; rw [Bool.eq_iff_iff]; cases t <;> simp [cc, cf, *] <;> omega
  by_cases h5 : a = 5
  · subst h5; rw [Bool.eq_iff_iff]; cases t <;> simp [cc, cf, *] <;> omega
  by_cases h6 : a = 6
  · subst h6; rw [Bool.eq_iff_iff]; cases t <;> simp [cc, cf, *] <;> omega
  rw [Bool.eq_iff_iff]; cases t <;> simp [cc, cf, *] <;> omega
theorem evOk (e : Ty.T y115) : v88 e = v70 e := by
  obtain ⟨a, b, c, d, n, z, t⟩ := e
  exact evOk' a b c d n z t
theorem evNo' (a b c d z : Int) (t : Bool) : v70 ((a, b, c, d, -1, z, t) : Ty.T y115) = false := by
  simp only [v70, v14]
  dsimp only [Ty.T]
  have cc : ∀ (p q r : Bool), cond p q r = true ↔ (p = true ∧ q = true) ∨ (p = false ∧ r = true) := by decide
  have cf : ∀ (p q r : Bool), cond p q r = false ↔ (p = true ∧ q = false) ∨ (p = false ∧ r = false) := by decide
  cases t <;> simp [cc, cf]
theorem partOk (e : Ty.T y115) : v100 e = v96 e := by
  obtain ⟨a, b, c, d, n, z, t⟩ := e
  have h := evNo' a b c d z t
  simp only [v100, v96, evOk]
  by_cases hn : n = (-1 : Int)
  · subst hn
    rw [h]
    cases (a == (2 : Int)) <;> simp [bne, *]
  · have h1 : (n == (-1 : Int)) = false := by simpa using hn
    simp only [h1]
    cases (v70 (a, b, c, d, n, z, t)) <;> cases (a == (2 : Int)) <;> simp [bne, *]
theorem patOk' (k : Int) (w : Int) (s : Int) (p : Int) (l : Int) (t : Int) (z : Int) : v81 ((k, w, s, p, l, t, z) : Ty.T y49) = v65 ((k, w, s, p, l, t, z) : Ty.T y49) := by
  simp only [v81, v65, v14, v46, v52, v98, v79]
  dsimp only [Ty.T]
  have cc : ∀ (p q r : Bool), cond p q r = true ↔ (p = true ∧ q = true) ∨ (p = false ∧ r = true) := by decide
  have cf : ∀ (p q r : Bool), cond p q r = false ↔ (p = true ∧ q = false) ∨ (p = false ∧ r = false) := by decide
  by_cases h1 : k = 1
  · subst h1; rw [Bool.eq_iff_iff]; simp [cc, cf, *] <;> omega
  by_cases h2 : k = 2
  · subst h2; rw [Bool.eq_iff_iff]; simp [cc, cf, *] <;> omega
  by_cases h3 : k = 3
  · subst h3; rw [Bool.eq_iff_iff]; simp [cc, cf, *] <;> omega
  by_cases h4 : k = 4
  · subst h4; rw [Bool.eq_iff_iff]; simp [cc, cf, *] <;> omega
  by_cases h5 : k = 5
  · subst h5; rw [Bool.eq_iff_iff]; simp [cc, cf, *] <;> omega
  by_cases h6 : k = 6
  · subst h6; rw [Bool.eq_iff_iff]; simp [cc, cf, *] <;> omega
  rw [Bool.eq_iff_iff]; simp [cc, cf, *] <;> omega
theorem patOk (e : Ty.T y49) : v81 e = v65 e := by
  obtain ⟨k, w, s, p, l, t, z⟩ := e
  exact patOk' k w s p l t z
theorem guardOk' (k : Int) (n : Int) : v82 ((k, n) : Ty.T y51) = v66 ((k, n) : Ty.T y51) := by
  simp only [v82, v66, v14, v46, v28]
  dsimp only [Ty.T]
  have cc : ∀ (p q r : Bool), cond p q r = true ↔ (p = true ∧ q = true) ∨ (p = false ∧ r = true) := by decide
  have cf : ∀ (p q r : Bool), cond p q r = false ↔ (p = true ∧ q = false) ∨ (p = false ∧ r = false) := by decide
  by_cases h0 : k = 0
  · subst h0; rw [Bool.eq_iff_iff]; simp [cc, cf, *] <;> omega
  by_cases h1 : k = 1
  · subst h1; rw [Bool.eq_iff_iff]; simp [cc, cf, *] <;> omega
  by_cases h2 : k = 2
  · subst h2; rw [Bool.eq_iff_iff]; simp [cc, cf, *] <;> omega
  by_cases h3 : k = 3
  · subst h3; rw [Bool.eq_iff_iff]; simp [cc, cf, *] <;> omega
  by_cases h4 : k = 4
  · subst h4; rw [Bool.eq_iff_iff]; simp [cc, cf, *] <;> omega
  by_cases h5 : k = 5
  · subst h5; rw [Bool.eq_iff_iff]; simp [cc, cf, *] <;> omega
  rw [Bool.eq_iff_iff]; simp [cc, cf, *] <;> omega
theorem guardOk (e : Ty.T y51) : v82 e = v66 e := by
  obtain ⟨k, n⟩ := e
  exact guardOk' k n
theorem specAct (a : Ty.T y54) (hb : a.2.2.2.2.2.2.length ≤ 1048576) : (a.2.2.2.2.2.2.any (fun x => !v96 x) = true ∧ k67_0 false 0 a 0 = true ∧ ∃ j : Nat, w67_0 false 0 a = (false, (j : Int), a, ())) ∨ (a.2.2.2.2.2.2.any (fun x => !v96 x) = false ∧ k67_0 false 0 a 0 = false ∧ k67_0 false 0 a 1 = true ∧ w67_0 false 0 a = (false, (a.2.2.2.2.2.2.length : Int), a, ())) := by
  have h := find_iter (s := s67_0) (mk := fun i => (false, i, a, ())) (fin := fun i => (false, (i : Int), a, ())) (p := fun i => match a.2.2.2.2.2.2[i]? with | some x => !v96 x | none => false) (N := a.2.2.2.2.2.2.length) (fun i hi => by
    have h1 := List.getElem?_eq_getElem hi
    simp only [h1]
    skip
    cases ht : (v96 a.2.2.2.2.2.2[i] : Bool) <;> simp [s67_0, t67_0, optC_some, hi, h1, ht,  wrap_nat (n := i) (by omega)]) (by simp [s67_0, t67_0]) a.2.2.2.2.2.2.length 0 (n67_0 (false, 0, a, ())) (by omega) (by simp only [n67_0]; omega)
  have hf := first_any (p := fun x => !v96 x) (xs := a.2.2.2.2.2.2) (q := fun i => match a.2.2.2.2.2.2[i]? with | some x => !v96 x | none => false) (fun i x h1 => by simp only [h1])
  revert h hf
  generalize first _ 0 a.2.2.2.2.2.2.length = o
  intro h hf
  cases o with
  | none => exact .inr ⟨hf.symm, at_of h 0, at_of h 1, val_of h⟩
  | some j => exact .inl ⟨hf.symm, at_of h 0, j, val_of h⟩
theorem specBatch (l : List (Ty.T y115)) (hb : l.length ≤ 1048576) : (l.any (fun x => !v70 x) = true ∧ k39_0 l false 0 0 = true ∧ ∃ j : Nat, w39_0 l false 0 = (l, false, (j : Int), ())) ∨ (l.any (fun x => !v70 x) = false ∧ k39_0 l false 0 0 = false ∧ k39_0 l false 0 1 = true ∧ w39_0 l false 0 = (l, false, (l.length : Int), ())) := by
  have h := find_iter (s := s39_0) (mk := fun i => (l, false, i, ())) (fin := fun i => (l, false, (i : Int), ())) (p := fun i => match l[i]? with | some x => !v70 x | none => false) (N := l.length) (fun i hi => by
    have h1 := List.getElem?_eq_getElem hi
    simp only [h1]
    skip
    cases ht : (v70 l[i] : Bool) <;> simp [s39_0, t39_0, optC_some, hi, h1, ht,  wrap_nat (n := i) (by omega)]) (by simp [s39_0, t39_0]) l.length 0 (n39_0 (l, false, 0, ())) (by omega) (by simp only [n39_0]; omega)
  have hf := first_any (p := fun x => !v70 x) (xs := l) (q := fun i => match l[i]? with | some x => !v70 x | none => false) (fun i x h1 => by simp only [h1])
  revert h hf
  generalize first _ 0 l.length = o
  intro h hf
  cases o with
  | none => exact .inr ⟨hf.symm, at_of h 0, at_of h 1, val_of h⟩
  | some j => exact .inl ⟨hf.symm, at_of h 0, j, val_of h⟩
theorem implAct' (l : List (Ty.T y115)) (hb : l.length ≤ 1048576) : (l.any (fun x => !v96 x) = true ∧ k102c1_0 l 0 ((l).length : Int) 0 0 = true ∧ ∃ j : Nat, w102c1_0 l 0 ((l).length : Int) 0 = (l, (j : Int), ((l).length : Int), (j : Int), ())) ∨ (l.any (fun x => !v96 x) = false ∧ k102c1_0 l 0 ((l).length : Int) 0 0 = false ∧ k102c1_0 l 0 ((l).length : Int) 0 1 = true ∧ w102c1_0 l 0 ((l).length : Int) 0 = (l, 0, ((l).length : Int), (l.length : Int), ())) := by
  have h := find_iter (s := s102c1_0) (mk := fun i => (l, 0, ((l).length : Int), i, ())) (fin := fun i => (l, (i : Int), ((l).length : Int), (i : Int), ())) (p := fun i => match l[i]? with | some x => !v96 x | none => false) (N := l.length) (fun i hi => by
    have h1 := List.getElem?_eq_getElem hi
    simp only [h1]
    skip
    cases ht : (v96 l[i] : Bool) <;> simp [s102c1_0, t102c1_0, optC_some, hi, h1, ht, v99, partOk, wrap_nat (n := i) (by omega)]) (by simp [s102c1_0, t102c1_0]) l.length 0 (n102c1_0 (l, 0, ((l).length : Int), 0, ())) (by omega) (by simp only [n102c1_0]; omega)
  have hf := first_any (p := fun x => !v96 x) (xs := l) (q := fun i => match l[i]? with | some x => !v96 x | none => false) (fun i x h1 => by simp only [h1])
  revert h hf
  generalize first _ 0 l.length = o
  intro h hf
  cases o with
  | none => exact .inr ⟨hf.symm, at_of h 0, at_of h 1, val_of h⟩
  | some j => exact .inl ⟨hf.symm, at_of h 0, j, val_of h⟩
theorem implAct (l : List (Ty.T y115)) (hb : l.length ≤ 1048576) : d86c1 l = true ∧ v86c1 l = l.any (fun x => !v96 x) := by
  unfold d86c1 v86c1 d102c1 v102c1
  rcases implAct' l hb with ⟨hB, e0, j, hw⟩ | ⟨hB, e0, e1, hw⟩
  · rw [e0, hw, hB]
    exact ⟨rfl, decide_eq_true (show ((j : Int)) ≥ 0 by omega)⟩
  · rw [e0, e1, hB]
    exact ⟨rfl, rfl⟩
theorem implBatch' (l : List (Ty.T y115)) (hb : l.length ≤ 1048576) : (l.any (fun x => !v70 x) = true ∧ k102c2_0 l 0 ((l).length : Int) 0 0 = true ∧ ∃ j : Nat, w102c2_0 l 0 ((l).length : Int) 0 = (l, (j : Int), ((l).length : Int), (j : Int), ())) ∨ (l.any (fun x => !v70 x) = false ∧ k102c2_0 l 0 ((l).length : Int) 0 0 = false ∧ k102c2_0 l 0 ((l).length : Int) 0 1 = true ∧ w102c2_0 l 0 ((l).length : Int) 0 = (l, 0, ((l).length : Int), (l.length : Int), ())) := by
  have h := find_iter (s := s102c2_0) (mk := fun i => (l, 0, ((l).length : Int), i, ())) (fin := fun i => (l, (i : Int), ((l).length : Int), (i : Int), ())) (p := fun i => match l[i]? with | some x => !v70 x | none => false) (N := l.length) (fun i hi => by
    have h1 := List.getElem?_eq_getElem hi
    simp only [h1]
    skip
    cases ht : (v70 l[i] : Bool) <;> simp [s102c2_0, t102c2_0, optC_some, hi, h1, ht, v87, evOk, wrap_nat (n := i) (by omega)]) (by simp [s102c2_0, t102c2_0]) l.length 0 (n102c2_0 (l, 0, ((l).length : Int), 0, ())) (by omega) (by simp only [n102c2_0]; omega)
  have hf := first_any (p := fun x => !v70 x) (xs := l) (q := fun i => match l[i]? with | some x => !v70 x | none => false) (fun i x h1 => by simp only [h1])
  revert h hf
  generalize first _ 0 l.length = o
  intro h hf
  cases o with
  | none => exact .inr ⟨hf.symm, at_of h 0, at_of h 1, val_of h⟩
  | some j => exact .inl ⟨hf.symm, at_of h 0, j, val_of h⟩
theorem implBatch (l : List (Ty.T y115)) (hb : l.length ≤ 1048576) : d86c2 l = true ∧ v86c2 l = l.any (fun x => !v70 x) := by
  unfold d86c2 v86c2 d102c2 v102c2
  rcases implBatch' l hb with ⟨hB, e0, j, hw⟩ | ⟨hB, e0, e1, hw⟩
  · rw [e0, hw, hB]
    exact ⟨rfl, decide_eq_true (show ((j : Int)) ≥ 0 by omega)⟩
  · rw [e0, e1, hB]
    exact ⟨rfl, rfl⟩
theorem batchOk (l : List (Ty.T y115)) (hb : l.length ≤ 1048576) : d39 l = true ∧ d57 l = true ∧ v57 l = v39 l := by
  have h := implBatch l hb
  unfold d39 d57 v39 v57
  rw [h.1, h.2]
  rcases specBatch l hb with ⟨hB, e0, j, hw⟩ | ⟨hB, e0, e1, hw⟩
  · rw [e0, hw, hB]
    cases decide ((l.length : Int) ≤ (4 : Int)) <;> exact ⟨rfl, rfl, rfl⟩
  · rw [e0, e1, hw, hB]
    simp only [cond_true, cond_false]
    cases decide ((l.length : Int) ≤ (4 : Int)) <;> simp
theorem actFits' (k n p s z kind : Int) (b : Bool) (l : List (Ty.T y115)) : v84 ((k, n, p, s, z, b, l) : Ty.T y54) kind = v68 ((k, n, p, s, z, b, l) : Ty.T y54) kind := by
  simp only [v84, v68, v14, v46, v98]
  dsimp only [Ty.T]
  have cc : ∀ (p q r : Bool), cond p q r = true ↔ (p = true ∧ q = true) ∨ (p = false ∧ r = true) := by decide
  have cf : ∀ (p q r : Bool), cond p q r = false ↔ (p = true ∧ q = false) ∨ (p = false ∧ r = false) := by decide
  by_cases h1 : k = 1
  · subst h1; rw [Bool.eq_iff_iff]; simp [cc, cf] <;> omega
  by_cases h2 : k = 2
  · subst h2; rw [Bool.eq_iff_iff]; simp [cc, cf] <;> omega
  by_cases h3 : k = 3
  · subst h3; rw [Bool.eq_iff_iff]; simp [cc, cf] <;> omega
  by_cases h4 : k = 4
  · subst h4; rw [Bool.eq_iff_iff]; simp [cc, cf] <;> omega
  by_cases h5 : k = 5
  · subst h5; rw [Bool.eq_iff_iff]; simp [cc, cf] <;> omega
  by_cases h6 : k = 6
  · subst h6; rw [Bool.eq_iff_iff]; simp [cc, cf] <;> omega
  by_cases h7 : k = 7
  · subst h7; rw [Bool.eq_iff_iff]; simp [cc, cf] <;> omega
  by_cases h8 : k = 8
  · subst h8; rw [Bool.eq_iff_iff]; simp [cc, cf] <;> omega
  by_cases h9 : k = 9
  · subst h9; rw [Bool.eq_iff_iff]; simp [cc, cf] <;> omega
  rw [Bool.eq_iff_iff]; simp [cc, cf, *] <;> omega
theorem actFits (a : Ty.T y54) (kind : Int) : v84 a kind = v68 a kind := by
  obtain ⟨k, n, p, s, z, b, l⟩ := a
  exact actFits' k n p s z kind b l
theorem actOk' (k n p s z : Int) (b : Bool) (l : List (Ty.T y115)) (hb : l.length ≤ 1048576) : d67 ((k, n, p, s, z, b, l) : Ty.T y54) = true ∧ d83 ((k, n, p, s, z, b, l) : Ty.T y54) = true ∧ v83 ((k, n, p, s, z, b, l) : Ty.T y54) = v67 ((k, n, p, s, z, b, l) : Ty.T y54) := by
  have hi := implAct l hb
  have hs := specAct ((k, n, p, s, z, b, l) : Ty.T y54) hb
  dsimp only at hs
  have cc : ∀ (p q r : Bool), cond p q r = true ↔ (p = true ∧ q = true) ∨ (p = false ∧ r = true) := by decide
  have cf : ∀ (p q r : Bool), cond p q r = false ↔ (p = true ∧ q = false) ∨ (p = false ∧ r = false) := by decide
  rcases hs with ⟨hB, e0, j, hw⟩ | ⟨hB, e0, e1, hw⟩
  · simp only [d67, d83, v67, v83, c83_0, c83_1, c83_2, c83_3, c83_4, c83_5, g83_5, v95, v14, v46, v56, v77, v78, hi.1, hi.2, hB, e0, hw]
    dsimp only [Ty.T]
    have hl : 0 ≤ (List.length (α := Ty.T y115) l : Int) := by omega
    generalize (List.length (α := Ty.T y115) l : Int) = m at hl
    by_cases h1 : k = 1
    · subst h1; refine ⟨by simp, by simp, ?_⟩; rw [Bool.eq_iff_iff]; cases b <;> simp [cc, cf, *] <;> omega
    by_cases h2 : k = 2
    · subst h2; refine ⟨by simp, by simp, ?_⟩; rw [Bool.eq_iff_iff]; cases b <;> simp [cc, cf, *] <;> omega
    by_cases h3 : k = 3
    · subst h3; refine ⟨by simp, by simp, ?_⟩; rw [Bool.eq_iff_iff]; cases b <;> simp [cc, cf, *] <;> omega
    by_cases h4 : k = 4
    · subst h4; refine ⟨by simp, by simp, ?_⟩; rw [Bool.eq_iff_iff]; cases b <;> simp [cc, cf, *] <;> omega
    by_cases h5 : k = 5
    · subst h5; refine ⟨by simp, by simp, ?_⟩; rw [Bool.eq_iff_iff]; cases b <;> simp [cc, cf, *] <;> omega
    by_cases h6 : k = 6
    · subst h6; refine ⟨by simp, by simp, ?_⟩; rw [Bool.eq_iff_iff]; cases b <;> simp [cc, cf, *] <;> omega
    by_cases h7 : k = 7
    · subst h7; refine ⟨by simp, by simp, ?_⟩; rw [Bool.eq_iff_iff]; cases b <;> simp [cc, cf, *] <;> omega
    by_cases h8 : k = 8
    · subst h8; refine ⟨by simp, by simp, ?_⟩; rw [Bool.eq_iff_iff]; cases b <;> simp [cc, cf, *] <;> omega
    by_cases h9 : k = 9
    · subst h9; refine ⟨by simp, by simp, ?_⟩; rw [Bool.eq_iff_iff]; cases b <;> simp [cc, cf, *] <;> omega
    refine ⟨by simp [*], by simp [*], ?_⟩; rw [Bool.eq_iff_iff]; cases b <;> simp [cc, cf, *] <;> omega
  · simp only [d67, d83, v67, v83, c83_0, c83_1, c83_2, c83_3, c83_4, c83_5, g83_5, v95, v14, v46, v56, v77, v78, hi.1, hi.2, hB, e0, e1, hw]
    dsimp only [Ty.T]
    have hl : 0 ≤ (List.length (α := Ty.T y115) l : Int) := by omega
    generalize (List.length (α := Ty.T y115) l : Int) = m at hl
    by_cases h1 : k = 1
    · subst h1; refine ⟨by simp, by simp, ?_⟩; rw [Bool.eq_iff_iff]; cases b <;> simp [cc, cf, *] <;> omega
    by_cases h2 : k = 2
    · subst h2; refine ⟨by simp, by simp, ?_⟩; rw [Bool.eq_iff_iff]; cases b <;> simp [cc, cf, *] <;> omega
    by_cases h3 : k = 3
    · subst h3; refine ⟨by simp, by simp, ?_⟩; rw [Bool.eq_iff_iff]; cases b <;> simp [cc, cf, *] <;> omega
    by_cases h4 : k = 4
    · subst h4; refine ⟨by simp, by simp, ?_⟩; rw [Bool.eq_iff_iff]; cases b <;> simp [cc, cf, *] <;> omega
    by_cases h5 : k = 5
    · subst h5; refine ⟨by simp, by simp, ?_⟩; rw [Bool.eq_iff_iff]; cases b <;> simp [cc, cf, *] <;> omega
    by_cases h6 : k = 6
    · subst h6; refine ⟨by simp, by simp, ?_⟩; rw [Bool.eq_iff_iff]; cases b <;> simp [cc, cf, *] <;> omega
    by_cases h7 : k = 7
    · subst h7; refine ⟨by simp, by simp, ?_⟩; rw [Bool.eq_iff_iff]; cases b <;> simp [cc, cf, *] <;> omega
    by_cases h8 : k = 8
    · subst h8; refine ⟨by simp, by simp, ?_⟩; rw [Bool.eq_iff_iff]; cases b <;> simp [cc, cf, *] <;> omega
    by_cases h9 : k = 9
    · subst h9; refine ⟨by simp, by simp, ?_⟩; rw [Bool.eq_iff_iff]; cases b <;> simp [cc, cf, *] <;> omega
    refine ⟨by simp [*], by simp [*], ?_⟩; rw [Bool.eq_iff_iff]; cases b <;> simp [cc, cf, *] <;> omega
theorem actOk (a : Ty.T y54) (hb : a.2.2.2.2.2.2.length ≤ 1048576) : d67 a = true ∧ d83 a = true ∧ v83 a = v67 a := by
  obtain ⟨k, n, p, s, z, b, l⟩ := a
  exact actOk' k n p s z b l hb
theorem effectOk' (i1 i2 i3 i4 : Int) (p : Ty.T y49) (g : Ty.T y51) (a : Ty.T y54) (u l : Int) (hb : a.2.2.2.2.2.2.length ≤ 1048576) : d37 ((i1, i2, i3, i4, p, g, a, u, l) : Ty.T y56) = true ∧ d53 ((i1, i2, i3, i4, p, g, a, u, l) : Ty.T y56) = true ∧ v53 ((i1, i2, i3, i4, p, g, a, u, l) : Ty.T y56) = v37 ((i1, i2, i3, i4, p, g, a, u, l) : Ty.T y56) := by
  have ha := actOk a hb
  simp only [d37, d53, v37, v53, v14, v46, v56, v77, patOk, guardOk, actFits, ha.1, ha.2.1, ha.2.2]
  generalize v65 p = b1
  generalize v66 g = b2
  generalize v68 a p.1 = b3
  generalize v67 a = b4
  generalize (a.1 == (2 : Int)) = b5
  dsimp only [Ty.T]
  have cc : ∀ (p q r : Bool), cond p q r = true ↔ (p = true ∧ q = true) ∨ (p = false ∧ r = true) := by decide
  have cf : ∀ (p q r : Bool), cond p q r = false ↔ (p = true ∧ q = false) ∨ (p = false ∧ r = false) := by decide
  cases b5
  · cases b1 <;> cases b2 <;> cases b3 <;> cases b4 <;> (refine ⟨by simp, by simp, ?_⟩; rw [Bool.eq_iff_iff]; simp [cc, cf] <;> omega)
  · cases b1 <;> cases b2 <;> cases b3 <;> cases b4 <;> (refine ⟨by simp, by simp, ?_⟩; rw [Bool.eq_iff_iff]; simp [cc, cf] <;> omega)
theorem effectOk (e : Ty.T y56) (hb : e.2.2.2.2.2.2.1.2.2.2.2.2.2.length ≤ 1048576) : d37 e = true ∧ d53 e = true ∧ v53 e = v37 e := by
  obtain ⟨i1, i2, i3, i4, p, g, a, u, l⟩ := e
  exact effectOk' i1 i2 i3 i4 p g a u l hb
theorem emptyS (a b : Ty.T y54) (ha : a.2.2.2.2.2.2 = []) : k69_0 false 0 b a 0 = false ∧ k69_0 false 0 b a 1 = true := by
  have h : iter s69_0 (n69_0 (false, 0, b, a, ())) (false, 0, b, a, ()) = some (1, (false, 0, b, a, ())) := by
    obtain ⟨m, hm⟩ : ∃ m, n69_0 (false, 0, b, a, ()) = m + 1 := ⟨n69_0 (false, 0, b, a, ()) - 1, by simp only [n69_0]; omega⟩
    rw [hm, iter]
    simp [s69_0, t69_0, ha]
  exact ⟨at_of h 0, at_of h 1⟩
theorem emptyE (b : Bool) : d101 ([] : List (Ty.T y115)) [] = true ∧ v101 ([] : List (Ty.T y115)) [] = true := by
  have h : iter s101_0 (n101_0 (([] : List (Ty.T y115)), ([] : List (Ty.T y115)), false, ((([] : List (Ty.T y115))).length : Int), 0, ())) (([] : List (Ty.T y115)), ([] : List (Ty.T y115)), false, ((([] : List (Ty.T y115))).length : Int), 0, ()) = some (1, (([] : List (Ty.T y115)), ([] : List (Ty.T y115)), false, ((([] : List (Ty.T y115))).length : Int), 0, ())) := by
    obtain ⟨m, hm⟩ : ∃ m, n101_0 (([] : List (Ty.T y115)), ([] : List (Ty.T y115)), false, ((([] : List (Ty.T y115))).length : Int), 0, ()) = m + 1 := ⟨n101_0 (([] : List (Ty.T y115)), ([] : List (Ty.T y115)), false, ((([] : List (Ty.T y115))).length : Int), 0, ()) - 1, by simp only [n101_0]; omega⟩
    rw [hm, iter]
    simp [s101_0, t101_0]
  have e0 : k101_0 ([] : List (Ty.T y115)) ([] : List (Ty.T y115)) false ((([] : List (Ty.T y115))).length : Int) 0 0 = false := at_of h 0
  have e1 : k101_0 ([] : List (Ty.T y115)) ([] : List (Ty.T y115)) false ((([] : List (Ty.T y115))).length : Int) 0 1 = true := at_of h 1
  unfold d101 v101
  rw [e0, e1]
  exact ⟨rfl, rfl⟩
theorem nonE (x : Ty.T y115) (l : List (Ty.T y115)) : d101 (x :: l) [] = true ∧ v101 (x :: l) [] = false := by
  have h : (((x :: l).length : Int) != (([] : List (Ty.T y115)).length : Int)) = true := by simp only [List.length_cons, List.length_nil, bne_iff_ne, ne_eq]; omega
  unfold d101 v101
  rw [h]
  exact ⟨rfl, rfl⟩
theorem sameZ (e : Ty.T y56) : d69 e (0, (0, (0, (0, ((0, (0, (0, (0, (0, (0, 0)))))), ((0, 0), ((0, (0, (0, (0, (0, (false, [])))))), (0, 0)))))))) = true ∧ d55 e (0, (0, (0, (0, ((0, (0, (0, (0, (0, (0, 0)))))), ((0, 0), ((0, (0, (0, (0, (0, (false, [])))))), (0, 0)))))))) = true ∧ v55 e (0, (0, (0, (0, ((0, (0, (0, (0, (0, (0, 0)))))), ((0, 0), ((0, (0, (0, (0, (0, (false, [])))))), (0, 0)))))))) = v69 e (0, (0, (0, (0, ((0, (0, (0, (0, (0, (0, 0)))))), ((0, 0), ((0, (0, (0, (0, (0, (false, [])))))), (0, 0)))))))) := by
  obtain ⟨i1, i2, i3, i4, p, g, ⟨k, n, q, s, z, b, l⟩, u, m⟩ := e
  cases l with
  | nil =>
    have h1 := emptyS (k, n, q, s, z, b, []) (0, (0, (0, (0, (0, (false, [])))))) rfl
    have h2 := emptyE true
    simp only [d69, d55, v69, v55, d85, v85, h1.1, h1.2, h2.1, h2.2, bne]
    generalize ((p.1 == (0 : Int)) && ((p.2.1 == (0 : Int)) && ((p.2.2.1 == (0 : Int)) && ((p.2.2.2.1 == (0 : Int)) && ((p.2.2.2.2.1 == (0 : Int)) && ((p.2.2.2.2.2.1 == (0 : Int)) && ((p.2.2.2.2.2.2 == (0 : Int)) && true))))))) = P
    generalize ((g.1 == (0 : Int)) && ((g.2 == (0 : Int)) && true)) = G
    generalize (b == false) = B
    cases P
    · simp
    cases G
    · simp
    cases (i1 == (0 : Int))
    · simp
    cases (i2 == (0 : Int))
    · simp
    cases (i3 == (0 : Int))
    · simp
    cases (i4 == (0 : Int))
    · simp
    cases (u == (0 : Int))
    · simp
    cases (m == (0 : Int))
    · simp
    cases (k == (0 : Int))
    · simp
    cases (n == (0 : Int))
    · simp
    cases (q == (0 : Int))
    · simp
    cases (s == (0 : Int))
    · simp
    cases (z == (0 : Int))
    · simp
    cases B
    · simp
    first | (simp; done) | (simp; exact ⟨.inl (by omega), fun h => absurd h (by omega)⟩)
  | cons x l =>
    have h2 := nonE x l
    have hl : (((x :: l).length : Int) != (([] : List (Ty.T y115)).length : Int)) = true := by simp only [List.length_cons, List.length_nil, bne_iff_ne, ne_eq]; omega
    simp only [d69, d55, v69, v55, d85, v85, hl, h2.1, h2.2, bne]
    generalize ((p.1 == (0 : Int)) && ((p.2.1 == (0 : Int)) && ((p.2.2.1 == (0 : Int)) && ((p.2.2.2.1 == (0 : Int)) && ((p.2.2.2.2.1 == (0 : Int)) && ((p.2.2.2.2.2.1 == (0 : Int)) && ((p.2.2.2.2.2.2 == (0 : Int)) && true))))))) = P
    generalize ((g.1 == (0 : Int)) && ((g.2 == (0 : Int)) && true)) = G
    generalize (b == false) = B
    cases P
    · simp
    cases G
    · simp
    cases (i1 == (0 : Int))
    · simp
    cases (i2 == (0 : Int))
    · simp
    cases (i3 == (0 : Int))
    · simp
    cases (i4 == (0 : Int))
    · simp
    cases (u == (0 : Int))
    · simp
    cases (m == (0 : Int))
    · simp
    cases (k == (0 : Int))
    · simp
    cases (n == (0 : Int))
    · simp
    cases (q == (0 : Int))
    · simp
    cases (s == (0 : Int))
    · simp
    cases (z == (0 : Int))
    · simp
    cases B
    · simp
    first | (simp; done) | (simp; exact ⟨.inl (by omega), fun h => absurd h (by omega)⟩)
theorem orderOk' (k i : Int) (e : Ty.T y56) (l : List (Ty.T y115)) (h1 : e.2.2.2.2.2.2.1.2.2.2.2.2.2.length ≤ 1048576) (h2 : l.length ≤ 1048576) : d13 ((k, e, i, l) : Ty.T y58) = true ∧ d25 ((k, e, i, l) : Ty.T y58) = true ∧ v25 ((k, e, i, l) : Ty.T y58) = v13 ((k, e, i, l) : Ty.T y58) := by
  have ha := effectOk e h1
  have hz := sameZ e
  have hb := batchOk l h2
  simp only [d13, d25, v13, v25, d38, v38, ha.1, ha.2.1, ha.2.2, hz.1, hz.2.1, hz.2.2, hb.1, hb.2.1, hb.2.2, v14, v46, v56]
  generalize v37 e = b1
  generalize v69 e (0, (0, (0, (0, ((0, (0, (0, (0, (0, (0, 0)))))), ((0, 0), ((0, (0, (0, (0, (0, (false, [])))))), (0, 0)))))))) = b2
  generalize v39 l = b3
  have hl : 0 ≤ (List.length (α := Ty.T y115) l : Int) := by omega
  generalize (List.length (α := Ty.T y115) l : Int) = m at hl
  dsimp only [Ty.T]
  have cc : ∀ (p q r : Bool), cond p q r = true ↔ (p = true ∧ q = true) ∨ (p = false ∧ r = true) := by decide
  have cf : ∀ (p q r : Bool), cond p q r = false ↔ (p = true ∧ q = false) ∨ (p = false ∧ r = false) := by decide
  cases b1 <;> cases b2 <;> cases b3 <;> (refine ⟨by simp, by simp, ?_⟩; rw [Bool.eq_iff_iff]; simp [cc, cf] <;> omega)
theorem orderOk (a : Ty.T y58) (h1 : a.2.1.2.2.2.2.2.2.1.2.2.2.2.2.2.length ≤ 1048576) (h2 : a.2.2.2.length ≤ 1048576) : d13 a = true ∧ d25 a = true ∧ v25 a = v13 a := by
  obtain ⟨k, e, i, l⟩ := a
  exact orderOk' k i e l h1 h2
theorem sim_iter {V W : Type} {s1 : V → Option (Nat × V)} {s2 : W → Option (Nat × W)} {mk1 : Int → V} {mk2 : Int → W} {fin1 : Nat → V} {fin2 : Nat → W} {N : Nat}
    (h : ∀ i : Nat, i < N → (s1 (mk1 (i : Int)) = some (0, mk1 ((i + 1 : Nat) : Int)) ∧ s2 (mk2 (i : Int)) = some (0, mk2 ((i + 1 : Nat) : Int))) ∨ (s1 (mk1 (i : Int)) = some (1, fin1 i) ∧ s2 (mk2 (i : Int)) = some (1, fin2 i)))
    (e1 : s1 (mk1 (N : Int)) = some (2, mk1 (N : Int))) (e2 : s2 (mk2 (N : Int)) = some (2, mk2 (N : Int))) : ∀ (k i n m : Nat), i + k = N → k < n → k < m →
    (∃ j, iter s1 n (mk1 (i : Int)) = some (0, fin1 j) ∧ iter s2 m (mk2 (i : Int)) = some (0, fin2 j)) ∨ (iter s1 n (mk1 (i : Int)) = some (1, mk1 (N : Int)) ∧ iter s2 m (mk2 (i : Int)) = some (1, mk2 (N : Int)))
  | 0, i, n, m, hk, hn, hm => by
    obtain ⟨n, rfl⟩ : ∃ x, n = x + 1 := ⟨n - 1, by omega⟩
    obtain ⟨m, rfl⟩ : ∃ x, m = x + 1 := ⟨m - 1, by omega⟩
    have : i = N := by omega
    subst this
    exact .inr ⟨by rw [iter, e1]; rfl, by rw [iter, e2]; rfl⟩
  | k + 1, i, n, m, hk, hn, hm => by
    obtain ⟨n, rfl⟩ : ∃ x, n = x + 1 := ⟨n - 1, by omega⟩
    obtain ⟨m, rfl⟩ : ∃ x, m = x + 1 := ⟨m - 1, by omega⟩
    rcases h i (by omega) with ⟨a, b⟩ | ⟨a, b⟩
    · rw [iter, a, iter, b]
      exact sim_iter h e1 e2 k (i + 1) n m (by omega) (by omega) (by omega)
    · exact .inl ⟨i, by rw [iter, a]; rfl, by rw [iter, b]; rfl⟩
theorem wrap_pred (j : Nat) (h : (j : Int) ≤ 9223372036854775806) : IntKind.wrap .i64 (((j + 1 : Nat) : Int) - 1) = (j : Int) := by rw [wrap_in (by omega) (by omega)]; omega
theorem pieceOk' (a : Int) (b : Int) (c : Int) (d : Int) (e : Int) (f : Int) (g : Int) (h : Int) (p : Int) (q : Int) (r : Int) (s : Bool) (t : Bool) : v49 ((a, b, c, d, e, f, g, h, p, q, r, s, t) : Ty.T y90) = v40 ((a, b, c, d, e, f, g, h, p, q, r, s, t) : Ty.T y90) := by
  simp only [v49, v40, v14, v46, v56, v77, v78, v48, v79, v52]
  dsimp only [Ty.T]
  have cc : ∀ (p q r : Bool), cond p q r = true ↔ (p = true ∧ q = true) ∨ (p = false ∧ r = true) := by decide
  have cf : ∀ (p q r : Bool), cond p q r = false ↔ (p = true ∧ q = false) ∨ (p = false ∧ r = false) := by decide
  rw [Bool.eq_iff_iff]; cases s <;> cases t <;> simp [cc, cf, *] <;> omega
theorem pieceOk (e : Ty.T y90) : v49 e = v40 e := by
  obtain ⟨a, b, c, d, e, f, g, h, p, q, r, s, t⟩ := e
  exact pieceOk' a b c d e f g h p q r s t
theorem pieceLow (p : Ty.T y90) (h : v40 p = true) : (0 : Int) ≤ p.2.1 ∧ (0 : Int) ≤ p.2.2.1 := by
  simp only [v40, v14] at h
  have cc : ∀ (p q r : Bool), cond p q r = true ↔ (p = true ∧ q = true) ∨ (p = false ∧ r = true) := by decide
  have cf : ∀ (p q r : Bool), cond p q r = false ↔ (p = true ∧ q = false) ∨ (p = false ∧ r = false) := by decide
  simp [cc, cf] at h
  dsimp only [Ty.T] at h ⊢
  omega
theorem side' (x m : Int) (hx : 0 ≤ x) (hm : 0 ≤ m) (hm2 : m ≤ 1048576) : v46 x 0 (IntKind.wrap .i64 (m - 1)) = !decide (x ≥ m) := by
  rw [wrap_in (by omega) (by omega)]
  simp only [v46]
  rw [Bool.eq_iff_iff]
  have cc : ∀ (p q r : Bool), cond p q r = true ↔ (p = true ∧ q = true) ∨ (p = false ∧ r = true) := by decide
  have cf : ∀ (p q r : Bool), cond p q r = false ↔ (p = true ∧ q = false) ∨ (p = false ∧ r = false) := by decide
  simp [cc, cf]
  omega
theorem statePs (a : Ty.T y35) (hb : a.1.length ≤ 1048576) (hl : a.2.1.length ≤ 1048576) : (∃ j : Nat, iter s15_0 (n15_0 (false, 0, a, ())) (false, 0, a, ()) = some (0, (false, (j : Int), a, ())) ∧ iter s21_0 (n21_0 (false, a.1, ((a.1).length : Int), 0, a, ())) (false, a.1, ((a.1).length : Int), 0, a, ()) = some (0, (false, a.1, ((a.1).length : Int), (j : Int), a, ()))) ∨ (iter s15_0 (n15_0 (false, 0, a, ())) (false, 0, a, ()) = some (1, (false, (a.1.length : Int), a, ())) ∧ iter s21_0 (n21_0 (false, a.1, ((a.1).length : Int), 0, a, ())) (false, a.1, ((a.1).length : Int), 0, a, ()) = some (1, (false, a.1, ((a.1).length : Int), (a.1.length : Int), a, ()))) := by
  refine sim_iter (s1 := s15_0) (s2 := s21_0) (mk1 := fun i => (false, i, a, ())) (mk2 := fun i => (false, a.1, ((a.1).length : Int), i, a, ())) (fin1 := fun i => (false, (i : Int), a, ())) (fin2 := fun i => (false, a.1, ((a.1).length : Int), (i : Int), a, ())) (N := a.1.length) (fun i hi => ?_) (by simp [s15_0, t15_0]) (by simp [s21_0, t21_0]) a.1.length 0 _ _ (by omega) (by simp only [n15_0]; omega) (by simp only [n21_0]; omega)
  have h1 : a.1[i]? = some a.1[i] := List.getElem?_eq_getElem hi
  have h3 : (i : Int) < (a.1.length : Int) := by omega
  generalize a.1[i] = p at h1
  cases hp : v40 p with
  | false =>
    refine .inr ⟨?_, ?_⟩
    · simp only [s15_0, t15_0, decide_eq_true h3, cond_true, if_pos (show (0 : Int) ≤ (i : Int) by omega), Int.toNat_natCast, h1, optC_some, hp, Bool.not_false]
    · simp only [s21_0, t21_0, decide_eq_true h3, cond_true, if_pos (show (0 : Int) ≤ (i : Int) by omega), Int.toNat_natCast, h1, optC_some, pieceOk, hp, Bool.not_false]
  | true =>
    have hlow := pieceLow p hp
    have hs1 := side' p.2.1 (a.2.1.length : Int) hlow.1 (by omega) (by omega)
    have hs2 := side' p.2.2.1 (a.2.1.length : Int) hlow.2 (by omega) (by omega)
    have hw := wrap_nat (n := i) (by omega)
    match i, hi, h1, h3, hw with
    | 0, hi, h1, h3, hw =>
      simp only [s15_0, t15_0, s21_0, t21_0, v47, decide_eq_true h3, cond_true, if_pos (show (0 : Int) ≤ ((0 : Nat) : Int) by omega), Int.toNat_natCast, h1, optC_some, pieceOk, hp, Bool.not_true, cond_false, hs1, hs2, Bool.not_not, decide_eq_false (show ¬ ((0 : Nat) : Int) > 0 by omega), hw]
      cases decide (p.2.1 ≥ (a.2.1.length : Int)) <;> cases decide (p.2.2.1 ≥ (a.2.1.length : Int)) <;> cases decide (p.2.2.2.2.1 > a.2.2.2) <;> first | exact .inl ⟨rfl, rfl⟩ | exact .inr ⟨rfl, rfl⟩
    | j + 1, hi, h1, h3, hw =>
      have h2 : a.1[j]? = some a.1[j] := List.getElem?_eq_getElem (by omega)
      generalize a.1[j] = q at h2
      simp only [s15_0, t15_0, s21_0, t21_0, v47, decide_eq_true h3, cond_true, if_pos (show (0 : Int) ≤ ((j + 1 : Nat) : Int) by omega), Int.toNat_natCast, h1, h2, optC_some, pieceOk, hp, Bool.not_true, cond_false, hs1, hs2, Bool.not_not, decide_eq_true (show ((j + 1 : Nat) : Int) > 0 by omega), wrap_pred j (by omega), if_pos (show (0 : Int) ≤ (j : Int) by omega), hw]
      cases decide (q.1 ≥ p.1) <;> cases decide (p.2.1 ≥ (a.2.1.length : Int)) <;> cases decide (p.2.2.1 ≥ (a.2.1.length : Int)) <;> cases decide (p.2.2.2.2.1 > a.2.2.2) <;> first | exact .inl ⟨rfl, rfl⟩ | exact .inr ⟨rfl, rfl⟩
theorem sideOk' (x y : Int) (t : Bool) : v51 ((x, y, t) : Ty.T y94) = !v41 ((x, y, t) : Ty.T y94) := by
  simp only [v51, v41, v14, v46, v28, v52]
  try dsimp only [Ty.T]
  have cc : ∀ (p q r : Bool), cond p q r = true ↔ (p = true ∧ q = true) ∨ (p = false ∧ r = true) := by decide
  have cf : ∀ (p q r : Bool), cond p q r = false ↔ (p = true ∧ q = false) ∨ (p = false ∧ r = false) := by decide
  rw [Bool.eq_iff_iff]
  simp [cc, cf]
  omega
theorem sideOk (s : Ty.T y94) : v51 s = !v41 s := sideOk' s.1 s.2.1 s.2.2
theorem specSides (a : Ty.T y35) (hb : a.2.1.length ≤ 1048576) : (a.2.1.any (fun x => !v41 x) = true ∧ k15_1 false 0 a 0 = true ∧ ∃ j : Nat, w15_1 false 0 a = (false, (j : Int), a, ())) ∨ (a.2.1.any (fun x => !v41 x) = false ∧ k15_1 false 0 a 0 = false ∧ k15_1 false 0 a 1 = true ∧ w15_1 false 0 a = (false, (a.2.1.length : Int), a, ())) := by
  have h := find_iter (s := s15_1) (mk := fun i => (false, i, a, ())) (fin := fun i => (false, (i : Int), a, ())) (p := fun i => match a.2.1[i]? with | some x => !v41 x | none => false) (N := a.2.1.length) (fun i hi => by
    have h1 := List.getElem?_eq_getElem hi
    simp only [h1]
    skip
    cases ht : (v41 a.2.1[i] : Bool) <;> simp [s15_1, t15_1, optC_some, hi, h1, ht,  wrap_nat (n := i) (by omega)]) (by simp [s15_1, t15_1]) a.2.1.length 0 (n15_1 (false, 0, a, ())) (by omega) (by simp only [n15_1]; omega)
  have hf := first_any (p := fun x => !v41 x) (xs := a.2.1) (q := fun i => match a.2.1[i]? with | some x => !v41 x | none => false) (fun i x h1 => by simp only [h1])
  revert h hf
  generalize first _ 0 a.2.1.length = o
  intro h hf
  cases o with
  | none => exact .inr ⟨hf.symm, at_of h 0, at_of h 1, val_of h⟩
  | some j => exact .inl ⟨hf.symm, at_of h 0, j, val_of h⟩
theorem implSides' (l : List (Ty.T y94)) (hb : l.length ≤ 1048576) : (l.any (fun x => !v41 x) = true ∧ k80c1_0 l 0 ((l).length : Int) 0 0 = true ∧ ∃ j : Nat, w80c1_0 l 0 ((l).length : Int) 0 = (l, (j : Int), ((l).length : Int), (j : Int), ())) ∨ (l.any (fun x => !v41 x) = false ∧ k80c1_0 l 0 ((l).length : Int) 0 0 = false ∧ k80c1_0 l 0 ((l).length : Int) 0 1 = true ∧ w80c1_0 l 0 ((l).length : Int) 0 = (l, 0, ((l).length : Int), (l.length : Int), ())) := by
  have h := find_iter (s := s80c1_0) (mk := fun i => (l, 0, ((l).length : Int), i, ())) (fin := fun i => (l, (i : Int), ((l).length : Int), (i : Int), ())) (p := fun i => match l[i]? with | some x => !v41 x | none => false) (N := l.length) (fun i hi => by
    have h1 := List.getElem?_eq_getElem hi
    simp only [h1]
    skip
    cases ht : (v41 l[i] : Bool) <;> simp [s80c1_0, t80c1_0, optC_some, hi, h1, ht, sideOk, wrap_nat (n := i) (by omega)]) (by simp [s80c1_0, t80c1_0]) l.length 0 (n80c1_0 (l, 0, ((l).length : Int), 0, ())) (by omega) (by simp only [n80c1_0]; omega)
  have hf := first_any (p := fun x => !v41 x) (xs := l) (q := fun i => match l[i]? with | some x => !v41 x | none => false) (fun i x h1 => by simp only [h1])
  revert h hf
  generalize first _ 0 l.length = o
  intro h hf
  cases o with
  | none => exact .inr ⟨hf.symm, at_of h 0, at_of h 1, val_of h⟩
  | some j => exact .inl ⟨hf.symm, at_of h 0, j, val_of h⟩
theorem implSides (l : List (Ty.T y94)) (hb : l.length ≤ 1048576) : d50c1 l = true ∧ v50c1 l = l.any (fun x => !v41 x) := by
  unfold d50c1 v50c1 d80c1 v80c1
  rcases implSides' l hb with ⟨hB, e0, j, hw⟩ | ⟨hB, e0, e1, hw⟩
  · rw [e0, hw, hB]
    exact ⟨rfl, decide_eq_true (show ((j : Int)) ≥ 0 by omega)⟩
  · rw [e0, e1, hB]
    exact ⟨rfl, rfl⟩
theorem stateOk (a : Ty.T y35) (hb : a.1.length ≤ 1048576) (hl : a.2.1.length ≤ 1048576) : d15 a = true ∧ d21 a = true ∧ v21 a = v15 a := by
  have hi := implSides a.2.1 hl
  unfold d15 d21 v15 v21
  simp only [v47, v48, v46, v14]
  rcases statePs a hb hl with ⟨j, x1, x2⟩ | ⟨x1, x2⟩
  · have e0 : k15_0 false 0 a 0 = true := at_of x1 0
    have f0 : k21_0 false a.1 ((a.1).length : Int) 0 a 0 = true := at_of x2 0
    have ew : w15_0 false 0 a = _ := val_of x1
    have fw : w21_0 false a.1 ((a.1).length : Int) 0 a = _ := val_of x2
    simp only [e0, f0, ew, fw]
    generalize decide ((a.1.length : Int) > (8 : Int)) = b1
    cases b1
    · refine ⟨?_, ?_, ?_⟩ <;> simp
    · exact ⟨rfl, rfl, rfl⟩
  · have e0 : k15_0 false 0 a 0 = false := at_of x1 0
    have e1 : k15_0 false 0 a 1 = true := at_of x1 1
    have f0 : k21_0 false a.1 ((a.1).length : Int) 0 a 0 = false := at_of x2 0
    have f1 : k21_0 false a.1 ((a.1).length : Int) 0 a 1 = true := at_of x2 1
    have ew : w15_0 false 0 a = _ := val_of x1
    have fw : w21_0 false a.1 ((a.1).length : Int) 0 a = _ := val_of x2
    simp only [e0, e1, f0, f1, ew, fw, hi.1, hi.2]
    rcases specSides a hl with ⟨hB, y0, k, hw⟩ | ⟨hB, y0, y1, hw⟩
    · simp only [y0, hw, hB]
      generalize decide ((a.1.length : Int) > (8 : Int)) = b1
      cases b1
      · refine ⟨?_, ?_, ?_⟩ <;> simp
      · exact ⟨rfl, rfl, rfl⟩
    · simp only [y0, y1, hw, hB]
      generalize decide ((a.1.length : Int) > (8 : Int)) = b1
      cases b1
      · refine ⟨?_, ?_, ?_⟩ <;> simp
      · exact ⟨rfl, rfl, rfl⟩
theorem tableL (l : List (Ty.T y56)) (hb : l.length ≤ 1048576) (hv : ∀ x ∈ l, x.2.2.2.2.2.2.1.2.2.2.2.2.2.length ≤ 1048576) : (∃ j : Nat, iter s16_0 (n16_0 (l, false, 0, ())) (l, false, 0, ()) = some (0, (l, false, (j : Int), ())) ∧ iter s22_0 (n22_0 (l, false, l, ((l).length : Int), 0, ())) (l, false, l, ((l).length : Int), 0, ()) = some (0, (l, false, l, ((l).length : Int), (j : Int), ()))) ∨ (iter s16_0 (n16_0 (l, false, 0, ())) (l, false, 0, ()) = some (1, (l, false, (l.length : Int), ())) ∧ iter s22_0 (n22_0 (l, false, l, ((l).length : Int), 0, ())) (l, false, l, ((l).length : Int), 0, ()) = some (1, (l, false, l, ((l).length : Int), (l.length : Int), ()))) := by
  refine sim_iter (s1 := s16_0) (s2 := s22_0) (mk1 := fun i => (l, false, i, ())) (mk2 := fun i => (l, false, l, ((l).length : Int), i, ())) (fin1 := fun i => (l, false, (i : Int), ())) (fin2 := fun i => (l, false, l, ((l).length : Int), (i : Int), ())) (N := l.length) (fun i hi => ?_) (by simp [s16_0, t16_0]) (by simp [s22_0, t22_0]) l.length 0 _ _ (by omega) (by simp only [n16_0]; omega) (by simp only [n22_0]; omega)
  have h1 : l[i]? = some l[i] := List.getElem?_eq_getElem hi
  have h3 : (i : Int) < (l.length : Int) := by omega
  have hq := effectOk l[i] (hv _ (List.getElem_mem hi))
  generalize l[i] = p at h1 hq
  have hw := wrap_nat (n := i) (by omega)
  match i, hi, h1, h3, hw with
  | 0, hi, h1, h3, hw =>
    simp only [s16_0, t16_0, s22_0, t22_0, decide_eq_true h3, cond_true, if_pos (show (0 : Int) ≤ ((0 : Nat) : Int) by omega), Int.toNat_natCast, h1, optC_some, hq.1, hq.2.1, hq.2.2, decide_eq_false (show ¬ ((0 : Nat) : Int) > 0 by omega), cond_false, hw]
    cases v37 p <;> first | exact .inl ⟨rfl, rfl⟩ | exact .inr ⟨rfl, rfl⟩
  | j + 1, hi, h1, h3, hw =>
    have h2 : l[j]? = some l[j] := List.getElem?_eq_getElem (by omega)
    generalize l[j] = q at h2
    simp only [s16_0, t16_0, s22_0, t22_0, decide_eq_true h3, cond_true, if_pos (show (0 : Int) ≤ ((j + 1 : Nat) : Int) by omega), Int.toNat_natCast, h1, h2, optC_some, hq.1, hq.2.1, hq.2.2, decide_eq_true (show ((j + 1 : Nat) : Int) > 0 by omega), wrap_pred j (by omega), if_pos (show (0 : Int) ≤ (j : Int) by omega), hw]
    cases v37 p <;> cases decide (q.1 ≥ p.1) <;> first | exact .inl ⟨rfl, rfl⟩ | exact .inr ⟨rfl, rfl⟩
theorem tableOk (l : List (Ty.T y56)) (hb : l.length ≤ 1048576) (hv : ∀ x ∈ l, x.2.2.2.2.2.2.1.2.2.2.2.2.2.length ≤ 1048576) : d16 l = true ∧ d22 l = true ∧ v22 l = v16 l := by
  unfold d16 d22 v16 v22
  rcases tableL l hb hv with ⟨j, x1, x2⟩ | ⟨x1, x2⟩
  · have e0 : k16_0 l false 0 0 = true := at_of x1 0
    have f0 : k22_0 l false l ((l).length : Int) 0 0 = true := at_of x2 0
    have ew : w16_0 l false 0 = _ := val_of x1
    have fw : w22_0 l false l ((l).length : Int) 0 = _ := val_of x2
    simp only [e0, f0, ew, fw]
    first | exact ⟨rfl, rfl, rfl⟩ | simp
  · have e0 : k16_0 l false 0 0 = false := at_of x1 0
    have e1 : k16_0 l false 0 1 = true := at_of x1 1
    have f0 : k22_0 l false l ((l).length : Int) 0 0 = false := at_of x2 0
    have f1 : k22_0 l false l ((l).length : Int) 0 1 = true := at_of x2 1
    have ew : w16_0 l false 0 = _ := val_of x1
    have fw : w22_0 l false l ((l).length : Int) 0 = _ := val_of x2
    simp only [e0, e1, f0, f1, ew, fw]
    first | exact ⟨rfl, rfl, rfl⟩ | simp
theorem specOrders (a : Ty.T y39) (hb : a.2.2.1.length ≤ 1048576) (hv : ∀ x ∈ a.2.2.1, (x.2.1.2.2.2.2.2.2.1.2.2.2.2.2.2.length ≤ 1048576 ∧ x.2.2.2.length ≤ 1048576)) : (a.2.2.1.any (fun x => !v13 x) = true ∧ k5_0 false 0 a 0 = true ∧ ∃ j : Nat, w5_0 false 0 a = (false, (j : Int), a, ())) ∨ (a.2.2.1.any (fun x => !v13 x) = false ∧ k5_0 false 0 a 0 = false ∧ k5_0 false 0 a 1 = true ∧ w5_0 false 0 a = (false, (a.2.2.1.length : Int), a, ())) := by
  have h := find_iter (s := s5_0) (mk := fun i => (false, i, a, ())) (fin := fun i => (false, (i : Int), a, ())) (p := fun i => match a.2.2.1[i]? with | some x => !v13 x | none => false) (N := a.2.2.1.length) (fun i hi => by
    have h1 := List.getElem?_eq_getElem hi
    simp only [h1]
    have hq := orderOk a.2.2.1[i] (hv _ (List.getElem_mem hi)).1 (hv _ (List.getElem_mem hi)).2
    cases ht : (v13 a.2.2.1[i] : Bool) <;> simp [s5_0, t5_0, optC_some, hi, h1, ht, hq.1, hq.2.1, hq.2.2, wrap_nat (n := i) (by omega)]) (by simp [s5_0, t5_0]) a.2.2.1.length 0 (n5_0 (false, 0, a, ())) (by omega) (by simp only [n5_0]; omega)
  have hf := first_any (p := fun x => !v13 x) (xs := a.2.2.1) (q := fun i => match a.2.2.1[i]? with | some x => !v13 x | none => false) (fun i x h1 => by simp only [h1])
  revert h hf
  generalize first _ 0 a.2.2.1.length = o
  intro h hf
  cases o with
  | none => exact .inr ⟨hf.symm, at_of h 0, at_of h 1, val_of h⟩
  | some j => exact .inl ⟨hf.symm, at_of h 0, j, val_of h⟩
theorem specChoices (a : Ty.T y39) (hb : a.2.2.2.length ≤ 1048576) : (a.2.2.2.any (fun x => !v14 x (-2147483647) 2147483647) = true ∧ k5_1 false 0 a 0 = true ∧ ∃ j : Nat, w5_1 false 0 a = (false, (j : Int), a, ())) ∨ (a.2.2.2.any (fun x => !v14 x (-2147483647) 2147483647) = false ∧ k5_1 false 0 a 0 = false ∧ k5_1 false 0 a 1 = true ∧ w5_1 false 0 a = (false, (a.2.2.2.length : Int), a, ())) := by
  have h := find_iter (s := s5_1) (mk := fun i => (false, i, a, ())) (fin := fun i => (false, (i : Int), a, ())) (p := fun i => match a.2.2.2[i]? with | some x => !v14 x (-2147483647) 2147483647 | none => false) (N := a.2.2.2.length) (fun i hi => by
    have h1 := List.getElem?_eq_getElem hi
    simp only [h1]
    skip
    cases ht : (v14 a.2.2.2[i] (-2147483647) 2147483647 : Bool) <;> simp [s5_1, t5_1, optC_some, hi, h1, ht,  wrap_nat (n := i) (by omega)]) (by simp [s5_1, t5_1]) a.2.2.2.length 0 (n5_1 (false, 0, a, ())) (by omega) (by simp only [n5_1]; omega)
  have hf := first_any (p := fun x => !v14 x (-2147483647) 2147483647) (xs := a.2.2.2) (q := fun i => match a.2.2.2[i]? with | some x => !v14 x (-2147483647) 2147483647 | none => false) (fun i x h1 => by simp only [h1])
  revert h hf
  generalize first _ 0 a.2.2.2.length = o
  intro h hf
  cases o with
  | none => exact .inr ⟨hf.symm, at_of h 0, at_of h 1, val_of h⟩
  | some j => exact .inl ⟨hf.symm, at_of h 0, j, val_of h⟩
theorem implOrders' (l : List (Ty.T y58)) (hb : l.length ≤ 1048576) (hv : ∀ x ∈ l, (x.2.1.2.2.2.2.2.2.1.2.2.2.2.2.2.length ≤ 1048576 ∧ x.2.2.2.length ≤ 1048576)) : (l.any (fun x => !v13 x) = true ∧ k54c1_0 l 0 ((l).length : Int) 0 0 = true ∧ ∃ j : Nat, w54c1_0 l 0 ((l).length : Int) 0 = (l, (j : Int), ((l).length : Int), (j : Int), ())) ∨ (l.any (fun x => !v13 x) = false ∧ k54c1_0 l 0 ((l).length : Int) 0 0 = false ∧ k54c1_0 l 0 ((l).length : Int) 0 1 = true ∧ w54c1_0 l 0 ((l).length : Int) 0 = (l, 0, ((l).length : Int), (l.length : Int), ())) := by
  have h := find_iter (s := s54c1_0) (mk := fun i => (l, 0, ((l).length : Int), i, ())) (fin := fun i => (l, (i : Int), ((l).length : Int), (i : Int), ())) (p := fun i => match l[i]? with | some x => !v13 x | none => false) (N := l.length) (fun i hi => by
    have h1 := List.getElem?_eq_getElem hi
    simp only [h1]
    have hq := orderOk l[i] (hv _ (List.getElem_mem hi)).1 (hv _ (List.getElem_mem hi)).2
    cases ht : (v13 l[i] : Bool) <;> simp [s54c1_0, t54c1_0, optC_some, hi, h1, ht, hq.1, hq.2.1, hq.2.2, v24, d24, wrap_nat (n := i) (by omega)]) (by simp [s54c1_0, t54c1_0]) l.length 0 (n54c1_0 (l, 0, ((l).length : Int), 0, ())) (by omega) (by simp only [n54c1_0]; omega)
  have hf := first_any (p := fun x => !v13 x) (xs := l) (q := fun i => match l[i]? with | some x => !v13 x | none => false) (fun i x h1 => by simp only [h1])
  revert h hf
  generalize first _ 0 l.length = o
  intro h hf
  cases o with
  | none => exact .inr ⟨hf.symm, at_of h 0, at_of h 1, val_of h⟩
  | some j => exact .inl ⟨hf.symm, at_of h 0, j, val_of h⟩
theorem implOrders (l : List (Ty.T y58)) (hb : l.length ≤ 1048576) (hv : ∀ x ∈ l, (x.2.1.2.2.2.2.2.2.1.2.2.2.2.2.2.length ≤ 1048576 ∧ x.2.2.2.length ≤ 1048576)) : d23c1 l = true ∧ v23c1 l = l.any (fun x => !v13 x) := by
  unfold d23c1 v23c1 d54c1 v54c1
  rcases implOrders' l hb hv with ⟨hB, e0, j, hw⟩ | ⟨hB, e0, e1, hw⟩
  · rw [e0, hw, hB]
    exact ⟨rfl, decide_eq_true (show ((j : Int)) ≥ 0 by omega)⟩
  · rw [e0, e1, hB]
    exact ⟨rfl, rfl⟩
theorem choice (n : Int) : v27 n = !v14 n (-2147483647) 2147483647 := by
  simp only [v27, v14, v28]
  have cc : ∀ (p q r : Bool), cond p q r = true ↔ (p = true ∧ q = true) ∨ (p = false ∧ r = true) := by decide
  have cf : ∀ (p q r : Bool), cond p q r = false ↔ (p = true ∧ q = false) ∨ (p = false ∧ r = false) := by decide
  rw [Bool.eq_iff_iff]
  simp [cc, cf]
  omega
theorem implChoices' (l : List (Ty.T (.int .i64))) (hb : l.length ≤ 1048576) : (l.any (fun x => !v14 x (-2147483647) 2147483647) = true ∧ k58c1_0 l 0 ((l).length : Int) 0 0 = true ∧ ∃ j : Nat, w58c1_0 l 0 ((l).length : Int) 0 = (l, (j : Int), ((l).length : Int), (j : Int), ())) ∨ (l.any (fun x => !v14 x (-2147483647) 2147483647) = false ∧ k58c1_0 l 0 ((l).length : Int) 0 0 = false ∧ k58c1_0 l 0 ((l).length : Int) 0 1 = true ∧ w58c1_0 l 0 ((l).length : Int) 0 = (l, 0, ((l).length : Int), (l.length : Int), ())) := by
  have h := find_iter (s := s58c1_0) (mk := fun i => (l, 0, ((l).length : Int), i, ())) (fin := fun i => (l, (i : Int), ((l).length : Int), (i : Int), ())) (p := fun i => match l[i]? with | some x => !v14 x (-2147483647) 2147483647 | none => false) (N := l.length) (fun i hi => by
    have h1 := List.getElem?_eq_getElem hi
    simp only [h1]
    skip
    cases ht : (v14 l[i] (-2147483647) 2147483647 : Bool) <;> simp [s58c1_0, t58c1_0, optC_some, hi, h1, ht, choice, wrap_nat (n := i) (by omega)]) (by simp [s58c1_0, t58c1_0]) l.length 0 (n58c1_0 (l, 0, ((l).length : Int), 0, ())) (by omega) (by simp only [n58c1_0]; omega)
  have hf := first_any (p := fun x => !v14 x (-2147483647) 2147483647) (xs := l) (q := fun i => match l[i]? with | some x => !v14 x (-2147483647) 2147483647 | none => false) (fun i x h1 => by simp only [h1])
  revert h hf
  generalize first _ 0 l.length = o
  intro h hf
  cases o with
  | none => exact .inr ⟨hf.symm, at_of h 0, at_of h 1, val_of h⟩
  | some j => exact .inl ⟨hf.symm, at_of h 0, j, val_of h⟩
theorem implChoices (l : List (Ty.T (.int .i64))) (hb : l.length ≤ 1048576) : d26c1 l = true ∧ v26c1 l = l.any (fun x => !v14 x (-2147483647) 2147483647) := by
  unfold d26c1 v26c1 d58c1 v58c1
  rcases implChoices' l hb with ⟨hB, e0, j, hw⟩ | ⟨hB, e0, e1, hw⟩
  · rw [e0, hw, hB]
    exact ⟨rfl, decide_eq_true (show ((j : Int)) ≥ 0 by omega)⟩
  · rw [e0, e1, hB]
    exact ⟨rfl, rfl⟩
theorem scriptOk (a : Ty.T y39) (h1 : a.1.1.length ≤ 1048576) (h2 : a.1.2.1.length ≤ 1048576) (h3 : a.2.1.length ≤ 1048576) (h4 : ∀ x ∈ a.2.1, x.2.2.2.2.2.2.1.2.2.2.2.2.2.length ≤ 1048576) (h5 : a.2.2.1.length ≤ 1048576) (hv : ∀ x ∈ a.2.2.1, (x.2.1.2.2.2.2.2.2.1.2.2.2.2.2.2.length ≤ 1048576 ∧ x.2.2.2.length ≤ 1048576)) (h6 : a.2.2.2.length ≤ 1048576) : d5 a = true ∧ d7 a = true ∧ v7 a = v5 a := by
  have s := stateOk a.1 h1 h2
  have t := tableOk a.2.1 h3 h4
  have o := implOrders a.2.2.1 h5 hv
  have c := implChoices a.2.2.2 h6
  unfold d5 d7 v5 v7
  simp only [s.2.1, s.2.2, t.2.1, t.2.2, o.1, o.2, c.1, c.2]
  rcases specOrders a h5 hv with ⟨hB, e0, j, hw⟩ | ⟨hB, e0, e1, hw⟩
  · simp only [e0, hw, hB]
    refine ⟨?_, ?_, ?_⟩ <;> simp
  · simp only [e0, e1, hw, hB]
    rcases specChoices a h6 with ⟨hC, y0, k, hx⟩ | ⟨hC, y0, y1, hx⟩
    · simp only [y0, hx, hC]
      refine ⟨?_, ?_, ?_⟩ <;> simp
    · simp only [y0, y1, hx, hC, s.1, t.1]
      refine ⟨?_, ?_, ?_⟩ <;> simp
theorem law (a0 : Ty.T y29) (w0 : Ty.ok y29 a0) : d3 a0 = true ∧ v3 a0 = true := by
  unfold d3 v3
  have y0 := sz4 a0 w0 1048576 (by omega) (by omega)
  rw [y0.1]
  have z0 := y0.2
  by_cases g0 : v4 a0 1048576 < 0
  · rw [decide_eq_true g0]; exact ⟨rfl, rfl⟩
  · rw [decide_eq_false g0]
    have s0 := z0.2 (by omega)
    have t0_6 := to6 a0 s0
    have q0_8 := eq8 a0 s0
    have q := scriptOk a0 s0.1.1.1 s0.1.2.1.1 s0.2.1.1 (fun x hx => (s0.2.1.2 x hx).2.2.2.2.2.2.1.2.2.2.2.2.2.1) s0.2.2.1.1 (fun x hx => ⟨(s0.2.2.1.2 x hx).2.1.2.2.2.2.2.2.1.2.2.2.2.2.2.1, (s0.2.2.1.2 x hx).2.2.2.1⟩) s0.2.2.2.1
    simp only [t0_6.1, t0_6.2, pair_eta, q0_8.1, q0_8.2, q.1, q.2.1, q.2.2]
    simp
end Go.Proofs.YtjjbafgbbkehjaaGreat.Vm
namespace Go.Proofs.YtjjbafgbbkehjaaGreat.Pure
open Go Go.Proofs.YtjjbafgbbkehjaaGreat.Lib Go.Proofs.YtjjbafgbbkehjaaGreat.Vm
theorem fnExactScriptOk : Go.Proofs.YtjjbafgbbkehjaaGreat.fnExactScriptOk.Pure := fun a0 w0 => by
  have h := law a0 w0
  show cond (d3 a0) (some (f3 (v3 a0))) none = _
  rw [h.1, h.2]
  rfl
end Go.Proofs.YtjjbafgbbkehjaaGreat.Pure
