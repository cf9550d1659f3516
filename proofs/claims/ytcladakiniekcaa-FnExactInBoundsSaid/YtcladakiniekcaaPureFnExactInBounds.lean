/- FnExactInBounds: the program and the reference answer alike. No condition. -/
import Derived.Test.YtcladakiniekcaaVmRowFnExactInBounds
import Derived.Test.YtcladakiniekcaaVmLibTwo
namespace Go.Proofs.Ytcladakiniekcaa.Vm
open Go Go.Proofs.Ytcladakiniekcaa.Lib
set_option linter.unusedSimpArgs false
set_option linter.unusedVariables false
def SZ (r n : Int) (S : Prop) : Prop := r ≤ n ∧ (0 ≤ r → S)
theorem SZ.neg {n : Int} {S : Prop} (h0 : 0 ≤ n) : SZ (-1) n S := ⟨by omega, fun h => absurd h (by omega)⟩
theorem sz70 (x : List (Ty.T y124)) (ho : Ty.ok (.sl 135 y124) x) (n : Int) (h0 : 0 ≤ n) (h1 : n ≤ 1048576) : SZ (v70 x n) n (Ty.short (.sl 135 y124) x) := by
  have hl := ho.2
  unfold v70
  rw [wrap_in (by omega) (by omega)]
  by_cases h : n - (x.length : Int) < 0
  · rw [decide_eq_true h]; exact .neg h0
  · rw [decide_eq_false h]; exact ⟨show n - (x.length : Int) ≤ n by omega, fun _ => ⟨by omega, fun x _ => by simp [Ty.short]⟩⟩
theorem sz111 (x : Ty.T y60) (ho : Ty.ok y60 x) (n : Int) (h0 : 0 ≤ n) (h1 : n ≤ 1048576) : SZ (v111 x n) n (Ty.short y60 x) := by
  unfold v111
  have y0 := sz70 x.2.2.2.2.2.2 ho.2.2.2.2.2.2 n h0 h1
  have z0 := y0
  by_cases g0 : v70 x.2.2.2.2.2.2 n < 0
  · rw [decide_eq_true g0]; exact .neg h0
  · rw [decide_eq_false g0]
    exact ⟨show v70 x.2.2.2.2.2.2 n ≤ n by have := z0.1; omega, fun _ => ⟨(by simp [Ty.short]), ⟨(by simp [Ty.short]), ⟨(by simp [Ty.short]), ⟨(by simp [Ty.short]), ⟨(by simp [Ty.short]), ⟨(by simp [Ty.short]), (z0.2 (by omega))⟩⟩⟩⟩⟩⟩⟩
theorem sz69 (x : Ty.T y62) (ho : Ty.ok y62 x) (n : Int) (h0 : 0 ≤ n) (h1 : n ≤ 1048576) : SZ (v69 x n) n (Ty.short y62 x) := by
  unfold v69
  have y0 := sz111 x.2.2.2.2.2.2.1 ho.2.2.2.2.2.2.1 n h0 h1
  have z0 := y0
  by_cases g0 : v111 x.2.2.2.2.2.2.1 n < 0
  · rw [decide_eq_true g0]; exact .neg h0
  · rw [decide_eq_false g0]
    exact ⟨show v111 x.2.2.2.2.2.2.1 n ≤ n by have := z0.1; omega, fun _ => ⟨(by simp [Ty.short]), ⟨(by simp [Ty.short]), ⟨(by simp [Ty.short]), ⟨(by simp [Ty.short]), ⟨(by simp [Ty.short]), ⟨(by simp [Ty.short]), ⟨(z0.2 (by omega)), (by simp [Ty.short])⟩⟩⟩⟩⟩⟩⟩⟩
theorem sz29 (xs : List (Ty.T y62)) (ho : Ty.ok (.sl 63 y62) xs) (n : Int) (h0 : 0 ≤ n) (h1 : n ≤ 1048576) : d29 xs n = true ∧ SZ (v29 xs n) n (Ty.short (.sl 63 y62) xs) := by
  have hl := ho.2
  unfold d29 v29
  rw [wrap_in (n := n - (xs.length : Int)) (by omega) (by omega)]
  by_cases h : n - (xs.length : Int) < 0
  · rw [decide_eq_true h]; exact ⟨rfl, .neg h0⟩
  · rw [decide_eq_false h]
    have key := sz_iter (s := s29_0) (mk := fun n r i => (xs, n, r, i, ())) (xs := xs) (g := v69) (S := Ty.short y62) (B := 1048576) (fun x hx n h0 h1 => sz69 x (ho.1 x hx) n h0 h1) (fun i x n r hn0 hn1 hx => by
      have hxm : x ∈ xs := List.mem_of_getElem? hx
      obtain ⟨hi, rfl⟩ := List.getElem?_eq_some_iff.1 hx
      skip
      simp [s29_0, t29_0, optC_some, hi,  wrap_nat (n := i) (by omega), Bool.cond_decide]) (fun n r => by simp [s29_0, t29_0]) xs.length 0 (n - (xs.length : Int)) 0 (n29_0 (xs, n - (xs.length : Int), 0, 0, ())) (by omega) (by simp [n29_0]; omega) (by omega) (by omega)
    rcases key with ⟨n', i', hk⟩ | ⟨n', hk, g0, g1, g2⟩
    · have e0 : k29_0 xs (n - (xs.length : Int)) 0 0 0 = true := at_of hk 0
      have ew : w29_0 xs (n - (xs.length : Int)) 0 0 = (xs, n', -1, i', ()) := val_of hk
      rw [e0, ew]
      exact ⟨rfl, .neg h0⟩
    · have e0 : k29_0 xs (n - (xs.length : Int)) 0 0 0 = false := at_of hk 0
      have e1 : k29_0 xs (n - (xs.length : Int)) 0 0 1 = true := at_of hk 1
      have ew : w29_0 xs (n - (xs.length : Int)) 0 0 = (xs, n', 0, (xs.length : Int), ()) := val_of hk
      rw [e0, e1, ew]
      refine ⟨rfl, ?_, fun _ => ⟨by omega, fun x hx => ?_⟩⟩
      · show n' ≤ n
        omega
      · obtain ⟨j, hj⟩ := List.getElem?_of_mem hx
        exact g2 j x (Nat.zero_le _) hj
theorem sz54 (x : List (Ty.T (.int .i64))) (ho : Ty.ok (.sl 3 (.int .i64)) x) (n : Int) (h0 : 0 ≤ n) (h1 : n ≤ 1048576) : SZ (v54 x n) n (Ty.short (.sl 3 (.int .i64)) x) := by
  have hl := ho.2
  unfold v54
  rw [wrap_in (by omega) (by omega)]
  by_cases h : n - (x.length : Int) < 0
  · rw [decide_eq_true h]; exact .neg h0
  · rw [decide_eq_false h]; exact ⟨show n - (x.length : Int) ≤ n by omega, fun _ => ⟨by omega, fun x _ => by simp [Ty.short]⟩⟩
theorem sz112 (x : Ty.T y156) (ho : Ty.ok y156 x) (n : Int) (h0 : 0 ≤ n) (h1 : n ≤ 1048576) : SZ (v112 x n) n (Ty.short y156 x) := by
  unfold v112
  have y0 := sz70 x.2.2.2.2.2.1 ho.2.2.2.2.2.1 n h0 h1
  have z0 := y0
  by_cases g0 : v70 x.2.2.2.2.2.1 n < 0
  · rw [decide_eq_true g0]; exact .neg h0
  · rw [decide_eq_false g0]
    exact ⟨show v70 x.2.2.2.2.2.1 n ≤ n by have := z0.1; omega, fun _ => ⟨(by simp [Ty.short]), ⟨(by simp [Ty.short]), ⟨(by simp [Ty.short]), ⟨(by simp [Ty.short]), ⟨(by simp [Ty.short]), ⟨(z0.2 (by omega)), (by simp [Ty.short])⟩⟩⟩⟩⟩⟩⟩
theorem sz71 (xs : List (Ty.T y156)) (ho : Ty.ok (.sl 157 y156) xs) (n : Int) (h0 : 0 ≤ n) (h1 : n ≤ 1048576) : d71 xs n = true ∧ SZ (v71 xs n) n (Ty.short (.sl 157 y156) xs) := by
  have hl := ho.2
  unfold d71 v71
  rw [wrap_in (n := n - (xs.length : Int)) (by omega) (by omega)]
  by_cases h : n - (xs.length : Int) < 0
  · rw [decide_eq_true h]; exact ⟨rfl, .neg h0⟩
  · rw [decide_eq_false h]
    have key := sz_iter (s := s71_0) (mk := fun n r i => (xs, n, r, i, ())) (xs := xs) (g := v112) (S := Ty.short y156) (B := 1048576) (fun x hx n h0 h1 => sz112 x (ho.1 x hx) n h0 h1) (fun i x n r hn0 hn1 hx => by
      have hxm : x ∈ xs := List.mem_of_getElem? hx
      obtain ⟨hi, rfl⟩ := List.getElem?_eq_some_iff.1 hx
      skip
      simp [s71_0, t71_0, optC_some, hi,  wrap_nat (n := i) (by omega), Bool.cond_decide]) (fun n r => by simp [s71_0, t71_0]) xs.length 0 (n - (xs.length : Int)) 0 (n71_0 (xs, n - (xs.length : Int), 0, 0, ())) (by omega) (by simp [n71_0]; omega) (by omega) (by omega)
    rcases key with ⟨n', i', hk⟩ | ⟨n', hk, g0, g1, g2⟩
    · have e0 : k71_0 xs (n - (xs.length : Int)) 0 0 0 = true := at_of hk 0
      have ew : w71_0 xs (n - (xs.length : Int)) 0 0 = (xs, n', -1, i', ()) := val_of hk
      rw [e0, ew]
      exact ⟨rfl, .neg h0⟩
    · have e0 : k71_0 xs (n - (xs.length : Int)) 0 0 0 = false := at_of hk 0
      have e1 : k71_0 xs (n - (xs.length : Int)) 0 0 1 = true := at_of hk 1
      have ew : w71_0 xs (n - (xs.length : Int)) 0 0 = (xs, n', 0, (xs.length : Int), ()) := val_of hk
      rw [e0, e1, ew]
      refine ⟨rfl, ?_, fun _ => ⟨by omega, fun x hx => ?_⟩⟩
      · show n' ≤ n
        omega
      · obtain ⟨j, hj⟩ := List.getElem?_of_mem hx
        exact g2 j x (Nat.zero_le _) hj
theorem sz30 (x : Ty.T y42) (ho : Ty.ok y42 x) (n : Int) (h0 : 0 ≤ n) (h1 : n ≤ 1048576) : d30 x n = true ∧ SZ (v30 x n) n (Ty.short y42 x) := by
  unfold d30 v30
  have y0 := sz70 x.1 ho.1 n h0 h1
  have z0 := y0
  by_cases g0 : v70 x.1 n < 0
  · rw [decide_eq_true g0]; exact ⟨rfl, .neg h0⟩
  · rw [decide_eq_false g0]
    have y1 := sz29 x.2.1 ho.2.1 (v70 x.1 n) (by omega) (by have := z0.1; omega)
    rw [y1.1]
    have z1 := y1.2
    by_cases g1 : v29 x.2.1 (v70 x.1 n) < 0
    · rw [decide_eq_true g1]; exact ⟨rfl, .neg h0⟩
    · rw [decide_eq_false g1]
      have y2 := sz54 x.2.2.1 ho.2.2.1 (v29 x.2.1 (v70 x.1 n)) (by omega) (by have := z0.1; have := z1.1; omega)
      have z2 := y2
      by_cases g2 : v54 x.2.2.1 (v29 x.2.1 (v70 x.1 n)) < 0
      · rw [decide_eq_true g2]; exact ⟨rfl, .neg h0⟩
      · rw [decide_eq_false g2]
        have y3 := sz71 x.2.2.2 ho.2.2.2 (v54 x.2.2.1 (v29 x.2.1 (v70 x.1 n))) (by omega) (by have := z0.1; have := z1.1; have := z2.1; omega)
        rw [y3.1]
        have z3 := y3.2
        by_cases g3 : v71 x.2.2.2 (v54 x.2.2.1 (v29 x.2.1 (v70 x.1 n))) < 0
        · rw [decide_eq_true g3]; exact ⟨rfl, .neg h0⟩
        · rw [decide_eq_false g3]
          exact ⟨rfl, ⟨show v71 x.2.2.2 (v54 x.2.2.1 (v29 x.2.1 (v70 x.1 n))) ≤ n by have := z0.1; have := z1.1; have := z2.1; have := z3.1; omega, fun _ => ⟨(z0.2 (by omega)), ⟨(z1.2 (by omega)), ⟨(z2.2 (by omega)), (z3.2 (by omega))⟩⟩⟩⟩⟩
theorem to113 (x : Ty.T y56) : v113 x = x := rfl
theorem to114 (x : Ty.T y58) : v114 x = x := rfl
theorem to116 (x : Ty.T y124) : v116 x = x := rfl
theorem to74 (xs : List (Ty.T y124)) (hs : Ty.short (.sl 135 y124) xs) : d74 xs = true ∧ v74 xs = xs := by
  have hb := hs.1
  have h : ∀ (n : Nat) (hn : xs.length < n) (out : List (Ty.T y124)) (ho : out.length = xs.length), iter s74_0 n (xs, [], 0, out, ()) = some (0, (xs, [], (xs.length : Int), xs, ())) := fun n hn out ho => by
    have := map_iter (s := s74_0) (mk := fun i o => (xs, [], i, o, ())) (xs := xs) (conv := fun x => x) (fun i out x hx hl => by
      obtain ⟨hi, rfl⟩ := List.getElem?_eq_some_iff.1 hx
      skip
      simp [s74_0, t74_0, optC_some, hi, hl, to116, wrap_nat (n := i) (by omega)]) (fun out hl => by simp [s74_0, t74_0]) xs.length 0 out n (by omega) ho hn
    simpa using this
  have h := h (n74_0 (xs, [], 0, (List.replicate ((xs.length : Int)).toNat (Ty.zero y124)), ())) (by simp [n74_0]; omega) (List.replicate ((xs.length : Int)).toNat (Ty.zero y124)) (by simp)
  have hk : k74_0 xs [] 0 (List.replicate ((xs.length : Int)).toNat (Ty.zero y124)) 0 = true := at_of h 0
  have hw : w74_0 xs [] 0 (List.replicate ((xs.length : Int)).toNat (Ty.zero y124)) = (xs, [], (xs.length : Int), xs, ()) := val_of h
  constructor
  · show (_ && (_ && (cond (k74_0 xs [] 0 (List.replicate ((xs.length : Int)).toNat (Ty.zero y124)) 0) true false))) = true
    rw [hk]
    simp
    omega
  · show cond (k74_0 xs [] 0 (List.replicate ((xs.length : Int)).toNat (Ty.zero y124)) 0) (w74_0 xs [] 0 (List.replicate ((xs.length : Int)).toNat (Ty.zero y124))).2.2.2.1 [] = xs
    rw [hk, hw]
    rfl
theorem to115 (x : Ty.T y60) (hs : Ty.short y60 x) : d115 x = true ∧ v115 x = (x.1, x.2.1, x.2.2.1, x.2.2.2.1, x.2.2.2.2.1, x.2.2.2.2.2.1, x.2.2.2.2.2.2) := by
  have h0 := to74 x.2.2.2.2.2.2 hs.2.2.2.2.2.2
  unfold d115 v115
  rw [h0.1, h0.2]
  exact ⟨rfl, rfl⟩
theorem to73 (x : Ty.T y62) (hs : Ty.short y62 x) : d73 x = true ∧ v73 x = (x.1, x.2.1, x.2.2.1, x.2.2.2.1, x.2.2.2.2.1.1, x.2.2.2.2.1.2.1, x.2.2.2.2.1.2.2.1, x.2.2.2.2.1.2.2.2.1, x.2.2.2.2.1.2.2.2.2.1, x.2.2.2.2.1.2.2.2.2.2.1, x.2.2.2.2.1.2.2.2.2.2.2, x.2.2.2.2.2.1.1, x.2.2.2.2.2.1.2, x.2.2.2.2.2.2.1.1, x.2.2.2.2.2.2.1.2.1, x.2.2.2.2.2.2.1.2.2.1, x.2.2.2.2.2.2.1.2.2.2.1, x.2.2.2.2.2.2.1.2.2.2.2.1, x.2.2.2.2.2.2.1.2.2.2.2.2.1, x.2.2.2.2.2.2.2.1, x.2.2.2.2.2.2.2.2, x.2.2.2.2.2.2.1.2.2.2.2.2.2) := by
  have h0 : True ∧ v113 x.2.2.2.2.1 = _ := ⟨trivial, to113 x.2.2.2.2.1⟩
  have h1 : True ∧ v114 x.2.2.2.2.2.1 = _ := ⟨trivial, to114 x.2.2.2.2.2.1⟩
  have h2 := to115 x.2.2.2.2.2.2.1 hs.2.2.2.2.2.2.1
  unfold d73 v73
  rw [h0.2, h1.2, h2.1, h2.2]
  exact ⟨rfl, rfl⟩
theorem to32 (xs : List (Ty.T y62)) (hs : Ty.short (.sl 63 y62) xs) : d32 xs = true ∧ v32 xs = xs := by
  have hb := hs.1
  have h : ∀ (n : Nat) (hn : xs.length < n) (out : List (Ty.T y72)) (ho : out.length = xs.length), iter s32_0 n (xs, [], 0, out, ()) = some (0, (xs, [], (xs.length : Int), xs, ())) := fun n hn out ho => by
    have := map_iter (s := s32_0) (mk := fun i o => (xs, [], i, o, ())) (xs := xs) (conv := fun x => x) (fun i out x hx hl => by
      obtain ⟨hi, rfl⟩ := List.getElem?_eq_some_iff.1 hx
      have h0 := to73 xs[i] (hs.2 _ (List.getElem_mem hi))
      simp [s32_0, t32_0, optC_some, hi, hl, h0.1, h0.2, wrap_nat (n := i) (by omega)]) (fun out hl => by simp [s32_0, t32_0]) xs.length 0 out n (by omega) ho hn
    simpa using this
  have h := h (n32_0 (xs, [], 0, (List.replicate ((xs.length : Int)).toNat (Ty.zero y72)), ())) (by simp [n32_0]; omega) (List.replicate ((xs.length : Int)).toNat (Ty.zero y72)) (by simp)
  have hk : k32_0 xs [] 0 (List.replicate ((xs.length : Int)).toNat (Ty.zero y72)) 0 = true := at_of h 0
  have hw : w32_0 xs [] 0 (List.replicate ((xs.length : Int)).toNat (Ty.zero y72)) = (xs, [], (xs.length : Int), xs, ()) := val_of h
  constructor
  · show (_ && (_ && (cond (k32_0 xs [] 0 (List.replicate ((xs.length : Int)).toNat (Ty.zero y72)) 0) true false))) = true
    rw [hk]
    simp
    omega
  · show cond (k32_0 xs [] 0 (List.replicate ((xs.length : Int)).toNat (Ty.zero y72)) 0) (w32_0 xs [] 0 (List.replicate ((xs.length : Int)).toNat (Ty.zero y72))).2.2.2.1 [] = xs
    rw [hk, hw]
    rfl
theorem to11 (xs : List (Int)) (hs : Ty.short (.sl 3 (.int .i64)) xs) : d11 xs = true ∧ v11 xs = xs := by
  have hb := hs.1
  have h : ∀ (n : Nat) (hn : xs.length < n) (out : List (Int)) (ho : out.length = xs.length), iter s11_0 n (xs, [], 0, out, ()) = some (0, (xs, [], (xs.length : Int), xs, ())) := fun n hn out ho => by
    have := map_iter (s := s11_0) (mk := fun i o => (xs, [], i, o, ())) (xs := xs) (conv := fun x => x) (fun i out x hx hl => by
      obtain ⟨hi, rfl⟩ := List.getElem?_eq_some_iff.1 hx
      skip
      simp [s11_0, t11_0, optC_some, hi, hl,  wrap_nat (n := i) (by omega)]) (fun out hl => by simp [s11_0, t11_0]) xs.length 0 out n (by omega) ho hn
    simpa using this
  have h := h (n11_0 (xs, [], 0, (List.replicate ((xs.length : Int)).toNat (Ty.zero (.int .i64))), ())) (by simp [n11_0]; omega) (List.replicate ((xs.length : Int)).toNat (Ty.zero (.int .i64))) (by simp)
  have hk : k11_0 xs [] 0 (List.replicate ((xs.length : Int)).toNat (Ty.zero (.int .i64))) 0 = true := at_of h 0
  have hw : w11_0 xs [] 0 (List.replicate ((xs.length : Int)).toNat (Ty.zero (.int .i64))) = (xs, [], (xs.length : Int), xs, ()) := val_of h
  constructor
  · show (_ && (_ && (cond (k11_0 xs [] 0 (List.replicate ((xs.length : Int)).toNat (Ty.zero (.int .i64))) 0) true false))) = true
    rw [hk]
    simp
    omega
  · show cond (k11_0 xs [] 0 (List.replicate ((xs.length : Int)).toNat (Ty.zero (.int .i64))) 0) (w11_0 xs [] 0 (List.replicate ((xs.length : Int)).toNat (Ty.zero (.int .i64)))).2.2.2.1 [] = xs
    rw [hk, hw]
    rfl
theorem to117 (x : Ty.T y156) (hs : Ty.short y156 x) : d117 x = true ∧ v117 x = (x.1, x.2.1, x.2.2.1, x.2.2.2.1, x.2.2.2.2.1.1, x.2.2.2.2.1.2.1, x.2.2.2.2.1.2.2.1, x.2.2.2.2.1.2.2.2.1, x.2.2.2.2.1.2.2.2.2.1, x.2.2.2.2.1.2.2.2.2.2.1, x.2.2.2.2.1.2.2.2.2.2.2, x.2.2.2.2.2.2.1, x.2.2.2.2.2.2.2, x.2.2.2.2.2.1) := by
  have h0 : True ∧ v116 x.2.2.2.2.1 = _ := ⟨trivial, to116 x.2.2.2.2.1⟩
  have h1 := to74 x.2.2.2.2.2.1 hs.2.2.2.2.2.1
  unfold d117 v117
  rw [h0.2, h1.1, h1.2]
  exact ⟨rfl, rfl⟩
theorem to75 (xs : List (Ty.T y156)) (hs : Ty.short (.sl 157 y156) xs) : d75 xs = true ∧ v75 xs = xs := by
  have hb := hs.1
  have h : ∀ (n : Nat) (hn : xs.length < n) (out : List (Ty.T y158)) (ho : out.length = xs.length), iter s75_0 n (xs, [], 0, out, ()) = some (0, (xs, [], (xs.length : Int), xs, ())) := fun n hn out ho => by
    have := map_iter (s := s75_0) (mk := fun i o => (xs, [], i, o, ())) (xs := xs) (conv := fun x => x) (fun i out x hx hl => by
      obtain ⟨hi, rfl⟩ := List.getElem?_eq_some_iff.1 hx
      have h0 := to117 xs[i] (hs.2 _ (List.getElem_mem hi))
      simp [s75_0, t75_0, optC_some, hi, hl, h0.1, h0.2, wrap_nat (n := i) (by omega)]) (fun out hl => by simp [s75_0, t75_0]) xs.length 0 out n (by omega) ho hn
    simpa using this
  have h := h (n75_0 (xs, [], 0, (List.replicate ((xs.length : Int)).toNat (Ty.zero y158)), ())) (by simp [n75_0]; omega) (List.replicate ((xs.length : Int)).toNat (Ty.zero y158)) (by simp)
  have hk : k75_0 xs [] 0 (List.replicate ((xs.length : Int)).toNat (Ty.zero y158)) 0 = true := at_of h 0
  have hw : w75_0 xs [] 0 (List.replicate ((xs.length : Int)).toNat (Ty.zero y158)) = (xs, [], (xs.length : Int), xs, ()) := val_of h
  constructor
  · show (_ && (_ && (cond (k75_0 xs [] 0 (List.replicate ((xs.length : Int)).toNat (Ty.zero y158)) 0) true false))) = true
    rw [hk]
    simp
    omega
  · show cond (k75_0 xs [] 0 (List.replicate ((xs.length : Int)).toNat (Ty.zero y158)) 0) (w75_0 xs [] 0 (List.replicate ((xs.length : Int)).toNat (Ty.zero y158))).2.2.2.1 [] = xs
    rw [hk, hw]
    rfl
theorem to33 (x : Ty.T y42) (hs : Ty.short y42 x) : d33 x = true ∧ v33 x = (x.1, x.2.1, x.2.2.1, x.2.2.2) := by
  have h0 := to74 x.1 hs.1
  have h1 := to32 x.2.1 hs.2.1
  have h2 := to11 x.2.2.1 hs.2.2.1
  have h3 := to75 x.2.2.2 hs.2.2.2
  unfold d33 v33
  rw [h0.1, h0.2, h1.1, h1.2, h2.1, h2.2, h3.1, h3.2]
  exact ⟨rfl, rfl⟩
theorem eq118 (x : Ty.T y56) : v118 x x = true := by simp [v118]
theorem eq119 (x : Ty.T y58) : v119 x x = true := by simp [v119]
theorem eq121 (x : Ty.T y124) : v121 x x = true := by simp [v121]
theorem eq78 (xs : List (Ty.T y124)) (hs : Ty.short (.sl 125 y124) xs) : d78 xs xs = true ∧ v78 xs xs = true := by
  have hb := hs.1
  have h := all_iter (s := s78_0) (mk := fun i => (xs, xs, false, i, ())) (c := 1) (N := xs.length) (fun i hi => by
    skip
    simp [s78_0, t78_0, optC_some, hi, eq121, wrap_nat (n := i) (by omega)]) (by simp [s78_0, t78_0]) xs.length 0 (n78_0 (xs, xs, false, 0, ())) (by omega) (by simp [n78_0]; omega)
  have h0 : k78_0 xs xs false 0 0 = false := at_of h 0
  have h1 : k78_0 xs xs false 0 1 = true := at_of h 1
  unfold d78 v78
  rw [h0, h1]
  simp
theorem eq120 (x : Ty.T y70) (hs : Ty.short y70 x) : d120 x x = true ∧ v120 x x = true := by
  have h0 := eq78 x.2.2.2.2.2.2 hs.2.2.2.2.2.2
  unfold d120 v120
  rw [h0.1, h0.2]
  simp
theorem eq77 (x : Ty.T y72) (hs : Ty.short y72 x) : d77 x x = true ∧ v77 x x = true := by
  have h2 := eq120 x.2.2.2.2.2.2.1 hs.2.2.2.2.2.2.1
  unfold d77 v77
  rw [h2.1, h2.2, eq118, eq119]
  simp
theorem eq35 (xs : List (Ty.T y72)) (hs : Ty.short (.sl 73 y72) xs) : d35 xs xs = true ∧ v35 xs xs = true := by
  have hb := hs.1
  have h := all_iter (s := s35_0) (mk := fun i => (xs, xs, false, i, ())) (c := 1) (N := xs.length) (fun i hi => by
    have h0 := eq77 xs[i] (hs.2 _ (List.getElem_mem hi))
    simp [s35_0, t35_0, optC_some, hi, h0.1, h0.2, wrap_nat (n := i) (by omega)]) (by simp [s35_0, t35_0]) xs.length 0 (n35_0 (xs, xs, false, 0, ())) (by omega) (by simp [n35_0]; omega)
  have h0 : k35_0 xs xs false 0 0 = false := at_of h 0
  have h1 : k35_0 xs xs false 0 1 = true := at_of h 1
  unfold d35 v35
  rw [h0, h1]
  simp
theorem eq14 (xs : List (Int)) (hs : Ty.short (.sl 3 (.int .i64)) xs) : d14 xs xs = true ∧ v14 xs xs = true := by
  have hb := hs.1
  have h := all_iter (s := s14_0) (mk := fun i => (xs, xs, false, i, ())) (c := 1) (N := xs.length) (fun i hi => by
    skip
    simp [s14_0, t14_0, optC_some, hi,  wrap_nat (n := i) (by omega)]) (by simp [s14_0, t14_0]) xs.length 0 (n14_0 (xs, xs, false, 0, ())) (by omega) (by simp [n14_0]; omega)
  have h0 : k14_0 xs xs false 0 0 = false := at_of h 0
  have h1 : k14_0 xs xs false 0 1 = true := at_of h 1
  unfold d14 v14
  rw [h0, h1]
  simp
theorem eq122 (x : Ty.T y158) (hs : Ty.short y158 x) : d122 x x = true ∧ v122 x x = true := by
  have h1 := eq78 x.2.2.2.2.2.1 hs.2.2.2.2.2.1
  unfold d122 v122
  rw [h1.1, h1.2, eq121]
  simp
theorem eq79 (xs : List (Ty.T y158)) (hs : Ty.short (.sl 159 y158) xs) : d79 xs xs = true ∧ v79 xs xs = true := by
  have hb := hs.1
  have h := all_iter (s := s79_0) (mk := fun i => (xs, xs, false, i, ())) (c := 1) (N := xs.length) (fun i hi => by
    have h0 := eq122 xs[i] (hs.2 _ (List.getElem_mem hi))
    simp [s79_0, t79_0, optC_some, hi, h0.1, h0.2, wrap_nat (n := i) (by omega)]) (by simp [s79_0, t79_0]) xs.length 0 (n79_0 (xs, xs, false, 0, ())) (by omega) (by simp [n79_0]; omega)
  have h0 : k79_0 xs xs false 0 0 = false := at_of h 0
  have h1 : k79_0 xs xs false 0 1 = true := at_of h 1
  unfold d79 v79
  rw [h0, h1]
  simp
theorem eq36 (x : Ty.T y50) (hs : Ty.short y50 x) : d36 x x = true ∧ v36 x x = true := by
  have h0 := eq78 x.1 hs.1
  have h1 := eq35 x.2.1 hs.2.1
  have h2 := eq14 x.2.2.1 hs.2.2.1
  have h3 := eq79 x.2.2.2 hs.2.2.2
  unfold d36 v36
  rw [h0.1, h0.2, h1.1, h1.2, h2.1, h2.2, h3.1, h3.2]
  simp

def upto (a b : Int) : Int := max 0 (min a b)
theorem sUpto (a b : Int) : v64 a b = upto a b := by
  unfold v64 upto
  by_cases h : b < a
  · rw [decide_eq_true h]
    by_cases h2 : b < 0
    · rw [decide_eq_true h2]; show (0 : Int) = _; omega
    · rw [decide_eq_false h2]; show b = _; omega
  · rw [decide_eq_false h]
    by_cases h2 : a < 0
    · rw [decide_eq_true h2]; show (0 : Int) = _; omega
    · rw [decide_eq_false h2]; show a = _; omega
theorem iUpto (a b : Int) : v61 a b = upto a b := by
  unfold v61 upto
  split <;> split <;> omega
def bnd (a : Int) : Int := max (-2147483647) (min a 2147483647)
theorem sBound (a : Int) : v65 a = bnd a := by
  unfold v65 bnd
  by_cases h : a > 2147483647
  · rw [decide_eq_true h]; show (2147483647 : Int) = _; omega
  · rw [decide_eq_false h]
    by_cases h2 : a < -2147483647
    · rw [decide_eq_true h2]; show (-2147483647 : Int) = _; omega
    · rw [decide_eq_false h2]; show a = _; omega
def pw (x : Int) : Nat → Int
  | 0 => 1
  | n + 1 => min (pw x n * x) 2147483647
theorem pw_succ (x : Int) (n : Nat) : pw x (n + 1) = min (pw x n * x) 2147483647 := rfl
theorem pw_range (x : Int) (h0 : 0 ≤ x) (n : Nat) : 0 ≤ pw x n ∧ pw x n ≤ 2147483647 := by
  induction n with
  | zero => simp [pw]
  | succ n ih =>
    have : 0 ≤ pw x n * x := Int.mul_nonneg ih.1 h0
    rw [pw_succ]
    omega
theorem mul_small {a x : Int} (h0 : 0 ≤ a) (h1 : a ≤ 2147483647) (h2 : 0 ≤ x) (h3 : x ≤ 2147483647) : 0 ≤ a * x ∧ a * x ≤ 4611686014132420609 := by
  constructor
  · exact Int.mul_nonneg h0 h2
  · calc a * x ≤ 2147483647 * 2147483647 := Int.mul_le_mul h1 h3 h2 (by omega)
      _ = 4611686014132420609 := by decide
theorem pw_one (n : Nat) : pw 1 n = 1 := by
  induction n with
  | zero => rfl
  | succ n ih => rw [pw_succ, ih]; decide
theorem pw_zero (n : Nat) : pw 0 (n + 1) = 0 := by
  rw [pw_succ, Int.mul_zero]
  decide
theorem pw_top (x : Int) (h : 1 ≤ x) (n j : Nat) (e : pw x n = 2147483647) : pw x (n + j) = 2147483647 := by
  induction j with
  | zero => exact e
  | succ j ih =>
    show min (pw x (n + j) * x) 2147483647 = _
    rw [ih]
    omega
theorem pw_lower (x : Int) (h : 2 ≤ x) (n : Nat) : min (2 ^ n) 2147483647 ≤ pw x n := by
  induction n with
  | zero => simp [pw]; omega
  | succ n ih =>
    have h1 := pw_range x (by omega) n
    have h2 : pw x n * 2 ≤ pw x n * x := Int.mul_le_mul_of_nonneg_left h h1.1
    rw [pw_succ, Int.pow_succ]
    omega
theorem pw_31 (x : Int) (h : 2 ≤ x) (n : Nat) (hn : 31 ≤ n) : pw x n = 2147483647 := by
  have h1 := pw_lower x h 31
  have h2 := (pw_range x (by omega) 31).2
  have h3 : pw x 31 = 2147483647 := by
    have : (2 : Int) ^ 31 = 2147483648 := by decide
    omega
  have := pw_top x (by omega) 31 (n - 31) h3
  rwa [show 31 + (n - 31) = n by omega] at this
theorem upto_max (k : Int) : 0 ≤ upto k 2147483647 ∧ upto k 2147483647 ≤ 2147483647 := by unfold upto; omega
def powr (k n : Int) : Int := pw (upto k 2147483647) (min n 64).toNat
theorem sPow_iter (n x : Int) (hx0 : 0 ≤ x) (hx : x ≤ 2147483647) (hn : n ≤ 9223372036854775807) (d : Nat) : ∀ (j m : Nat), j + d = (min n 64).toNat → d < m →
    iter s22_0 m (n, 0, x, pw x j, (j : Int), ()) = some (0, (n, 0, x, pw x (min n 64).toNat, (((min n 64).toNat : Nat) : Int), ())) := by
  induction d with
  | zero =>
    intro j m hj hm
    obtain ⟨q, rfl⟩ : ∃ q, m = q + 1 := ⟨m - 1, by omega⟩
    have h : s22_0 (n, 0, x, pw x j, (j : Int), ()) = some (1, (n, 0, x, pw x j, (j : Int), ())) := by
      by_cases h : (j : Int) < n
      · have h2 : ¬ (j : Int) < 64 := by omega
        simp [s22_0, t22_0, h, h2]
      · simp [s22_0, t22_0, h]
    rw [iter, h, show (min n 64).toNat = j by omega]
    rfl
  | succ d ih =>
    intro j m hj hm
    obtain ⟨q, rfl⟩ : ∃ q, m = q + 1 := ⟨m - 1, by omega⟩
    have hp := pw_range x hx0 j
    have hm := mul_small hp.1 hp.2 hx0 hx
    have h : s22_0 (n, 0, x, pw x j, (j : Int), ()) = some (0, (n, 0, x, pw x (j + 1), ((j + 1 : Nat) : Int), ())) := by
      have h1 : (j : Int) < n := by omega
      have h2 : (j : Int) < 64 := by omega
      have e : bnd (pw x j * x) = pw x (j + 1) := by rw [pw_succ]; unfold bnd; omega
      simp only [s22_0, t22_0, h1, h2, decide_true, cond_true, sBound]
      rw [wrap_in (n := pw x j * x) (by omega) (by omega), e, wrap_in (n := (j : Int) + 1) (by omega) (by omega)]
      rfl
    rw [iter, h]
    exact ih (j + 1) q (by omega) (by omega)
theorem sPow (a n : Int) (hn : n ≤ 9223372036854775807) : d22 a n = true ∧ v22 a n = powr a n := by
  have hu := upto_max a
  have h := sPow_iter n (upto a 2147483647) hu.1 hu.2 hn (min n 64).toNat 0 (n22_0 (n, 0, upto a 2147483647, 1, 0, ())) (by omega) (by simp only [n22_0]; omega)
  unfold d22 v22
  rw [sUpto]
  have e0 : k22_0 n 0 (upto a 2147483647) 1 0 0 = true := at_of h 0
  have ew : w22_0 n 0 (upto a 2147483647) 1 0 = _ := val_of h
  rw [e0, ew]
  exact ⟨rfl, rfl⟩
theorem iPow_iter (x : Int) (hx0 : 2 ≤ x) (hx : x ≤ 2147483647) (m : Nat) : ∀ (j q : Nat), (m : Int) ≤ 9223372036854775807 → m < q →
    ∃ z, iter s17_0 q (x, (m : Int), 0, pw x j, ()) = some (0, (x, z, 0, pw x (j + m), ())) := by
  induction m with
  | zero =>
    intro j q _ hq
    obtain ⟨q, rfl⟩ : ∃ p, q = p + 1 := ⟨q - 1, by omega⟩
    have h : s17_0 (x, ((0 : Nat) : Int), 0, pw x j, ()) = some (1, (x, ((0 : Nat) : Int), 0, pw x j, ())) := by simp [s17_0, t17_0]
    exact ⟨_, by rw [iter, h]; rfl⟩
  | succ m ih =>
    intro j q hm hq
    obtain ⟨q, rfl⟩ : ∃ p, q = p + 1 := ⟨q - 1, by omega⟩
    have hp := pw_range x (by omega) j
    by_cases h : pw x j < 2147483647
    · have hml := mul_small hp.1 hp.2 (by omega : 0 ≤ x) hx
      have hs : s17_0 (x, ((m + 1 : Nat) : Int), 0, pw x j, ()) = some (0, (x, (m : Int), 0, pw x (j + 1), ())) := by
        have h1 : ((m + 1 : Nat) : Int) > 0 := by omega
        have e : (if (2147483647 : Int) < pw x j * x then 2147483647 else pw x j * x) = pw x (j + 1) := by rw [pw_succ]; split <;> omega
        simp only [s17_0, t17_0, h1, h, decide_true, cond_true]
        rw [wrap_in (n := pw x j * x) (by omega) (by omega), e, wrap_in (n := ((m + 1 : Nat) : Int) - 1) (by omega) (by omega), show ((m + 1 : Nat) : Int) - 1 = m by omega]
      obtain ⟨z, hz⟩ := ih (j + 1) q (by omega) (by omega)
      exact ⟨z, by rw [iter, hs, show j + (m + 1) = (j + 1) + m by omega]; exact hz⟩
    · have e : pw x j = 2147483647 := by omega
      have hs : s17_0 (x, ((m + 1 : Nat) : Int), 0, pw x j, ()) = some (1, (x, ((m + 1 : Nat) : Int), 0, pw x j, ())) := by
        simp [s17_0, t17_0, h]
      exact ⟨_, by rw [iter, hs, pw_top x (by omega) j (m + 1) e, e]; rfl⟩
theorem iPow (a n : Int) (hn : n ≤ 9223372036854775807) : d17 a n = true ∧ v17 a n = powr a n := by
  have hu := upto_max a
  unfold d17 v17 powr
  rw [iUpto]
  generalize upto a 2147483647 = x at *
  by_cases h2 : x < 2
  · rw [decide_eq_true h2]
    by_cases hn0 : n > 0
    · rw [decide_eq_true hn0]
      refine ⟨rfl, ?_⟩
      obtain ⟨q, hq⟩ : ∃ q, (min n 64).toNat = q + 1 := ⟨(min n 64).toNat - 1, by omega⟩
      rw [hq]
      by_cases h0 : x = 0
      · subst h0; rw [pw_zero]; rfl
      · obtain rfl : x = 1 := by omega
        rw [pw_one]; rfl
    · rw [decide_eq_false hn0, show (min n 64).toNat = 0 by omega]
      exact ⟨rfl, rfl⟩
  · rw [decide_eq_false h2]
    have key : ∃ z, iter s17_0 (n17_0 (x, n, 0, 1, ())) (x, n, 0, 1, ()) = some (0, (x, z, 0, pw x (min n 64).toNat, ())) := by
      by_cases hn0 : 0 ≤ n
      · obtain ⟨z, hz⟩ := iPow_iter x (by omega) hu.2 n.toNat 0 (n17_0 (x, n, 0, 1, ())) (by omega) (by simp only [n17_0]; omega)
        rw [show ((n.toNat : Nat) : Int) = n by omega, Nat.zero_add] at hz
        have e : pw x n.toNat = pw x (min n 64).toNat := by
          by_cases h64 : n ≤ 64
          · rw [show (min n 64).toNat = n.toNat by omega]
          · rw [pw_31 x (by omega) n.toNat (by omega), pw_31 x (by omega) (min n 64).toNat (by omega)]
        exact ⟨z, by rw [← e]; exact hz⟩
      · obtain ⟨q, hq⟩ : ∃ q, n17_0 (x, n, 0, 1, ()) = q + 1 := ⟨n17_0 (x, n, 0, 1, ()) - 1, by simp only [n17_0]; omega⟩
        have hs : s17_0 (x, n, 0, 1, ()) = some (1, (x, n, 0, 1, ())) := by
          have : ¬ n > 0 := by omega
          simp [s17_0, t17_0, this]
        exact ⟨_, by rw [hq, iter, hs, show (min n 64).toNat = 0 by omega]; rfl⟩
    obtain ⟨z, hz⟩ := key
    have e0 : k17_0 x n 0 1 0 = true := at_of hz 0
    have ew : w17_0 x n 0 1 = _ := val_of hz
    rw [e0, ew]
    exact ⟨rfl, rfl⟩
def sm (x : Int) : Nat → Int
  | 0 => 0
  | n + 1 => min (sm x n + pw x n) 2147483647
theorem sm_succ (x : Int) (n : Nat) : sm x (n + 1) = min (sm x n + pw x n) 2147483647 := rfl
theorem sm_range (x : Int) (h0 : 0 ≤ x) (n : Nat) : 0 ≤ sm x n ∧ sm x n ≤ 2147483647 := by
  induction n with
  | zero => simp [sm]
  | succ n ih =>
    have := pw_range x h0 n
    rw [sm_succ]
    omega
theorem sm_top (x : Int) (h0 : 0 ≤ x) (n j : Nat) (e : sm x n = 2147483647) : sm x (n + j) = 2147483647 := by
  induction j with
  | zero => exact e
  | succ j ih =>
    have := pw_range x h0 (n + j)
    show min (sm x (n + j) + pw x (n + j)) 2147483647 = _
    omega
theorem sm_31 (x : Int) (h : 2 ≤ x) (n : Nat) (hn : 32 ≤ n) : sm x n = 2147483647 := by
  have h1 := pw_31 x h 31 (by omega)
  have h2 := sm_range x (by omega) 31
  have h3 : sm x 32 = 2147483647 := by
    rw [sm_succ, h1]
    omega
  have := sm_top x (by omega) 32 (n - 32) h3
  rwa [show 32 + (n - 32) = n by omega] at this
theorem sm_zero (n : Nat) : sm 0 (n + 1) = 1 := by
  induction n with
  | zero => decide
  | succ n ih => rw [sm_succ, ih, pw_zero]; decide
theorem sm_one (n : Nat) : sm 1 n = min (n : Int) 2147483647 := by
  induction n with
  | zero => decide
  | succ n ih => rw [sm_succ, ih, pw_one]; omega
theorem powr_nat (a : Int) (j : Nat) (h : j ≤ 64) : powr a j = pw (upto a 2147483647) j := by
  unfold powr
  rw [show (min (j : Int) 64).toNat = j by omega]
theorem powr_nat2 (x : Int) (h : 2 ≤ x) (hx : x ≤ 2147483647) (j : Nat) : powr x j = pw x j := by
  unfold powr
  rw [show upto x 2147483647 = x by unfold upto; omega]
  by_cases h64 : j ≤ 64
  · rw [show (min (j : Int) 64).toNat = j by omega]
  · rw [pw_31 x h _ (by omega), pw_31 x h _ (by omega)]
theorem sPlus (a b : Int) : v66 a b = bnd (bnd a + bnd b) := by
  unfold v66
  rw [sBound, sBound, sBound, wrap_in (by unfold bnd; omega) (by unfold bnd; omega)]
def smEnd (a n : Int) (out : Int) : Int := if n > 64 then (if upto a 2 = 1 then upto n 2147483647 else out) else out
theorem sSum_iter (a n : Int) (hn : n ≤ 9223372036854775807) (d : Nat) : ∀ (j m : Nat), j + d = (min n 64).toNat → d < m →
    ∃ z, iter s23_0 m (a, n, 0, sm (upto a 2147483647) j, (j : Int), ()) = some (0, (a, n, 0, sm (upto a 2147483647) (min n 64).toNat, z, ())) := by
  have hu := upto_max a
  induction d with
  | zero =>
    intro j m hj hm
    obtain ⟨q, rfl⟩ : ∃ q, m = q + 1 := ⟨m - 1, by omega⟩
    have h : s23_0 (a, n, 0, sm (upto a 2147483647) j, (j : Int), ()) = some (1, (a, n, 0, sm (upto a 2147483647) j, (j : Int), ())) := by
      by_cases h : (j : Int) < n
      · have h2 : ¬ (j : Int) < 64 := by omega
        simp [s23_0, t23_0, h, h2]
      · simp [s23_0, t23_0, h]
    exact ⟨_, by rw [iter, h, show (min n 64).toNat = j by omega]; rfl⟩
  | succ d ih =>
    intro j m hj hm
    obtain ⟨q, rfl⟩ : ∃ q, m = q + 1 := ⟨m - 1, by omega⟩
    have hs := sm_range (upto a 2147483647) hu.1 j
    have hp := pw_range (upto a 2147483647) hu.1 j
    by_cases h : sm (upto a 2147483647) j < 2147483647
    · have hst : s23_0 (a, n, 0, sm (upto a 2147483647) j, (j : Int), ()) = some (0, (a, n, 0, sm (upto a 2147483647) (j + 1), ((j + 1 : Nat) : Int), ())) := by
        have h1 : (j : Int) < n := by omega
        have h2 : (j : Int) < 64 := by omega
        have hq := sPow a j (by omega)
        have e : bnd (bnd (sm (upto a 2147483647) j) + bnd (pw (upto a 2147483647) j)) = sm (upto a 2147483647) (j + 1) := by
          rw [sm_succ]; unfold bnd; omega
        simp only [s23_0, t23_0, h1, h2, h, decide_true, cond_true, hq.1, hq.2, sPlus]
        rw [powr_nat a j (by omega), e, wrap_in (n := (j : Int) + 1) (by omega) (by omega)]
        rfl
      obtain ⟨z, hz⟩ := ih (j + 1) q (by omega) (by omega)
      exact ⟨z, by rw [iter, hst]; exact hz⟩
    · have e : sm (upto a 2147483647) j = 2147483647 := by omega
      have e2 : sm (upto a 2147483647) (min n 64).toNat = 2147483647 := by
        have := sm_top _ hu.1 j (d + 1) e
        rwa [hj] at this
      have hst : s23_0 (a, n, 0, sm (upto a 2147483647) j, (j : Int), ()) = some (1, (a, n, 0, sm (upto a 2147483647) j, (j : Int), ())) := by
        by_cases h1 : (j : Int) < n <;> simp [s23_0, t23_0, h1, h]
      exact ⟨_, by rw [iter, hst, e2, e]; rfl⟩
def sumr (a n : Int) : Int := smEnd a n (sm (upto a 2147483647) (min n 64).toNat)
theorem sSum (a n : Int) (hn : n ≤ 9223372036854775807) : d23 a n = true ∧ v23 a n = sumr a n := by
  obtain ⟨z, hz⟩ := sSum_iter a n hn (min n 64).toNat 0 (n23_0 (a, n, 0, 0, 0, ())) (by omega) (by simp only [n23_0]; omega)
  have e0 : k23_0 a n 0 0 0 0 = true := at_of hz 0
  have ew : w23_0 a n 0 0 0 = _ := val_of hz
  unfold d23 v23 sumr smEnd
  rw [e0, ew]
  simp only [cond_true, sUpto]
  by_cases h : n > 64
  · rw [decide_eq_true h, if_pos h]
    by_cases h1 : upto a 2 = 1
    · rw [if_pos h1, h1]; exact ⟨rfl, rfl⟩
    · rw [if_neg h1, show (upto a 2 == (1 : Int)) = false by simpa using h1]; exact ⟨rfl, rfl⟩
  · rw [decide_eq_false h, if_neg h]; exact ⟨rfl, rfl⟩
theorem iSum_iter (x n : Int) (h2 : 2 ≤ x) (hx : x ≤ 2147483647) (hn : n ≤ 9223372036854775807) (d : Nat) : ∀ (j m : Nat), j + d = n.toNat → d < m →
    ∃ z, iter s19_0 m (x, n, 0, sm x j, (j : Int), ()) = some (0, (x, n, 0, sm x n.toNat, z, ())) := by
  induction d with
  | zero =>
    intro j m hj hm
    obtain ⟨q, rfl⟩ : ∃ q, m = q + 1 := ⟨m - 1, by omega⟩
    have h : s19_0 (x, n, 0, sm x j, (j : Int), ()) = some (1, (x, n, 0, sm x j, (j : Int), ())) := by
      have h1 : ¬ (j : Int) < n := by omega
      simp [s19_0, t19_0, h1]
    exact ⟨_, by rw [iter, h, show n.toNat = j by omega]; rfl⟩
  | succ d ih =>
    intro j m hj hm
    obtain ⟨q, rfl⟩ : ∃ q, m = q + 1 := ⟨m - 1, by omega⟩
    have hs := sm_range x (by omega) j
    have hp := pw_range x (by omega) j
    by_cases h : sm x j < 2147483647
    · have hst : s19_0 (x, n, 0, sm x j, (j : Int), ()) = some (0, (x, n, 0, sm x (j + 1), ((j + 1 : Nat) : Int), ())) := by
        have h1 : (j : Int) < n := by omega
        have hq := iPow x j (by omega)
        have e : (if (2147483647 : Int) < sm x j + pw x j then 2147483647 else sm x j + pw x j) = sm x (j + 1) := by rw [sm_succ]; split <;> omega
        simp only [s19_0, t19_0, h1, h, decide_true, cond_true, hq.1, hq.2]
        rw [powr_nat2 x h2 hx j, wrap_in (n := sm x j + pw x j) (by omega) (by omega), e, wrap_in (n := (j : Int) + 1) (by omega) (by omega)]
        rfl
      obtain ⟨z, hz⟩ := ih (j + 1) q (by omega) (by omega)
      exact ⟨z, by rw [iter, hst]; exact hz⟩
    · have e : sm x j = 2147483647 := by omega
      have e2 : sm x n.toNat = 2147483647 := by
        have := sm_top x (by omega) j (d + 1) e
        rwa [hj] at this
      have hst : s19_0 (x, n, 0, sm x j, (j : Int), ()) = some (1, (x, n, 0, sm x j, (j : Int), ())) := by
        by_cases h1 : (j : Int) < n <;> simp [s19_0, t19_0, h1, h]
      exact ⟨_, by rw [iter, hst, e2, e]; rfl⟩
theorem iSum (a n : Int) (hn : n ≤ 9223372036854775807) : d19 a n = true ∧ v19 a n = sumr a n := by
  have hu := upto_max a
  have hq : upto a 2 = min (upto a 2147483647) 2 := by unfold upto; omega
  unfold d19 v19 sumr smEnd
  rw [iUpto, hq]
  generalize upto a 2147483647 = x at *
  by_cases hn0 : n ≤ 0
  · rw [decide_eq_true hn0, if_neg (show ¬ n > 64 by omega), show (min n 64).toNat = 0 by omega]
    exact ⟨rfl, rfl⟩
  · rw [decide_eq_false hn0]
    obtain ⟨q, hq1⟩ : ∃ q, (min n 64).toNat = q + 1 := ⟨(min n 64).toNat - 1, by omega⟩
    by_cases h0 : x = 0
    · subst h0
      rw [hq1, sm_zero, if_neg (show ¬ (min (0 : Int) 2 = 1) by decide), ite_self]
      exact ⟨rfl, rfl⟩
    · rw [show (x == (0 : Int)) = false by simpa using h0]
      by_cases h1 : x = 1
      · subst h1
        refine ⟨rfl, ?_⟩
        rw [sm_one, if_pos (show min (1 : Int) 2 = 1 by decide)]
        show (if (2147483647 : Int) < n then 2147483647 else n) = _
        unfold upto
        split <;> split <;> omega
      · rw [show (x == (1 : Int)) = false by simpa using h1]
        obtain ⟨z, hz⟩ := iSum_iter x n (by omega) hu.2 hn n.toNat 0 (n19_0 (x, n, 0, 0, 0, ())) (by omega) (by simp only [n19_0]; omega)
        have e : (if n > 64 then (if min x 2 = 1 then upto n 2147483647 else sm x (min n 64).toNat) else sm x (min n 64).toNat) = sm x n.toNat := by
          split
          · rw [if_neg (by omega), sm_31 x (by omega) _ (by omega), sm_31 x (by omega) _ (by omega)]
          · rw [show (min n 64).toNat = n.toNat by omega]
        have e0 : k19_0 x n 0 0 0 0 = true := at_of hz 0
        have ew : w19_0 x n 0 0 0 = _ := val_of hz
        rw [e0, ew, e]
        exact ⟨rfl, rfl⟩
theorem ok_i64 {n : Int} (h : Ty.ok (.int .i64) n) : -9223372036854775808 ≤ n ∧ n ≤ 9223372036854775807 := by
  simp [Ty.ok, Lit.wf, IntKind.min, IntKind.max, IntKind.signed, IntKind.bits] at h
  omega
noncomputable def cntF (k : Int) (e : Ty.T y72) : Int := if e.2.2.2.2.2.2.2.2 = 0 then k else k + 1
theorem useS (xs : List (Ty.T y72)) (hb : xs.length ≤ 1048576) : d68 xs = true ∧ v68 xs = xs.foldl cntF 0 := by
  have h := fold_iter (s := s68_0) (mk := fun (k : Int) i => (xs, 0, k, i, ())) (xs := xs) (f := cntF) (Inv := fun i k => 0 ≤ k ∧ k ≤ i) (fun i x k hx hI => by
    obtain ⟨hi, rfl⟩ := List.getElem?_eq_some_iff.1 hx
    have hk := wrap_in (n := k + 1) (by omega) (by omega)
    by_cases hg : (xs[i]).2.2.2.2.2.2.2.2 = 0
    · have hg2 : ((xs[i]).2.2.2.2.2.2.2.2 != (0 : Int)) = false := by simpa using hg
      refine ⟨by simp [s68_0, t68_0, optC_some, hi, hg, hg2, cntF, wrap_nat (n := i) (by omega)], ?_⟩
      unfold cntF; rw [if_pos hg]; omega
    · have hg2 : ((xs[i]).2.2.2.2.2.2.2.2 != (0 : Int)) = true := by simpa using hg
      refine ⟨by simp [s68_0, t68_0, optC_some, hi, hg, hg2, hk, cntF, wrap_nat (n := i) (by omega)], ?_⟩
      unfold cntF; rw [if_neg hg]; omega) (fun k => by simp [s68_0, t68_0]) xs.length 0 0 (n68_0 (xs, 0, 0, 0, ())) (by omega) (by simp only [n68_0]; omega) ⟨by omega, by omega⟩
  have hk : k68_0 xs 0 0 0 0 = true := at_of h 0
  have hw : w68_0 xs 0 0 0 = _ := val_of h
  unfold d68 v68
  rw [hk, hw]
  exact ⟨rfl, rfl⟩
theorem useI (xs : List (Ty.T y72)) (hb : xs.length ≤ 1048576) : d67 xs = true ∧ v67 xs = xs.foldl cntF 0 := by
  have h := fold_iter (s := s67_0) (mk := fun (k : Int) i => (0, k, xs, ((xs).length : Int), i, ())) (xs := xs) (f := cntF) (Inv := fun i k => 0 ≤ k ∧ k ≤ i) (fun i x k hx hI => by
    obtain ⟨hi, rfl⟩ := List.getElem?_eq_some_iff.1 hx
    have hk := wrap_in (n := k + 1) (by omega) (by omega)
    by_cases hg : (xs[i]).2.2.2.2.2.2.2.2 = 0
    · have hg2 : ((xs[i]).2.2.2.2.2.2.2.2 != (0 : Int)) = false := by simpa using hg
      refine ⟨by simp [s67_0, t67_0, optC_some, hi, hg, hg2, cntF, wrap_nat (n := i) (by omega)], ?_⟩
      unfold cntF; rw [if_pos hg]; omega
    · have hg2 : ((xs[i]).2.2.2.2.2.2.2.2 != (0 : Int)) = true := by simpa using hg
      refine ⟨by simp [s67_0, t67_0, optC_some, hi, hg, hg2, hk, cntF, wrap_nat (n := i) (by omega)], ?_⟩
      unfold cntF; rw [if_neg hg]; omega) (fun k => by simp [s67_0, t67_0]) xs.length 0 0 (n67_0 (0, 0, xs, ((xs).length : Int), 0, ())) (by omega) (by simp only [n67_0]; omega) ⟨by omega, by omega⟩
  have hk : k67_0 0 0 xs ((xs).length : Int) 0 0 = true := at_of h 0
  have hw : w67_0 0 0 xs ((xs).length : Int) 0 = _ := val_of h
  unfold d67 v67
  rw [hk, hw]
  exact ⟨rfl, rfl⟩
theorem cnt_range (xs : List (Ty.T y72)) : ∀ k, 0 ≤ k → 0 ≤ xs.foldl cntF k ∧ xs.foldl cntF k ≤ k + xs.length := by
  induction xs with
  | nil => intro k hk; simp; exact hk
  | cons x xs ih =>
    intro k hk
    simp only [List.foldl_cons, List.length_cons]
    have h := ih (cntF k x) (by unfold cntF; split <;> omega)
    have h2 : cntF k x ≤ k + 1 := by unfold cntF; split <;> omega
    omega
noncomputable def chF (k : Int) (x : Ty.T y158) : Int := if IntKind.wrap .i64 (x.2.2.2.2.2.2.2 + 1) > k then IntKind.wrap .i64 (x.2.2.2.2.2.2.2 + 1) else k
theorem wrap_up (d k : Int) (h0 : -9223372036854775808 ≤ d) (h1 : d ≤ 9223372036854775807) (hk : 0 ≤ k) : (if IntKind.wrap .i64 (d + 1) > k then IntKind.wrap .i64 (d + 1) else k) = cond (decide (d ≥ k)) (cond (decide (IntKind.wrap .i64 (d + 1) > 0)) (IntKind.wrap .i64 (d + 1)) k) k := by
  by_cases hd : d = 9223372036854775807
  · subst hd
    have : IntKind.wrap .i64 ((9223372036854775807 : Int) + 1) = -9223372036854775808 := by decide
    rw [this, if_neg (by omega), decide_eq_false (show ¬ (-9223372036854775808 : Int) > 0 by omega)]
    cases decide ((9223372036854775807 : Int) ≥ k) <;> rfl
  · rw [wrap_in (n := d + 1) (by omega) (by omega)]
    by_cases h : d ≥ k
    · rw [decide_eq_true h, if_pos (by omega), decide_eq_true (show d + 1 > 0 by omega)]; rfl
    · rw [decide_eq_false h, if_neg (by omega)]; rfl
theorem chainS (f : Ty.T y50) (hb : f.2.2.2.length ≤ 1048576) (hr : ∀ x ∈ f.2.2.2, -9223372036854775808 ≤ x.2.2.2.2.2.2.2 ∧ x.2.2.2.2.2.2.2 ≤ 9223372036854775807) : d72 f = true ∧ v72 f = f.2.2.2.foldl chF 0 := by
  have h := fold_iter (s := s72_0) (mk := fun (k : Int) i => (0, k, i, f, ())) (xs := f.2.2.2) (f := chF) (Inv := fun _ k => 0 ≤ k) (fun i x k hx hI => by
    have hm := hr x (List.mem_of_getElem? hx)
    obtain ⟨hi, rfl⟩ := List.getElem?_eq_some_iff.1 hx
    refine ⟨?_, by unfold chF; split <;> omega⟩
    have e := wrap_up (f.2.2.2[i]).2.2.2.2.2.2.2 k hm.1 hm.2 hI
    unfold chF
    rw [e]
    by_cases h1 : (f.2.2.2[i]).2.2.2.2.2.2.2 ≥ k <;> by_cases h2 : IntKind.wrap .i64 ((f.2.2.2[i]).2.2.2.2.2.2.2 + 1) > 0 <;> simp [s72_0, t72_0, optC_some, hi, h1, h2, wrap_nat (n := i) (by omega)]) (fun k => by simp [s72_0, t72_0]) f.2.2.2.length 0 0 (n72_0 (0, 0, 0, f, ())) (by omega) (by simp only [n72_0]; omega) (by omega)
  have hk : k72_0 0 0 0 f 0 = true := at_of h 0
  have hw : w72_0 0 0 0 f = _ := val_of h
  unfold d72 v72
  rw [hk, hw]
  exact ⟨rfl, rfl⟩
theorem chainI (f : Ty.T y50) (hb : f.2.2.2.length ≤ 1048576) (hr : ∀ x ∈ f.2.2.2, -9223372036854775808 ≤ x.2.2.2.2.2.2.2 ∧ x.2.2.2.2.2.2.2 ≤ 9223372036854775807) : d76 f = true ∧ v76 f = f.2.2.2.foldl chF 0 := by
  have h := fold_iter (s := s76_0) (mk := fun (k : Int) i => (0, k, f.2.2.2, ((f.2.2.2).length : Int), i, ())) (xs := f.2.2.2) (f := chF) (Inv := fun _ k => 0 ≤ k) (fun i x k hx hI => by
    have hm := hr x (List.mem_of_getElem? hx)
    obtain ⟨hi, rfl⟩ := List.getElem?_eq_some_iff.1 hx
    refine ⟨?_, by unfold chF; split <;> omega⟩
    simp [s76_0, t76_0, optC_some, hi, chF, wrap_nat (n := i) (by omega)]) (fun k => by simp [s76_0, t76_0]) f.2.2.2.length 0 0 (n76_0 (0, 0, f.2.2.2, ((f.2.2.2).length : Int), 0, ())) (by omega) (by simp only [n76_0]; omega) (by omega)
  have hk : k76_0 0 0 f.2.2.2 ((f.2.2.2).length : Int) 0 0 = true := at_of h 0
  have hw : w76_0 0 0 f.2.2.2 ((f.2.2.2).length : Int) 0 = _ := val_of h
  unfold d76 v76
  rw [hk, hw]
  exact ⟨rfl, rfl⟩
theorem bounds (l : List (Ty.T y72)) (f : Ty.T y50) (hl : l.length ≤ 1048576) (hb : f.2.2.2.length ≤ 1048576) (hr : ∀ x ∈ f.2.2.2, -9223372036854775808 ≤ x.2.2.2.2.2.2.2 ∧ x.2.2.2.2.2.2.2 ≤ 9223372036854775807) : d31 l f = true ∧ d34 l f = true ∧ v34 l f = v31 l f := by
  have u1 := useS l hl
  have u2 := useI l hl
  have ur := cnt_range l 0 (by omega)
  have hn : v68 l ≤ 9223372036854775807 := by rw [u1.2]; omega
  have hn2 : v67 l ≤ 9223372036854775807 := by rw [u2.2]; omega
  have e : v67 l = v68 l := u2.2.trans u1.2.symm
  have a1 := sSum 3 (v68 l) hn
  have a2 := iSum 3 (v68 l) hn
  have a3 := sPow 3 (v68 l) hn
  have a4 := iPow 3 (v68 l) hn
  have t1 : d25 l = true ∧ v25 l = sumr 3 (v68 l) := by unfold d25 v25; rw [u1.1, a1.1, a1.2]; exact ⟨rfl, rfl⟩
  have t2 : d24 l = true ∧ v24 l = sumr 3 (v68 l) := by unfold d24 v24; rw [u2.1, e, a2.1, a2.2]; exact ⟨rfl, rfl⟩
  have t3 : d27 l = true ∧ v27 l = powr 3 (v68 l) := by unfold d27 v27; rw [u1.1, a3.1, a3.2]; exact ⟨rfl, rfl⟩
  have t4 : d26 l = true ∧ v26 l = powr 3 (v68 l) := by unfold d26 v26; rw [u2.1, e, a4.1, a4.2]; exact ⟨rfl, rfl⟩
  have c1 := chainS f hb hr
  have c2 := chainI f hb hr
  unfold d31 d34 v31 v34
  rw [t1.1, t1.2, t2.1, t2.2, t3.1, t3.2, t4.1, t4.2, c1.1, c1.2, c2.1, c2.2, u1.1, u2.1, e]
  generalize decide ((f.2.2.2.length : Int) ≤ sumr 3 (v68 l)) = b1
  generalize decide ((f.1.length : Int) ≤ powr 3 (v68 l)) = b2
  cases b1 <;> cases b2 <;> exact ⟨rfl, rfl, rfl⟩
theorem law (a0 : List (Ty.T y62)) (a1 : Ty.T y42) (w0 : Ty.ok (.sl 63 y62) a0) (w1 : Ty.ok y42 a1) : d5 a0 a1 = true ∧ v5 a0 a1 = true := by
  unfold d5 v5
  have y0 := sz29 a0 w0 1048576 (by omega) (by omega)
  rw [y0.1]
  have z0 := y0.2
  by_cases g0 : v29 a0 1048576 < 0
  · rw [decide_eq_true g0]; exact ⟨rfl, rfl⟩
  · rw [decide_eq_false g0]
    have s0 := z0.2 (by omega)
    have y1 := sz30 a1 w1 (v29 a0 1048576) (by omega) (by have := z0.1; omega)
    rw [y1.1]
    have z1 := y1.2
    by_cases g1 : v30 a1 (v29 a0 1048576) < 0
    · rw [decide_eq_true g1]; exact ⟨rfl, rfl⟩
    · rw [decide_eq_false g1]
      have s1 := z1.2 (by omega)
      have t0_32 := to32 a0 s0
      have e0_32 : v32 a0 = a0 := t0_32.2
      have q0_35 := eq35 a0 s0
      have t1_33 := to33 a1 s1
      have e1_33 : v33 a1 = a1 := t1_33.2
      have q1_36 := eq36 a1 s1
      have m := bounds a0 a1 s0.1 s1.2.2.2.1 (fun x hx => ok_i64 (w1.2.2.2.1 x hx).2.2.2.2.2.2.2)
      simp only [t0_32.1, e0_32, q0_35.1, q0_35.2, t1_33.1, e1_33, q1_36.1, q1_36.2, m.1, m.2.1, m.2.2]
      simp
end Go.Proofs.Ytcladakiniekcaa.Vm
namespace Go.Proofs.Ytcladakiniekcaa.Pure
open Go Go.Proofs.Ytcladakiniekcaa.Lib Go.Proofs.Ytcladakiniekcaa.Vm
theorem fnExactInBounds : Go.Proofs.Ytcladakiniekcaa.fnExactInBounds.Pure := fun a0 a1 w0 w1 => by
  have h := law a0 a1 w0 w1
  show cond (d5 a0 a1) (some (f5 (v5 a0 a1))) none = _
  rw [h.1, h.2]
  rfl
end Go.Proofs.Ytcladakiniekcaa.Pure
