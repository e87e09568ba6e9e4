/- A part of the proof of a law: texts of this claim, joined by a program of the prover (Num1, Num2, Num3, R5, Pr1, Pr2, Pr3, Pr4, Pr5, Pr6, Pr7, Rp1, Rp2, Rp3, Rp4, Mn1, Mn2, Rn1). Conditions: those that each law names. -/
import Derived.Test.YtebmnfmiphbgdaaGreatDoorEachC
set_option linter.unusedVariables false
set_option linter.unusedSimpArgs false
set_option linter.unusedSectionVars false
set_option linter.unnecessarySimpa false
namespace Go.Proofs.YtebmnfmiphbgdaaGreatDoor
open Go.Sh
section
variable {w w0 : World} {Kp : KP} {K : K0} {B : Nat} {T : Store}
theorem ncell_spec {x : Int} (k : K (u16 (x % 65536)) w) : Calls P 119 #[i64 x] w (EndsS Kp K) := by
  refine F119_calls ?_
  unfold F119
  apply S_R (R_toU16 Tryz.underlying3 Tryz.underlying41)
  exact k
theorem nsigned_spec {x : Int} (hx : isC x) (k : K (i64 (sgn x)) w) : Calls P 120 #[u16 x] w (EndsS Kp K) := by
  have := sgn_in hx
  refine F120_calls ?_
  unfold F120
  apply S_R (R_toI16 Tryz.underlying41 Tryz.underlying188 hx)
  apply S_R (R_toI64 Tryz.underlying188 Tryz.underlying3 (by omega))
  exact k
theorem nflag_spec {b : Bool} (k : K (u16 (flag b)) w) : Calls P 121 #[.bool b] w (EndsS Kp K) := by
  refine F121_calls ?_
  unfold F121
  cases b
  · exact C_f k
  · exact C_t k
theorem num_some {o : Option Int} {v : Int} (h : o = some v) (k : K (.tuple #[u16 (o.getD 0), .bool o.isSome]) w) : K (.tuple #[u16 v, .bool true]) w := by subst h; exact k
theorem num_none {o : Option Int} (h : o = none) (k : K (.tuple #[u16 (o.getD 0), .bool o.isSome]) w) : K (.tuple #[u16 0, .bool false]) w := by subst h; exact k
theorem unary_spec {op x : Int} (hx : isC x) (k : K (.tuple #[u16 ((unary op x).getD 0), .bool (unary op x).isSome]) w) : Calls P 106 #[i64 op, u16 x] w (EndsS Kp K) := by
  unfold isC at hx
  refine F106_calls ?_
  unfold F106 J
  repeat' (with_reducible first
    | refine C_t ?_
    | refine C_f ?_
    | refine S_eql (fun hc => ?_) (fun hc => ?_)
    | refine S_geq (fun hc => ?_) (fun hc => ?_)
    | refine S_lss (fun hc => ?_) (fun hc => ?_)
    | (apply S_R; first | exact R_sub16 | exact R_add16))
  all_goals try simp (decide := true) only [upd_hit, upd_miss]
  repeat' (with_reducible (apply S_R; first | exact R_sub16i (by omega) | exact R_sub16 | exact R_not16 (by omega)))
  all_goals try (refine S_c120 (nsigned_spec hx (S_R R_shr1 (S_c119 (ncell_spec ?_)))))
  all_goals try (refine S_c121 (nflag_spec ?_))
  all_goals first | refine num_none ?_ k | refine num_some ?_ k
  all_goals (unfold unary; repeat' (first | rw [if_pos (by omega)] | rw [if_neg (by omega)]))
  all_goals try (congr 1)
  all_goals try omega
  all_goals (congr 1; simp; try omega)
theorem divided_spec {op x y : Int} (ho : op = 24 ∨ op = 25 ∨ op = 26 ∨ op = 27) (hx : isC x) (hy : isC y) (k : K (u16 (divided op x y)) w) : Calls P 124 #[i64 op, u16 x, u16 y] w (EndsS Kp K) := by
  have h1 := sgn_in hx
  have h2 := sgn_in hy
  have h3 := sgn_zero hy
  have hx' := hx
  have hy' := hy
  unfold isC at hx' hy'
  refine F124_calls ?_
  unfold F124 J
  repeat' (with_reducible first
    | refine C_t ?_
    | refine C_f ?_
    | refine S_c120 (nsigned_spec (by assumption) ?_)
    | refine S_eql (fun hc => ?_) (fun hc => ?_)
    | (apply S_R; exact R_toI64 Tryz.underlying41 Tryz.underlying3 (by omega)))
  all_goals try simp (decide := true) only [upd_hit, upd_miss]
  repeat' (with_reducible first
    | refine S_c119 (ncell_spec ?_)
    | (apply S_R; first | exact R_quo64 (by omega) (by omega) | exact R_rem _ _ _ _ _ _ (by omega)))
  all_goals try simp (decide := true) only [upd_hit, upd_miss]
  skip
  all_goals refine K_int ?_ k
  all_goals (unfold divided; repeat' (first | rw [if_pos (by omega)] | rw [if_neg (by omega)]))
  · rw [Int.tdiv_eq_ediv_of_nonneg hx'.1]
    have h4 := Int.ediv_nonneg hx'.1 hy'.1
    have h5 := Int.ediv_le_self y hx'.1
    rw [Int.emod_eq_of_lt h4 (by omega)]
  · rw [Int.tmod_eq_emod_of_nonneg hx'.1]
    have h4 := Int.emod_nonneg x (b := y) (by omega)
    have h5 := Int.emod_lt_of_pos x (b := y) (by omega)
    rw [Int.emod_eq_of_lt h4 (by omega)]
theorem compared_spec {op x y : Int} (hx : isC x) (hy : isC y) (k : K (.tuple #[u16 ((binary op x y).getD 0), .bool (binary op x y).isSome]) w)
    (ho : ¬ (op = 21 ∨ op = 22 ∨ op = 23 ∨ op = 24 ∨ op = 25 ∨ op = 26 ∨ op = 27 ∨ op = 36 ∨ op = 37 ∨ op = 38 ∨ op = 40 ∨ op = 41)) : Calls P 125 #[i64 op, u16 x, u16 y] w (EndsS Kp K) := by
  have h1 := sgn_in hx
  have h2 := sgn_in hy
  have h3 := sgn_zero hy
  have hx' := hx
  have hy' := hy
  unfold isC at hx' hy'
  refine F125_calls ?_
  unfold F125 J
  repeat' (with_reducible first
    | refine C_t ?_
    | refine C_f ?_
    | refine S_c120 (nsigned_spec (by assumption) ?_)
    | refine S_c121 (nflag_spec ?_)
    | refine S_eql (fun hc => ?_) (fun hc => ?_)
    | refine S_gtr (fun hc => ?_) (fun hc => ?_)
    | refine S_lss (fun hc => ?_) (fun hc => ?_)
    | refine S_neq (fun hc => ?_) (fun hc => ?_))
  all_goals try simp (decide := true) only [upd_hit, upd_miss]
  repeat' (with_reducible first
    | refine S_c120 (nsigned_spec (by assumption) ?_)
    | refine S_c121 (nflag_spec ?_)
    | refine S_lss (fun hc => ?_) (fun hc => ?_))
  all_goals try simp (decide := true) only [upd_hit, upd_miss]
  skip
  all_goals first | refine num_none ?_ k | refine num_some ?_ k
  all_goals (unfold binary; repeat' (first | rw [if_pos (by omega)] | rw [if_neg (by omega)]))
  all_goals try (congr 1; congr 1; simp; try omega)
theorem binary_spec {op x y : Int} (hx : isC x) (hy : isC y) (k : K (.tuple #[u16 ((binary op x y).getD 0), .bool (binary op x y).isSome]) w) : Calls P 108 #[i64 op, u16 x, u16 y] w (EndsS Kp K) := by
  have hx' := hx
  have hy' := hy
  unfold isC at hx' hy'
  refine F108_calls ?_
  unfold F108 J
  repeat' (with_reducible first
    | refine C_t ?_
    | refine C_f ?_
    | (apply S_R; exact R_neg16)
    | refine S_eql (fun hc => ?_) (fun hc => ?_)
    | (apply S_R; exact R_mul16))
  all_goals try simp (decide := true) only [upd_hit, upd_miss]
  repeat' (with_reducible first
    | refine C_t ?_
    | refine C_f ?_
    | refine S_c125 (compared_spec (by assumption) (by assumption) ?_ (by omega))
    | refine S_c124 (divided_spec (by omega) (by assumption) (by assumption) ?_)
    | (apply S_R; exact R_shl16 (by omega))
    | (apply S_R; exact R_shr16 (by omega) (by omega))
    | refine S_eql (fun hc => ?_) (fun hc => ?_)
    | (apply S_R; first | exact R_add16 | exact R_and16 (by omega) (by omega) | exact R_or16 (by omega) (by omega) | exact R_xor16 (by omega) (by omega) | exact R_ext2_0 | exact R_ext2_1))
  all_goals try simp (decide := true) only [upd_hit, upd_miss]
  skip
  all_goals first | exact k | refine num_some ?_ k
  all_goals (unfold binary; repeat' (first | rw [if_pos (by omega)] | rw [if_neg (by omega)]))
  all_goals (congr 1; try omega)
end
end Go.Proofs.YtebmnfmiphbgdaaGreatDoor
namespace Go.Proofs.YtebmnfmiphbgdaaGreatDoor
open Go.Sh
section
variable {w w0 : World} {Kp : KP} {K : K0} {B : Nat} {T : Store}
theorem rsigned_spec {x : Int} (hx : isC x) (k : K (i64 (sgn x)) w) : Calls P 98 #[u16 x] w (EndsS Kp K) := by
  unfold isC at hx
  refine F98_calls ?_
  unfold F98
  repeat' (with_reducible first
    | refine C_t ?_
    | refine C_f ?_
    | refine S_geq (fun hc => ?_) (fun hc => ?_)
    | (apply S_R; first | exact R_toI64 Tryz.underlying41 Tryz.underlying3 (by omega) | exact R_subi (by omega)))
  · refine K_int ?_ k; unfold sgn; repeat' (first | rw [if_pos (by omega)] | rw [if_neg (by omega)])
  · refine K_int ?_ k; unfold sgn; repeat' (first | rw [if_pos (by omega)] | rw [if_neg (by omega)])
theorem rcellN_spec {x : Int} (hx : -9223372036854775808 ≤ x ∧ x < 9223372036854775808) (k : K (u16 (x % 65536)) w) : Calls P 99 #[i64 x] w (EndsS Kp K) := by
  have h1 := Int.tmod_eq_emod (a := x) (b := 65536)
  have h2 := Int.emod_nonneg x (b := 65536) (by omega)
  have h3 := Int.emod_lt_of_pos x (b := 65536) (by omega)
  have h4 : x.tmod 65536 = x % 65536 ∨ x.tmod 65536 = x % 65536 - 65536 := by
    rw [h1]; split <;> simp
  refine F99_calls ?_
  unfold F99 J
  repeat' (with_reducible first
    | refine C_t ?_
    | refine C_f ?_
    | refine S_lss (fun hc => ?_) (fun hc => ?_)
    | (apply S_R; first | exact R_addi (by omega) | exact R_rem _ _ _ _ _ _ (by omega)))
  all_goals try simp (decide := true) only [upd_hit, upd_miss]
  repeat' (with_reducible (apply S_R; exact R_toU16i Tryz.underlying3 Tryz.underlying41 (by omega)))
  all_goals (refine K_int ?_ k; omega)
theorem half_spec {x : Int} (hx : -65536 ≤ x ∧ x ≤ 65536) (k : K (i64 (x / 2)) w) : Calls P 100 #[i64 x] w (EndsS Kp K) := by
  have h0 := tdiv_small (b := 2) hx
  have h1 : x.tdiv 2 = x / 2 ∨ (x.tdiv 2 = x / 2 + 1 ∧ x % 2 = 1) := by
    rw [Int.tdiv_eq_ediv]; split
    · left; omega
    · rename_i h; right; constructor
      · rfl
      · omega
  refine F100_calls ?_
  unfold F100 J
  repeat' (with_reducible first
    | refine C_t ?_
    | refine C_f ?_
    | refine S_gtr (fun hc => ?_) (fun hc => ?_)
    | (apply S_R; first | exact R_quo64 (by omega) (by omega) | exact R_muli (by omega) | exact R_subi (by omega)))
  all_goals try simp (decide := true) only [upd_hit, upd_miss]
  skip
  all_goals (refine K_int ?_ k; omega)
theorem rflag_spec {b : Bool} (k : K (u16 (flag b)) w) : Calls P 101 #[.bool b] w (EndsS Kp K) := by
  refine F101_calls ?_
  unfold F101
  cases b
  · exact C_f k
  · exact C_t k
theorem away_spec {x : Int} (hx : -65536 ≤ x ∧ x ≤ 65536) (k : K (i64 (if x < 0 then -x else x)) w) : Calls P 147 #[i64 x] w (EndsS Kp K) := by
  refine F147_calls ?_
  unfold F147
  repeat' (with_reducible first
    | refine C_t ?_
    | refine C_f ?_
    | (apply S_R; exact R_neg64 (by omega))
    | refine S_lss (fun hc => ?_) (fun hc => ?_))
  · rw [if_pos hc] at k; exact k
  · rw [if_neg hc] at k; exact k
theorem R_neqb (a b : Bool) : R P (vbin .neq 4 false false (.bool a) (.bool b)) (.bool (a != b)) := by
  cases a <;> cases b <;> exact ⟨fun _ => by kernel_rfl⟩
theorem quotient_spec {x y : Int} (hx : -65536 ≤ x ∧ x ≤ 65536) (hy : -65536 ≤ y ∧ y ≤ 65536) (h0 : y ≠ 0) (k : K (i64 (x.tdiv y)) w) : Calls P 118 #[i64 x, i64 y] w (EndsS Kp K) := by
  refine F118_calls ?_
  unfold F118
  refine S_c147 (away_spec hx (S_c147 (away_spec hy ?_)))
  by_cases hx0 : x < 0 <;> by_cases hy0 : y < 0
  · rw [if_pos hx0, if_pos hy0]
    have h1 := tdiv_small (a := -x) (b := -y) (by omega)
    repeat' (with_reducible first
      | (apply S_R; exact R_neqb _ _)
      | refine S_lss_t (by omega) ?_
      | (apply S_R; exact R_quo64 (by omega) (by omega)))
    exact C_f (by rw [Int.neg_tdiv, Int.tdiv_neg, Int.neg_neg]; exact k)
  · rw [if_pos hx0, if_neg hy0]
    have h1 := tdiv_small (a := -x) (b := y) (by omega)
    repeat' (with_reducible first
      | (apply S_R; exact R_neqb _ _)
      | refine S_lss_t (by omega) ?_
      | refine S_lss_f (by omega) ?_
      | (apply S_R; exact R_quo64 (by omega) (by omega)))
    refine C_t (S_R (R_neg64 (by omega)) ?_)
    rw [Int.neg_tdiv, Int.neg_neg]; exact k
  · rw [if_neg hx0, if_pos hy0]
    have h1 := tdiv_small (a := x) (b := -y) (by omega)
    repeat' (with_reducible first
      | (apply S_R; exact R_neqb _ _)
      | refine S_lss_t (by omega) ?_
      | refine S_lss_f (by omega) ?_
      | (apply S_R; exact R_quo64 (by omega) (by omega)))
    refine C_t (S_R (R_neg64 (by omega)) ?_)
    rw [Int.tdiv_neg, Int.neg_neg]; exact k
  · rw [if_neg hx0, if_neg hy0]
    have h1 := tdiv_small (a := x) (b := y) (by omega)
    repeat' (with_reducible first
      | (apply S_R; exact R_neqb _ _)
      | refine S_lss_f (by omega) ?_
      | (apply S_R; exact R_quo64 (by omega) (by omega)))
    exact C_f k
theorem rdivides_spec {op x y : Int} (ho : op = 24 ∨ op = 25 ∨ op = 26 ∨ op = 27) (hx : isC x) (hy : isC y) (h0 : y ≠ 0) (k : K (u16 (divided op x y)) w) : Calls P 102 #[i64 op, u16 x, u16 y] w (EndsS Kp K) := by
  have h1 := sgn_in hx
  have h2 := sgn_in hy
  have h3 := sgn_zero hy
  have hx' := hx
  have hy' := hy
  unfold isC at hx' hy'
  unfold divided at k
  rw [if_neg h0] at k
  have hq := tdiv_small (a := sgn x) (b := sgn y) (by omega)
  have hm := Int.tmod_add_mul_tdiv (sgn x) (sgn y)
  have hm2 : (sgn x).tdiv (sgn y) * sgn y = sgn x - (sgn x).tmod (sgn y) := by rw [Int.mul_comm]; omega
  have hm3 : ((sgn x).tmod (sgn y)).natAbs ≤ (sgn x).natAbs := by rw [Int.natAbs_tmod]; exact Nat.mod_le _ _
  have hd := Int.tdiv_eq_ediv_of_nonneg (b := y) hx'.1
  have hd1 := Int.ediv_nonneg hx'.1 hy'.1
  have hd2 := Int.ediv_le_self y hx'.1
  have hd3 : x / y * y = x - x % y := by have := Int.emod_add_mul_ediv x y; rw [Int.mul_comm]; omega
  have hd4 := Int.emod_nonneg x (b := y) (by omega)
  have hd5 := Int.emod_lt_of_pos x (b := y) (by omega)
  refine F102_calls ?_
  unfold F102
  repeat' (with_reducible first
    | refine C_t ?_
    | refine C_f ?_
    | refine S_c98 (rsigned_spec (by assumption) ?_)
    | refine S_c118 (quotient_spec (by omega) (by omega) (by omega) ?_)
    | refine S_c99 (rcellN_spec (by omega) ?_)
    | refine S_eql (fun hc => ?_) (fun hc => ?_)
    | (apply S_R; first | exact R_muli (by omega) | exact R_subi (by omega) | exact R_toI64 Tryz.underlying41 Tryz.underlying3 (by omega) | exact R_quo64 (by omega) (by omega)))
  · refine K_int ?_ k; repeat' (first | rw [if_pos (by omega)] | rw [if_neg (by omega)])
  · refine K_int ?_ k; rw [hm2, Int.sub_sub_self]; repeat' (first | rw [if_pos (by omega)] | rw [if_neg (by omega)])
  · refine K_int ?_ k; rw [hd]; repeat' (first | rw [if_pos (by omega)] | rw [if_neg (by omega)])
    omega
  · rw [hd]
    apply S_R (R_muli (by omega)); apply S_R (R_subi (by omega))
    refine S_c99 (rcellN_spec (by omega) ?_)
    refine K_int ?_ k; rw [hd3, Int.sub_sub_self]; repeat' (first | rw [if_pos (by omega)] | rw [if_neg (by omega)])
    omega
theorem pow_small (i : Nat) (h : i ≤ 16) : (1 : Int) ≤ 2 ^ i ∧ (2 : Int) ^ i ≤ 65536 := by
  have h1 : (2 : Nat) ^ i ≤ 2 ^ 16 := Nat.pow_le_pow_right (by omega) h
  have h2 : 0 < (2 : Nat) ^ i := Nat.two_pow_pos i
  have e : ((2 ^ i : Nat) : Int) = (2 : Int) ^ i := by simp
  omega
theorem power_spec {n : Nat} (hn : n ≤ 15) (k : K (i64 (2 ^ n)) w) : Calls P 104 #[i64 (n : Int)] w (EndsS Kp K) := by
  refine F104_calls ?_
  unfold F104
  refine loop_count (fun i (_ : Unit) => upd 0 (i64 (n : Int)) (upd 2 (i64 0) (upd 3 (i64 (2 ^ i)) (upd 4 (i64 (i : Int)) E0)))) 4 .i64 n (fun i _ w' => w' = w) () (fun _ _ => rfl) rfl rfl ?_
  rintro i - w1 KL hi rfl next
  have hp := pow_small i (by omega)
  try simp (decide := true) only [upd_hit, upd_miss]
  repeat' (with_reducible first
    | refine C_t ?_
    | refine C_f ?_
    | refine S_lss (fun hc => ?_) (fun hc => ?_)
    | (apply S_R; first | exact R_muli (by omega) | exact R_addi (by omega)))
  · rw [show ((i : Int) + 1) = ((i + 1 : Nat) : Int) by omega, show (2 : Int) * 2 ^ i = 2 ^ (i + 1) by rw [Int.pow_succ, Int.mul_comm]]
    exact next (by omega) () _ rfl
  · have : i = n := by omega
    subst this
    exact k
set_option maxHeartbeats 4000000 in
theorem bits_spec {op : Int} {x y z : Nat} (hx : x < 65536) (hy : y < 65536) (hz : z < 65536)
    (hop : (op = 36 ∧ z = x &&& y) ∨ (op = 37 ∧ z = x ||| y) ∨ (op = 38 ∧ z = x ^^^ y)) (k : K (u16 (z : Int)) w) : Calls P 103 #[i64 op, u16 (x : Int), u16 (y : Int)] w (EndsS Kp K) := by
  refine F103_calls ?_
  unfold F103 J
  refine loop_count (fun i (_ : Unit) => upd 0 (i64 op) (upd 1 (u16 (x : Int)) (upd 2 (u16 (y : Int)) (upd 6 (u16 0) (upd 7 (i64 ((z % 2 ^ i : Nat) : Int)) (upd 8 (i64 (i : Int)) (upd 9 (i64 (2 ^ i)) E0))))))) 8 .i64 16 (fun i _ w' => w' = w) () (fun _ _ => rfl) (by simp [Nat.mod_one]) rfl ?_
  rintro i - w1 KL hi rfl next
  have hp := pow_small i (by omega)
  have hbx := bit_of x i
  have hby := bit_of y i
  have hbz := mod_bit z i
  have htz : z.testBit i = if op = 36 then (x.testBit i && y.testBit i) else if op = 37 then (x.testBit i || y.testBit i) else (x.testBit i ^^ y.testBit i) := by
    rcases hop with ⟨rfl, rfl⟩ | ⟨rfl, rfl⟩ | ⟨rfl, rfl⟩
    · simp
    · simp
    · simp
  have hdx : (x : Int).tdiv (2 ^ i) = (x : Int) / 2 ^ i := Int.tdiv_eq_ediv_of_nonneg (by omega)
  have hdy : (y : Int).tdiv (2 ^ i) = (y : Int) / 2 ^ i := Int.tdiv_eq_ediv_of_nonneg (by omega)
  have hnx : (0 : Int) ≤ (x : Int) / 2 ^ i := Int.ediv_nonneg (by omega) (by omega)
  have hny : (0 : Int) ≤ (y : Int) / 2 ^ i := Int.ediv_nonneg (by omega) (by omega)
  have hmx : ((x : Int).tdiv (2 ^ i)).tmod 2 = (x : Int) / 2 ^ i % 2 := by rw [hdx, Int.tmod_eq_emod_of_nonneg hnx]
  have hmy : ((y : Int).tdiv (2 ^ i)).tmod 2 = (y : Int) / 2 ^ i % 2 := by rw [hdy, Int.tmod_eq_emod_of_nonneg hny]
  rw [hbx] at hmx
  rw [hby] at hmy
  have hzm : z % 2 ^ i ≤ z := Nat.mod_le _ _
  try simp (decide := true) only [upd_hit, upd_miss]
  have hpz : ((2 ^ i : Nat) : Int) = 2 ^ i := by simp
  have fin : ∀ s : Int, (s = ((z % 2 ^ i : Nat) : Int) + (if z.testBit i then 2 ^ i else 0)) → i < 16 → KL (upd 0 (i64 op) (upd 1 (u16 (x : Int)) (upd 2 (u16 (y : Int)) (upd 6 (u16 0) (upd 7 (i64 s) (upd 8 (i64 ((i : Int) + 1)) (upd 9 (i64 (2 ^ i * 2)) E0))))))) w1 := by
    intro s hs hlt
    rw [show ((i : Int) + 1) = ((i + 1 : Nat) : Int) by omega, show (2 : Int) ^ i * 2 = 2 ^ (i + 1) by rw [Int.pow_succ], hs]
    have := next (by omega) () w1 rfl
    rw [hbz] at this
    split at this <;> simp_all
  by_cases bx : x.testBit i <;> by_cases bb : y.testBit i <;> simp only [bx, bb, if_true, if_false, Bool.false_eq_true] at hmx hmy htz <;> rcases hop with ⟨rfl, hzz⟩ | ⟨rfl, hzz⟩ | ⟨rfl, hzz⟩ <;> simp at htz <;> rw [htz] at fin <;> simp only [if_true, if_false, Bool.false_eq_true] at fin
  repeat' (with_reducible first
    | refine C_t ?_
    | refine C_f ?_
    | refine GS_t ?_
    | refine GS_f ?_
    | refine GS_t' ?_
    | refine GS_f' ?_
    | refine GS_u ?_
    | refine S_c99 (rcellN_spec (by omega) ?_)
    | refine S_eql_t (by omega) ?_
    | refine S_eql_f (by omega) ?_
    | refine S_gtr_t (by omega) ?_
    | refine S_gtr_f (by omega) ?_
    | refine S_lss (fun hc => ?_) (fun hc => ?_)
    | (apply S_R; first | exact R_move _ | exact R_toI64 Tryz.underlying41 Tryz.underlying3 (by omega) | exact R_quo64 (by omega) (by omega) | exact R_addi (by omega) | exact R_pick_t _ _ | exact R_pick_f _ _ | exact R_muli (by omega) | exact R_rem _ _ _ _ _ _ (by omega)))
  all_goals first
    | exact fin _ (by omega) (by omega)
    | (refine K_int ?_ k
       have e16 : i = 16 := by omega
       subst e16
       omega)
end
end Go.Proofs.YtebmnfmiphbgdaaGreatDoor
namespace Go.Proofs.YtebmnfmiphbgdaaGreatDoor
open Go.Sh
section
variable {w w0 : World} {Kp : KP} {K : K0} {B : Nat} {T : Store}
theorem sgn_or {x : Int} : (32768 ≤ x ∧ sgn x = x - 65536) ∨ (x < 32768 ∧ sgn x = x) := by unfold sgn; split <;> omega
theorem flag_c {p q : Prop} [Decidable p] [Decidable q] (h : p ↔ q) : flag (decide p) = flag (decide q) := by rw [decide_eq_decide.2 h]
theorem runary_spec {op x : Int} (hx : isC x) (k : K (.tuple #[u16 ((unary op x).getD 0), .bool (unary op x).isSome]) w) : Calls P 69 #[i64 op, u16 x] w (EndsS Kp K) := by
  have h1 := sgn_in hx
  have h4 := sgn_or (x := x)
  have hx' := hx
  unfold isC at hx'
  refine F69_calls ?_
  unfold F69
  repeat' (with_reducible first
    | refine C_t ?_
    | refine C_f ?_
    | refine S_c98 (rsigned_spec (by assumption) ?_)
    | refine S_c99 (rcellN_spec (by omega) ?_)
    | refine S_c100 (half_spec (by omega) ?_)
    | refine S_c101 (rflag_spec ?_)
    | (apply S_R; exact R_neg64 (by omega))
    | refine S_eql (fun hc => ?_) (fun hc => ?_)
    | refine S_lss (fun hc => ?_) (fun hc => ?_)
    | (apply S_R; first | exact R_toI64 Tryz.underlying41 Tryz.underlying3 (by omega) | exact R_addi (by omega) | exact R_subi (by omega) | exact R_muli (by omega)))
  all_goals first | refine num_none ?_ k | refine num_some ?_ k
  all_goals (unfold unary; repeat' (first | rw [if_pos (by omega)] | rw [if_neg (by omega)]))
  all_goals first | rfl | (congr 1; first | omega | (unfold flag; simp; omega) | (split <;> omega) | (split <;> simp_all <;> omega) | skip)
theorem S_min {ts : Array TypeId} {ty : TypeId} {cs : Array Bool} {a b : Int} {j : IntKind} (h1 : b < a → K (.int j b) w) (h2 : ¬ b < a → K (.int j a) w) : S P (vblt .min ts ty cs #[.int j a, .int j b]) w Kp K := by
  refine S_R R_min ?_
  split
  · exact h1 (by assumption)
  · exact h2 (by assumption)
theorem S_max {ts : Array TypeId} {ty : TypeId} {cs : Array Bool} {a b : Int} {j : IntKind} (h1 : a < b → K (.int j b) w) (h2 : ¬ a < b → K (.int j a) w) : S P (vblt .max ts ty cs #[.int j a, .int j b]) w Kp K := by
  refine S_R R_max ?_
  split
  · exact h1 (by assumption)
  · exact h2 (by assumption)
set_option maxHeartbeats 4000000 in
theorem rbinary_spec {op x y : Int} (hx : isC x) (hy : isC y) (k : K (.tuple #[u16 ((binary op x y).getD 0), .bool (binary op x y).isSome]) w) : Calls P 70 #[i64 op, u16 x, u16 y] w (EndsS Kp K) := by
  have h1 := sgn_in hx
  have h2 := sgn_in hy
  have h4 := sgn_or (x := x)
  have h5 := sgn_or (x := y)
  have hbits : ∀ {w : World} {K : K0}, op = 36 ∨ op = 37 ∨ op = 38 → K (u16 ((if op = 36 then x.toNat &&& y.toNat else if op = 37 then x.toNat ||| y.toNat else x.toNat ^^^ y.toNat : Nat) : Int)) w → Calls P 103 #[i64 op, u16 x, u16 y] w (EndsS Kp K) := by
    intro w K ho h
    have hx' := hx
    have hy' := hy
    unfold isC at hx' hy'
    have e1 : x = ((x.toNat : Nat) : Int) := by omega
    have e2 : y = ((y.toNat : Nat) : Int) := by omega
    rw [e1, e2]
    have b1 : x.toNat &&& y.toNat < 2 ^ 16 := Nat.and_lt_two_pow _ (by omega)
    have b2 : x.toNat ||| y.toNat < 2 ^ 16 := Nat.or_lt_two_pow (by omega) (by omega)
    have b3 : x.toNat ^^^ y.toNat < 2 ^ 16 := Nat.xor_lt_two_pow (by omega) (by omega)
    refine bits_spec (by omega) (by omega) ?_ ?_ h
    · split; · exact b1
      split; · exact b2
      exact b3
    · rcases ho with rfl | rfl | rfl <;> simp
  have hpow : ∀ {w : World} {K : K0}, y ≤ 15 → K (i64 (2 ^ y.toNat)) w → Calls P 104 #[i64 y] w (EndsS Kp K) := by
    intro w K hle h
    have e : y = ((y.toNat : Nat) : Int) := by unfold isC at hy; omega
    rw [e]
    exact power_spec (by omega) h
  have hx' := hx
  have hy' := hy
  unfold isC at hx' hy'
  have hm0 := Int.mul_nonneg hx'.1 hy'.1
  have hm1 : x * y ≤ 65535 * 65535 := Int.mul_le_mul (by omega) (by omega) hy'.1 (by omega)
  have hpp : y ≤ 15 → 1 ≤ (2 : Int) ^ y.toNat ∧ (2 : Int) ^ y.toNat ≤ 65536 ∧ 0 ≤ x * 2 ^ y.toNat ∧ x * 2 ^ y.toNat ≤ 65535 * 65536 ∧ x.tdiv (2 ^ y.toNat) = x / 2 ^ y.toNat ∧ 0 ≤ x / 2 ^ y.toNat ∧ x / 2 ^ y.toNat ≤ x := fun h => by
    have := pow_small y.toNat (by omega)
    exact ⟨this.1, this.2, Int.mul_nonneg hx'.1 (by omega), Int.mul_le_mul (by omega) this.2 (by omega) (by omega), Int.tdiv_eq_ediv_of_nonneg hx'.1, Int.ediv_nonneg hx'.1 (by omega), Int.ediv_le_self _ hx'.1⟩
  refine F70_calls ?_
  unfold F70 J
  repeat' (with_reducible first
    | refine C_t ?_
    | refine C_f ?_
    | refine S_c98 (rsigned_spec (by assumption) ?_)
    | refine S_c99 (rcellN_spec (by omega) ?_)
    | refine S_eql (fun hc => ?_) (fun hc => ?_)
    | (apply S_R; first | exact R_toI64 Tryz.underlying41 Tryz.underlying3 (by omega) | exact R_addi (by omega) | exact R_subi (by omega) | exact R_muli (by omega)))
  all_goals try simp (decide := true) only [upd_hit, upd_miss]
  repeat' (with_reducible first
    | refine C_t ?_
    | refine C_f ?_
    | refine S_min (fun _ => ?_) (fun _ => ?_)
    | refine S_max (fun _ => ?_) (fun _ => ?_)
    | refine S_c99 (rcellN_spec (by omega) ?_)
    | refine S_c101 (rflag_spec ?_)
    | refine S_c102 (rdivides_spec (by omega) (by assumption) (by assumption) (by omega) ?_)
    | refine S_c103 (hbits (by omega) ?_)
    | refine S_c104 (hpow (by omega) ?_)
    | refine S_eql_t (by omega) ?_
    | refine S_eql_f (by omega) ?_
    | refine S_eql (fun hc => ?_) (fun hc => ?_)
    | refine S_gtr (fun hc => ?_) (fun hc => ?_)
    | refine S_lss (fun hc => ?_) (fun hc => ?_)
    | refine S_neq (fun hc => ?_) (fun hc => ?_)
    | (apply S_R; first | exact R_toI64 Tryz.underlying41 Tryz.underlying3 (by omega) | exact R_muli (by omega) | exact R_quo64 (by omega) (by omega)))
  all_goals try simp (decide := true) only [upd_hit, upd_miss]
  skip
  all_goals try simp (decide := true) only [upd_hit, upd_miss]
  skip
  all_goals first | refine num_none ?_ k | refine num_some ?_ k | skip
  all_goals (unfold binary; repeat' (first | rw [if_pos (by omega)] | rw [if_neg (by omega)]))
  all_goals first | rfl | (congr 1; first | omega | (unfold divided; rw [if_pos (by assumption)]) | (unfold flag; simp; omega) | (repeat' split) | skip)
  all_goals try omega
end
end Go.Proofs.YtebmnfmiphbgdaaGreatDoor
namespace Go.Proofs.YtebmnfmiphbgdaaGreatDoor
open Go.Sh
section
variable {w w0 : World} {Kp : KP} {K : K0} {B : Nat} {T : Store}
theorem lit22 : ∀ w, (vbuildS 22 0 #[]).run P w = .ok (.value (sl w.heap.size 0 0 0)) (w.alloc (.cells #[] 41)) := fun w => by kernel_rfl
theorem lit23 : ∀ w, (vbuildS 23 0 #[]).run P w = .ok (.value (sl w.heap.size 0 0 0)) (w.alloc (.cells #[] 75)) := fun w => by kernel_rfl
theorem R_neq75 (a b c d : Int) : R P (vbin .neq 75 false false (.agg #[i64 a, u16 b]) (.agg #[i64 c, u16 d])) (.bool (!((a == c) && ((b == d) && true)))) := R_neqV (by kernel_rfl) (by kernel_rfl)
theorem take_snoc_iff {α : Type} {a b : List α} {i : Nat} {x y : α} (hx : a[i]? = some x) (hy : b[i]? = some y) (h : a.take i = b.take i) : a.take (i + 1) = b.take (i + 1) ↔ x = y := by
  rw [List.take_add_one, List.take_add_one, hx, hy, h]
  simp
theorem eq_of_take {α : Type} {a b : List α} {i : Nat} {x y : α} (hx : a[i]? = some x) (hy : b[i]? = some y) (hne : x ≠ y) : a ≠ b := by
  rintro rfl; rw [hx] at hy; exact hne (Option.some.inj hy)
theorem sameCells_spec {n m : Nat} {v u : Value} {xs ys : List Int} (hv : Sees w v n (xs.map u16)) (hu : Sees w u m (ys.map u16)) (hn : xs.length = n) (hm : ys.length = m) (hn' : n ≤ 100000) (hm' : m ≤ 100000)
    (k : ∀ w', Grow w w' → K (.bool (decide (xs = ys))) w') : Calls P 35 #[v, u] w (EndsS Kp K) := by
  obtain ⟨va, vc, rfl, hvc, -⟩ := hv.sees
  obtain ⟨ua, uc, rfl, huc, -⟩ := hu.sees
  refine F35_calls ?_
  unfold F35
  repeat' (with_reducible first
    | refine C_t ?_
    | refine C_f ?_
    | refine S_neq (fun hc => ?_) (fun hc => ?_)
    | (apply S_R; exact R_lenS Tryz.underlying22))
  · have : xs ≠ ys := by rintro rfl; omega
    have k := k w (Grow.refl _)
    rw [decide_eq_false this] at k; exact k
  have hnm : n = m := by omega
  subst hnm
  refine loop_count (fun i (_ : Unit) => upd 0 (.slice va n vc) (upd 1 (.slice ua n uc) (upd 4 (.bool false) (upd 5 (i64 (i : Int)) E0)))) 5 .i64 n (fun i _ w' => Grow w w' ∧ xs.take i = ys.take i) () (fun _ _ => rfl) rfl ⟨Grow.refl _, rfl⟩ ?_
  rintro i - w1 KL hi ⟨hg, heq⟩ next
  try simp (decide := true) only [upd_hit, upd_miss]
  refine S_R (R_lenS Tryz.underlying22) (S_lss (fun h => C_t ?_) (fun h => C_f ?_))
  · have h : i < n := by omega
    obtain ⟨x, hxi⟩ : ∃ x, xs[i]? = some x := ⟨_, List.getElem?_eq_getElem (by omega)⟩
    obtain ⟨y, hyi⟩ : ∃ y, ys[i]? = some y := ⟨_, List.getElem?_eq_getElem (by omega)⟩
    obtain ⟨vg, vo, vc', e1, -, hvx⟩ := (hv.grow hg).at (by rintro e; rw [List.map_eq_nil_iff] at e; subst e; simp at hxi)
    obtain ⟨ug, uo, uc', e2, -, hux⟩ := (hu.grow hg).at (by rintro e; rw [List.map_eq_nil_iff] at e; subst e; simp at hyi)
    simp only [Value.slice.injEq] at e1 e2
    obtain ⟨rfl, -, rfl⟩ := e1
    obtain ⟨rfl, -, rfl⟩ := e2
    have ex : ∀ w', w' = drewW w1 → w'.cell? ⟨vg, vo + (i : Int).toNat * 1, none⟩ = some (u16 x) := by
      rintro _ rfl
      rw [Int.toNat_natCast, Nat.mul_one]
      exact hvx i _ (by rw [List.getElem?_map, hxi]; rfl)
    have ey : ∀ w', w' = drewW w1 → w'.cell? ⟨ug, uo + (i : Int).toNat * 1, none⟩ = some (u16 y) := by
      rintro _ rfl
      rw [Int.toNat_natCast, Nat.mul_one]
      exact hux i _ (by rw [List.getElem?_map, hyi]; rfl)
    refine ⟨fun w' => w' = drewW w1, rfl, ?_⟩
    repeat' (with_reducible first
      | refine C_t ?_
      | refine C_f ?_
      | refine Fl_loadC pl41 ex ?_
      | refine Fl_loadC pl41 ey ?_
      | refine Fl_neq (fun hc => ?_) (fun hc => ?_)
      | (apply S_R; exact R_addi (by omega))
      | (apply Fl_R; exact R_ixA Tryz.underlying22 sz41 (by omega) (by omega)))
    · have k := k _ (hg.trans (Grow.drew w1))
      rw [decide_eq_false (eq_of_take hxi hyi hc)] at k; exact k
    · exact next h () _ ⟨hg.trans (Grow.drew w1), (take_snoc_iff hxi hyi heq).2 hc⟩
  · have : i = n := by omega
    subst this
    rw [List.take_of_length_le (by omega), List.take_of_length_le (by omega)] at heq
    have k := k _ hg
    rw [decide_eq_true heq] at k; exact k
theorem enc_nil {l : List RC2} (h : enc l = []) : l = [] := by
  cases l with
  | nil => rfl
  | cons c l => cases h
theorem sameReturn_spec {n m : Nat} {v u : Value} {xs ys : List RC2} (hv : Sees w v n (enc xs)) (hu : Sees w u m (enc ys)) (hn : xs.length = n) (hm : ys.length = m) (hn' : n ≤ 100000) (hm' : m ≤ 100000)
    (k : ∀ w', Grow w w' → K (.bool (decide (xs = ys))) w') : Calls P 46 #[v, u] w (EndsS Kp K) := by
  obtain ⟨va, vc, rfl, hvc, -⟩ := hv.sees
  obtain ⟨ua, uc, rfl, huc, -⟩ := hu.sees
  refine F46_calls ?_
  unfold F46
  repeat' (with_reducible first
    | refine C_t ?_
    | refine C_f ?_
    | refine S_neq (fun hc => ?_) (fun hc => ?_)
    | (apply S_R; exact R_lenS Tryz.underlying23))
  · have : xs ≠ ys := by rintro rfl; omega
    have k := k w (Grow.refl _)
    rw [decide_eq_false this] at k; exact k
  have hnm : n = m := by omega
  subst hnm
  refine loop_count (fun i (_ : Unit) => upd 0 (.slice va n vc) (upd 1 (.slice ua n uc) (upd 4 (.bool false) (upd 5 (i64 (i : Int)) E0)))) 5 .i64 n (fun i _ w' => Grow w w' ∧ xs.take i = ys.take i) () (fun _ _ => rfl) rfl ⟨Grow.refl _, rfl⟩ ?_
  rintro i - w1 KL hi ⟨hg, heq⟩ next
  try simp (decide := true) only [upd_hit, upd_miss]
  refine S_R (R_lenS Tryz.underlying23) (S_lss (fun h => C_t ?_) (fun h => C_f ?_))
  · have h : i < n := by omega
    obtain ⟨x, hxi⟩ : ∃ x, xs[i]? = some x := ⟨_, List.getElem?_eq_getElem (by omega)⟩
    obtain ⟨y, hyi⟩ : ∃ y, ys[i]? = some y := ⟨_, List.getElem?_eq_getElem (by omega)⟩
    obtain ⟨vg, vo, vc', e1, -, hvx⟩ := (hv.grow hg).at (by rintro e; have e := enc_nil e; subst e; simp at hxi)
    obtain ⟨ug, uo, uc', e2, -, hux⟩ := (hu.grow hg).at (by rintro e; have e := enc_nil e; subst e; simp at hyi)
    simp only [Value.slice.injEq] at e1 e2
    obtain ⟨rfl, -, rfl⟩ := e1
    obtain ⟨rfl, -, rfl⟩ := e2
    have row : ∀ {g o : Nat} {zs : List RC2} {z : RC2}, zs[i]? = some z → (∀ j u, (enc zs)[j]? = some u → w1.cell? ⟨g, o + j, none⟩ = some u) → ∀ w', w' = drewW w1 → ∀ j u, [i64 z.1, u16 z.2][j]? = some u → w'.cell? ⟨g, o + (i : Int).toNat * 2 + j, none⟩ = some u := by
      rintro g o zs z hz hc _ rfl j u hj
      obtain ⟨e1, e2⟩ := enc_get zs i z hz
      rw [Int.toNat_natCast]
      match j, hj with
      | 0, hj => simp at hj; subst hj; exact hc _ _ e1
      | 1, hj => simp at hj; subst hj; exact hc _ _ e2
    have ex := row hxi hvx
    have ey := row hyi hux
    refine ⟨fun w' => w' = drewW w1, rfl, ?_⟩
    repeat' (with_reducible first
      | refine Fl_loadRowC rw75 (by with_unfolding_all exact sz75) ex ?_
      | refine Fl_loadRowC rw75 (by with_unfolding_all exact sz75) ey ?_
      | (apply Fl_R; exact R_ixA Tryz.underlying23 sz75 (by omega) (by omega)))
    refine Fl_R (R_neq75 _ _ _ _) ?_
    by_cases hxy : x = y
    · subst hxy
      rw [show (!((x.1 == x.1) && ((x.2 == x.2) && true))) = false by simp]
      repeat' (with_reducible first
        | refine C_f ?_
        | (apply S_R; exact R_addi (by omega)))
      exact next h () _ ⟨hg.trans (Grow.drew w1), (take_snoc_iff hxi hyi heq).2 rfl⟩
    · rw [show (!((x.1 == y.1) && ((x.2 == y.2) && true))) = true by
        rw [Bool.not_eq_true', Bool.and_true, Bool.and_eq_false_iff]
        by_cases h1 : x.1 = y.1
        · right; simp; intro h2; exact hxy (Prod.ext h1 h2)
        · left; simpa using h1]
      repeat' (with_reducible refine C_t ?_)
      have k := k _ (hg.trans (Grow.drew w1))
      rw [decide_eq_false (eq_of_take hxi hyi hxy)] at k; exact k
  · have : i = n := by omega
    subst this
    rw [List.take_of_length_le (by omega), List.take_of_length_le (by omega)] at heq
    have k := k _ hg
    rw [decide_eq_true heq] at k; exact k
theorem own_row_one {e sz n : Nat} {v : Value} {xs : List Value} (h : w.ownsRow 0 e sz v n xs) : v.oneCell' = true := by
  rcases h.2 with ⟨rfl, rfl⟩ | ⟨g, cap, cur, rfl, _⟩ <;> rfl
theorem rpush_spec {d t n m : Nat} {xs ys : List Value} {v : Value} (h : Rep B w0 T w) (hT : T d = some (pile 41 1 t xs n)) (hn : n ≤ 1000) (hx : xs.all (·.oneCell') = true) (hs : Sees w v m ys) (hy : ys.length = m * 1) (hm : m ≤ 100000)
    (h1 : ys.all (·.oneCell') = true) (k1 : n + m ≤ 256 → ∀ w', Rep B w0 (upT T d (pile 41 1 t (xs ++ ys) (n + m))) w' → K (i64 0) w') (k2 : ¬ n + m ≤ 256 → K (i64 2) w) :
    Calls P 27 #[ptr d 0, v] w (EndsS Kp K) := by
  obtain ⟨sv, hd, hown, hne, hlt, hupd⟩ := h.pile hT
  have hsees := Sees.own hown
  obtain ⟨sa, sc, rfl, hsc⟩ := own_slice hown
  obtain ⟨va, vc, rfl, hvc⟩ := hs.size
  refine F27_calls ?_
  unfold F27
  repeat' (with_reducible first
    | refine C_t ?_
    | refine C_f ?_
    | refine S_gtr (fun hc => ?_) (fun hc => ?_)
    | (apply S_R; first | exact R_nil _ | exact R_f85_0 _ _ | exact R_lenS Tryz.underlying22 | exact R_addi (by omega))
    | refine S_loadB pl22 (by first | assumption | exact heap_old (by assumption) (by assumption)) (by first | assumption | (with_unfolding_all exact rfl)) ?_)
  · exact k2 (by omega)
  refine S_lit0 (sz := 1) lit22 (fun v1 w1 hN1 => ?_)
  have hd1 := (hN1.grow.block d hlt).trans hd
  repeat' (with_reducible first
    | (apply S_R; first | exact R_nil _ | exact R_f85_0 _ _)
    | refine S_loadB pl22 (by first | assumption | exact heap_old (by assumption) (by assumption)) (by first | assumption | (with_unfolding_all exact rfl)) ?_)
  refine S_appN Tryz.underlying22 in41 rfl rfl (by with_unfolding_all decide) hN1 (hsees.grow hN1.grow) hown.1 hx (by unfold maxLen; omega) (by show (0 + n) * 2 ≤ _; omega) (fun v2 w2 hN2 _ => ?_)
  refine S_appN Tryz.underlying22 in41 rfl rfl (by with_unfolding_all decide) hN2 (hs.grow hN2.grow) hy h1 (by unfold maxLen; omega) (by show (0 + n + m) * 2 ≤ _; omega) (fun v3 w3 hN3 _ => ?_)
  rw [List.nil_append, Nat.zero_add] at hN3
  obtain ⟨cs, hd3, hcs, hrep⟩ := h.pileNew hT hN3
  repeat' (with_reducible (apply S_R; first | exact R_nil _ | exact R_f85_0 _ _))
  refine S_storeB sz22 hd3 (by omega) (own_row_one hN3.own) ?_
  rw [show cs.setIfInBounds 0 v3 = #[v3] by obtain ⟨l⟩ := cs; match l, hcs with | [x], _ => rfl]
  exact k1 (by omega) _ hrep
theorem rpushR_spec {d t n m : Nat} {xs ys : List Value} {v : Value} (h : Rep B w0 T w) (hT : T d = some (pile 75 2 t xs n)) (hn : n ≤ 1000) (hx : xs.all (·.oneCell') = true) (hs : Sees w v m ys) (hy : ys.length = m * 2) (hm : m ≤ 100000)
    (h1 : ys.all (·.oneCell') = true) (k1 : n + m ≤ 128 → ∀ w', Rep B w0 (upT T d (pile 75 2 t (xs ++ ys) (n + m))) w' → K (i64 0) w') (k2 : ¬ n + m ≤ 128 → K (i64 4) w) :
    Calls P 29 #[ptr d 0, v] w (EndsS Kp K) := by
  obtain ⟨sv, hd, hown, hne, hlt, hupd⟩ := h.pile hT
  have hsees := Sees.own hown
  obtain ⟨sa, sc, rfl, hsc⟩ := own_slice hown
  obtain ⟨va, vc, rfl, hvc⟩ := hs.size
  refine F29_calls ?_
  unfold F29
  repeat' (with_reducible first
    | refine C_t ?_
    | refine C_f ?_
    | refine S_gtr (fun hc => ?_) (fun hc => ?_)
    | (apply S_R; first | exact R_nil _ | exact R_f87_0 _ _ | exact R_lenS Tryz.underlying23 | exact R_addi (by omega))
    | refine S_loadB pl23 (by first | assumption | exact heap_old (by assumption) (by assumption)) (by first | assumption | (with_unfolding_all exact rfl)) ?_)
  · exact k2 (by omega)
  refine S_lit0 (sz := 2) lit23 (fun v1 w1 hN1 => ?_)
  have hd1 := (hN1.grow.block d hlt).trans hd
  repeat' (with_reducible first
    | (apply S_R; first | exact R_nil _ | exact R_f87_0 _ _)
    | refine S_loadB pl23 (by first | assumption | exact heap_old (by assumption) (by assumption)) (by first | assumption | (with_unfolding_all exact rfl)) ?_)
  refine S_appN Tryz.underlying23 in75 rfl rfl (by with_unfolding_all decide) hN1 (hsees.grow hN1.grow) hown.1 hx (by unfold maxLen; omega) (by show (0 + n) * 16 ≤ _; omega) (fun v2 w2 hN2 _ => ?_)
  refine S_appN Tryz.underlying23 in75 rfl rfl (by with_unfolding_all decide) hN2 (hs.grow hN2.grow) hy h1 (by unfold maxLen; omega) (by show (0 + n + m) * 16 ≤ _; omega) (fun v3 w3 hN3 _ => ?_)
  rw [List.nil_append, Nat.zero_add] at hN3
  obtain ⟨cs, hd3, hcs, hrep⟩ := h.pileNew hT hN3
  repeat' (with_reducible (apply S_R; first | exact R_nil _ | exact R_f87_0 _ _))
  refine S_storeB sz23 hd3 (by omega) (own_row_one hN3.own) ?_
  rw [show cs.setIfInBounds 0 v3 = #[v3] by obtain ⟨l⟩ := cs; match l, hcs with | [x], _ => rfl]
  exact k1 (by omega) _ hrep
theorem rneed_spec {d t n : Nat} {xs : List Value} {i o : Int} (h : Rep B w0 T w) (hT : T d = some (pile 41 1 t xs n)) (hn : n ≤ 1000) (hi : 0 ≤ i ∧ i ≤ 1000) (ho : 0 ≤ o ∧ o ≤ 1000)
    (k : ∀ f : Int, f = (if (n : Int) < i then 1 else if o > 256 - (n - i) then 2 else 0) → K (i64 f) w) : Calls P 87 #[ptr d 0, i64 i, i64 o] w (EndsS Kp K) := by
  obtain ⟨sv, hd, hown, hne, hlt, hupd⟩ := h.pile hT
  obtain ⟨sa, sc, rfl, hsc⟩ := own_slice hown
  refine F87_calls ?_
  unfold F87
  refine S_R R_max ?_
  refine S_R R_max ?_
  rw [show (if (0 : Int) > i then 0 else i) = i by split <;> omega, show (if (0 : Int) > o then 0 else o) = o by split <;> omega]
  repeat' (with_reducible first
    | refine C_t ?_
    | refine C_f ?_
    | refine GS_t' ?_
    | refine GS_f' ?_
    | refine S_gtr (fun hc => ?_) (fun hc => ?_)
    | refine S_lss (fun hc => ?_) (fun hc => ?_)
    | (apply S_R; first | exact R_move _ | exact R_nil _ | exact R_f85_0 _ _ | exact R_lenS Tryz.underlying22 | exact R_subi (by omega) | exact R_addi (by omega) | exact R_pick_t _ _ | exact R_pick_f _ _)
    | refine S_loadB pl22 (by first | assumption | exact heap_old (by assumption) (by assumption)) (by first | assumption | (with_unfolding_all exact rfl)) ?_)
  · exact k _ (by rw [if_pos (by omega)])
  · exact k _ (by rw [if_neg (by omega), if_pos (by omega)])
  · exact k _ (by rw [if_neg (by omega), if_pos (by omega)])
  · exact k _ (by rw [if_neg (by omega), if_neg (by omega)])
theorem rat_spec {d t : Nat} {xs : List RC2} {j kind : Int} (h : Rep B w0 T w) (hT : T d = some (rets t xs)) (hn : xs.length ≤ 1000) (hj : 0 ≤ j ∧ j ≤ 1000)
    (k : ∀ w', Rep B w0 T w' → K (.tuple #[u16 (retAt xs j kind).1, i64 (retAt xs j kind).2]) w') : Calls P 117 #[ptr d 0, i64 j, i64 kind] w (EndsS Kp K) := by
  obtain ⟨sv, hd, hown, hne, hlt, hupd⟩ := h.pile hT
  obtain ⟨sa, sc, rfl, hsc⟩ := own_slice hown
  refine F117_calls ?_
  unfold F117
  by_cases hr : (xs.length : Int) ≤ j
  · have e : retAt xs j kind = (0, 3) := by unfold retAt; rw [if_pos (.inr hr)]
    rw [e] at k
    repeat' (with_reducible first
      | refine C_t ?_
      | refine GS_f' ?_
      | refine S_geq_t (by omega) ?_
      | refine S_lss_f (by omega) ?_
      | (apply S_R; first | exact R_move _ | exact R_nil _ | exact R_f87_0 _ _ | exact R_lenS Tryz.underlying23 | exact R_pick_f _ _)
      | refine S_loadB pl23 (by first | assumption | exact heap_old (by assumption) (by assumption)) (by first | assumption | (with_unfolding_all exact rfl)) ?_)
    exact k _ h
  · obtain ⟨g, rfl, hcell⟩ := own_cell hown (by omega)
    obtain ⟨c, hc⟩ : ∃ c, xs[xs.length - 1 - j.toNat]? = some c := ⟨_, List.getElem?_eq_getElem (by omega)⟩
    obtain ⟨e1, e2⟩ := enc_get xs _ c hc
    have hc1 := hcell _ _ e1
    have hc2 := hcell _ _ e2
    have hg := h.grow (Grow.drew w)
    have ea : 0 + ((xs.length : Int) - 1 - j).toNat * 2 = (xs.length - 1 - j.toNat) * 2 := by omega
    have er : ∀ w', w' = drewW w ∨ w' = (drewW w).alloc (.cells #[i64 0, u16 0] 75) → w'.heap[d]? = some (.cells #[sl g 0 xs.length sc] t (0, 0)) ∧ ∀ j' u, [i64 c.1, u16 c.2][j']? = some u → w'.cell? ⟨g, 0 + ((xs.length : Int) - 1 - j).toNat * 2 + j', none⟩ = some u := by
      have gr : ∀ w', w' = drewW w ∨ w' = (drewW w).alloc (.cells #[i64 0, u16 0] 75) → Grow w w' := by
        rintro w' (rfl | rfl)
        · exact Grow.drew w
        · exact (Grow.drew w).trans (Grow.alloc _ _)
      intro w' hw'
      refine ⟨((gr w' hw').block d hlt).trans hd, fun j' u hj' => (gr w' hw').cell ?_⟩
      rw [ea]
      match j', hj' with
      | 0, hj' => simp at hj'; subst hj'; exact hc1
      | 1, hj' => simp at hj'; subst hj'; exact hc2
    repeat' (with_reducible first
      | refine C_f ?_
      | refine GS_f' ?_
      | refine S_geq_f (by omega) ?_
      | refine S_lss_f (by omega) ?_
      | (apply S_R; first | exact R_move _ | exact R_nil _ | exact R_f87_0 _ _ | exact R_lenS Tryz.underlying23 | exact R_pick_f _ _)
      | refine S_loadB pl23 (by first | assumption | exact heap_old (by assumption) (by assumption)) (by first | assumption | (with_unfolding_all exact rfl)) ?_)
    refine ⟨fun w' => w' = drewW w ∨ w' = (drewW w).alloc (.cells #[i64 0, u16 0] 75), .inl rfl, ?_⟩
    repeat' (with_reducible first
      | refine Fl_loadB pl23 (fun w hw => (er w hw).1) (by with_unfolding_all exact rfl) ?_
      | refine Fl_loadRowC rw75 (by with_unfolding_all exact sz75) (fun w hw => (er w hw).2) ?_
      | (apply Fl_R; first | exact R_nil _ | exact R_f87_0 _ _ | exact R_lenS Tryz.underlying23 | exact R_subi (by omega) | exact R_ixA Tryz.underlying23 sz75 (by omega) (by omega))
      | refine S_alloc zr75 ?_)
    refine ⟨.inr rfl, ?_⟩
    refine S_storeRow sz75 (heap_alloc_new _ _) rfl rfl ?_
    rw [show (Value.agg #[Value.int IntKind.i64 0, Value.int IntKind.u16 0]).cells = #[i64 0, u16 0] from rfl, setRow_alloc_new]
    have h2 := hg.newRaw #[i64 c.1, u16 c.2] 75
    have hb := h2.raw (upT_same ..)
    by_cases hk : c.1 = kind
    · have e : retAt xs j kind = (c.2, 0) := by unfold retAt; rw [if_neg (by omega), hc]; simp [hk]
      rw [e] at k
      repeat' (with_reducible first
        | refine C_f ?_
        | refine S_neq_f (by omega) ?_
        | (apply S_R; first | exact R_f75_0 _ _ | exact R_f75_1 _ _)
        | refine S_loadB pl3 (by first | assumption | exact heap_old (by assumption) (by assumption)) (by first | assumption | (with_unfolding_all exact rfl)) ?_
        | refine S_loadB pl41 (by first | assumption | exact heap_old (by assumption) (by assumption)) (by first | assumption | (with_unfolding_all exact rfl)) ?_)
      exact k _ (hg.grow (Grow.alloc _ _))
    · have e : retAt xs j kind = (0, 5) := by unfold retAt; rw [if_neg (by omega), hc]; simp [hk]
      rw [e] at k
      repeat' (with_reducible first
        | refine C_t ?_
        | refine S_neq_t (by omega) ?_
        | (apply S_R; exact R_f75_0 _ _)
        | refine S_loadB pl3 (by first | assumption | exact heap_old (by assumption) (by assumption)) (by first | assumption | (with_unfolding_all exact rfl)) ?_)
      exact k _ (hg.grow (Grow.alloc _ _))
theorem rpopR_spec {d t : Nat} {xs : List RC2} {kind : Int} (h : Rep B w0 T w) (hT : T d = some (rets t xs)) (hn : xs.length ≤ 1000)
    (k : ∀ w', Rep B w0 (upT T d (rets t (if (retAt xs 0 kind).2 = 0 then xs.dropLast else xs))) w' → K (.tuple #[u16 (retAt xs 0 kind).1, i64 (retAt xs 0 kind).2]) w') : Calls P 92 #[ptr d 0, i64 kind] w (EndsS Kp K) := by
  refine F92_calls ?_
  unfold F92 J
  refine S_c117 (rat_spec h hT hn (by omega) (fun w1 h1 => ?_))
  repeat' (with_reducible first
    | refine C_t ?_
    | refine C_f ?_
    | refine S_eql (fun hc => ?_) (fun hc => ?_)
    | (apply S_R; first | exact R_ext2_0 | exact R_ext2_1))
  all_goals try simp (decide := true) only [upd_hit, upd_miss]
  · rw [hc] at k ⊢
    rw [if_pos rfl] at k
    have hne : xs ≠ [] := by
      intro e; subst e; revert hc; simp [retAt]
    have hlen : 0 < xs.length := List.length_pos_iff.2 hne
    obtain ⟨sv, hd, hown, hnb, hlt, hupd⟩ := (h1.grow (Grow.drew w1)).pile hT
    obtain ⟨sa, sc, rfl, hsc⟩ := own_slice hown
    have hless := own_less hown (m := xs.length - 1) (by omega)
    have etk : (enc xs).take ((xs.length - 1) * 2) = enc xs.dropLast := by
      have := enc_take xs.dropLast [xs.getLast hne]
      rw [List.dropLast_concat_getLast, List.length_dropLast] at this; exact this
    rw [etk] at hless
    have h2 := hupd _ (drewW w1) _ _ hless (grownBy_refl _ _) (.inl (by cases sa <;> rfl))
    rw [← List.length_dropLast] at h2
    have er : ∀ w', w' = drewW w1 → w'.heap[d]? = some (.cells #[.slice sa xs.length sc] t (0, 0)) := by rintro _ rfl; exact hd
    refine ⟨fun w' => w' = drewW w1, rfl, ?_⟩
    repeat' (with_reducible first
      | refine Fl_loadB pl23 er (by with_unfolding_all exact rfl) ?_
      | (apply Fl_R; first | exact R_nil _ | exact R_f87_0 _ _ | exact R_lenS Tryz.underlying23 | exact R_subi (by omega) | exact R_sliceTo Tryz.underlying23 sz75 (by omega) (by omega))
      | refine S_storeB sz23 (by first | assumption | exact heap_old (by assumption) (by assumption)) (by first | assumption | with_unfolding_all exact Nat.le_of_ble_eq_true rfl) (by first | assumption | (with_unfolding_all exact rfl)) ?_)
    rw [show ((xs.length : Int) - 1).toNat = xs.dropLast.length by rw [List.length_dropLast]; omega]
    exact k _ h2
  · rw [if_neg hc, upT_eq hT] at k
    exact k w1 h1
end
end Go.Proofs.YtebmnfmiphbgdaaGreatDoor
namespace Go.Proofs.YtebmnfmiphbgdaaGreatDoor
open Go.Sh
section
variable {w w0 : World} {Kp : KP} {K : K0} {B : Nat} {T : Store} {k d r m td tr : Nat} {s : PS}
def upS (T : Store) (td tr d r m : Nat) (s : PS) : Store := upT (upT (upT T d (datas td s.ds)) r (rets tr s.rs)) m (memory s.mem)
structure Dk (T : Store) (k d r m : Nat) : Prop where
  desk : T k = some (raw #[ptr d 0, ptr r 0, ptr m 0] 99)
  kd : k ≠ d
  kr : k ≠ r
  km : k ≠ m
  dr : d ≠ r
  dm : d ≠ m
  rm : r ≠ m
theorem upS_other {j : Nat} (hd : j ≠ d) (hr : j ≠ r) (hm : j ≠ m) : upS T td tr d r m s j = T j := by unfold upS; rw [upT_ne hm, upT_ne hr, upT_ne hd]
theorem Dk.lD (D : Dk T k d r m) : upS T td tr d r m s d = some (datas td s.ds) := by unfold upS; rw [upT_ne D.dm, upT_ne D.dr]; exact upT_same ..
theorem Dk.lR (D : Dk T k d r m) : upS T td tr d r m s r = some (rets tr s.rs) := by unfold upS; rw [upT_ne D.rm]; exact upT_same ..
theorem Dk.lM (D : Dk T k d r m) : upS T td tr d r m s m = some (memory s.mem) := by unfold upS; exact upT_same ..
theorem Dk.lK (D : Dk T k d r m) : upS T td tr d r m s k = some (raw #[ptr d 0, ptr r 0, ptr m 0] 99) := by rw [upS_other D.kd D.kr D.km]; exact D.desk
theorem Dk.setD (D : Dk T k d r m) (ds : List Int) : upT (upS T td tr d r m s) d (datas td ds) = upS T td tr d r m { s with ds := ds } := by
  unfold upS; rw [upT_comm _ D.dm.symm, upT_comm _ D.dr.symm, upT_upT]
theorem Dk.setR (D : Dk T k d r m) (rs : List RC2) : upT (upS T td tr d r m s) r (rets tr rs) = upS T td tr d r m { s with rs := rs } := by
  unfold upS; rw [upT_comm _ D.rm.symm, upT_upT]
theorem Dk.setM (D : Dk T k d r m) (M : Mem) : upT (upS T td tr d r m s) m (memory M) = upS T td tr d r m { s with mem := M } := by
  unfold upS; rw [upT_upT]
theorem Dk.cells (D : Dk T k d r m) (h : Rep B w0 (upS T td tr d r m s) w) : w.heap[k]? = some (.cells #[ptr d 0, ptr r 0, ptr m 0] 99 (0, 0)) := h.raw D.lK
theorem dk_pop {pre : List Int} {x : Int} (D : Dk T k d r m) (h : Rep B w0 (upS T td tr d r m s) w) (hs : s.ds = pre ++ [x]) (hn : s.ds.length ≤ 256)
    (K1 : ∀ w', Rep B w0 (upS T td tr d r m { s with ds := pre }) w' → K (u16 x) w') : Calls P 123 #[ptr d 0] w (EndsS Kp K) := by
  have hT := D.lD (td := td) (tr := tr) (s := s) (T := T)
  unfold datas at hT
  rw [hs, List.map_append, List.length_append] at hT
  rw [hs, List.length_append] at hn
  refine pop_spec h hT (by simp at hn; omega) (fun w' h' => K1 w' ?_)
  have := D.setD (td := td) (tr := tr) (s := s) pre
  unfold datas at this
  rw [← this]; exact h'
theorem S_bs1 {x : Int} (K1 : ∀ v w', New w w' 41 1 1 [u16 x] v → K v w') : S P (vbuildS 22 1 #[(0, u16 x)]) w Kp K := by
  have hrun : (vbuildS 22 1 #[(0, u16 x)]).run P w = .ok (.value (sl w.heap.size 0 1 1)) (w.alloc (.cells #[u16 x] 41)) := by kernel_rfl
  exact S_run hrun (K1 _ _ (New.block (xs := [u16 x]) (by simp) (by unfold maxLen; omega)))
theorem dk_push1 {x : Int} {v : Value} (D : Dk T k d r m) (h : Rep B w0 (upS T td tr d r m s) w) (hv : Sees w v 1 [u16 x]) (hn : s.ds.length < 256)
    (K1 : ∀ w', Rep B w0 (upS T td tr d r m { s with ds := s.ds ++ [x] }) w' → K (i64 0) w') : Calls P 26 #[ptr d 0, v] w (EndsS Kp K) := by
  obtain ⟨g, o, c, rfl, hc, hcell⟩ := hv.at (by simp)
  refine push_spec h D.lD (by omega) (ys := [u16 x]) rfl (by omega) (fun j u hj => ?_) (by simp [Value.oneCell']) (fun _ w' h' => K1 w' ?_) (fun h' => ?_)
  · rw [Addr.add_mid]; exact hcell j u hj
  · rw [← D.setD]; unfold datas; rw [List.map_append, List.length_append]; exact h'
  · simp at h'; omega
/-- what a function value keeps -/
structure Cap (T : Store) (c d r m : Nat) (cs : Array Value) (t : Nat) : Prop where
  at_ : T c = some (raw cs t)
  cd : c ≠ d
  cr : c ≠ r
  cm : c ≠ m
theorem Cap.cells {c t : Nat} {cs : Array Value} (C : Cap T c d r m cs t) (h : Rep B w0 (upS T td tr d r m s) w) : w.heap[c]? = some (.cells cs t (0, 0)) := h.raw (by rw [upS_other C.cd C.cr C.cm]; exact C.at_)
theorem unary_isC {op x z : Int} (hx : isC x) (h : unary op x = some z) : isC z := by
  unfold isC at hx ⊢
  have := sgn_in hx
  unfold unary flag at h
  repeat' split at h
  all_goals (first | (cases h; done) | (simp only [Option.some.injEq] at h; omega))
theorem one_spec {c : Nat} {op x z : Int} {pre : List Int} (D : Dk T k d r m) (C : Cap T c d r m #[i64 op] 3) (h : Rep B w0 (upS T td tr d r m s) w) (hs : s.ds = pre ++ [x]) (hn : s.ds.length ≤ 256) (hx : isC x)
    (hz : unary op x = some z) (K1 : ∀ w', Rep B w0 (upS T td tr d r m { s with ds := pre ++ [z] }) w' → K (.tuple #[]) w') : Calls P 122 #[ptr k 0, ptr c 0] w (EndsS Kp K) := by
  refine F122_calls ?_
  unfold F122
  have hg := h.grow (Grow.drew w)
  refine ⟨fun w' => w'.heap[k]? = some (.cells #[ptr d 0, ptr r 0, ptr m 0] 99 (0, 0)) ∧ w'.heap[c]? = some (.cells #[i64 op] 3 (0, 0)), ⟨D.cells hg, C.cells hg⟩, ?_⟩
  repeat' (with_reducible first
    | (apply Fl_R; first | exact R_nil _ | exact R_f99_0 _ _)
    | refine Fl_loadB pl3 (fun w hw => (by first | assumption | exact hw | exact hw.1 | exact hw.2 | exact hw.2.1 | exact hw.2.2)) (by first | assumption | (with_unfolding_all exact rfl)) ?_
    | refine Fl_loadB pl32 (fun w hw => (by first | assumption | exact hw | exact hw.1 | exact hw.2 | exact hw.2.1 | exact hw.2.2)) (by first | assumption | (with_unfolding_all exact rfl)) ?_)
  refine S_c123 (dk_pop D hg hs hn (fun w1 h1 => ⟨⟨D.cells h1, C.cells h1⟩, ?_⟩))
  refine S_c106 (unary_spec hx ⟨⟨D.cells h1, C.cells h1⟩, ?_⟩)
  rw [hz]
  have hk := D.cells h1
  repeat' (with_reducible first
    | (apply S_R; first | exact R_nil _ | exact R_f99_0 _ _)
    | (apply Fl_R; first | exact R_ext2_0 | exact R_ext2_1)
    | refine S_loadB pl32 (by first | assumption | exact heap_old (by assumption) (by assumption)) (by first | assumption | (with_unfolding_all exact rfl)) ?_)
  refine S_bs1 (fun v w2 hN => ?_)
  refine S_c26 (dk_push1 D (h1.grow hN.grow) hN.sees (by rw [hs] at hn; simp at hn ⊢; omega) (fun w3 h3 => ?_))
  exact K1 w3 h3
theorem two_spec {c : Nat} {op x y z : Int} {pre : List Int} (D : Dk T k d r m) (C : Cap T c d r m #[i64 op] 3) (h : Rep B w0 (upS T td tr d r m s) w) (hs : s.ds = pre ++ [x, y]) (hn : s.ds.length ≤ 256) (hx : isC x) (hy : isC y)
    (hz : binary op x y = some z) (K1 : ∀ w', Rep B w0 (upS T td tr d r m { s with ds := pre ++ [z] }) w' → K (.tuple #[]) w') : Calls P 126 #[ptr k 0, ptr c 0] w (EndsS Kp K) := by
  refine F126_calls ?_
  unfold F126
  have hk := D.cells h
  have hs' : s.ds = (pre ++ [x]) ++ [y] := by rw [hs]; simp
  have hn' : pre.length + 2 ≤ 256 := by rw [hs] at hn; simpa using hn
  repeat' (with_reducible first
    | (apply S_R; first | exact R_nil _ | exact R_f99_0 _ _)
    | refine S_loadB pl32 (by first | assumption | exact heap_old (by assumption) (by assumption)) (by first | assumption | (with_unfolding_all exact rfl)) ?_)
  refine S_c123 (dk_pop D h hs' hn (fun w1 h1 => ?_))
  have hg := h1.grow (Grow.drew w1)
  refine ⟨fun w' => w'.heap[k]? = some (.cells #[ptr d 0, ptr r 0, ptr m 0] 99 (0, 0)) ∧ w'.heap[c]? = some (.cells #[i64 op] 3 (0, 0)), ⟨D.cells hg, C.cells hg⟩, ?_⟩
  repeat' (with_reducible first
    | (apply Fl_R; first | exact R_nil _ | exact R_f99_0 _ _)
    | refine Fl_loadB pl32 (fun w hw => (by first | assumption | exact hw | exact hw.1 | exact hw.2 | exact hw.2.1 | exact hw.2.2)) (by first | assumption | (with_unfolding_all exact rfl)) ?_
    | refine Fl_loadB pl3 (fun w hw => (by first | assumption | exact hw | exact hw.1 | exact hw.2 | exact hw.2.1 | exact hw.2.2)) (by first | assumption | (with_unfolding_all exact rfl)) ?_)
  refine S_c123 (dk_pop D hg rfl (by simp; omega) (fun w2 h2 => ⟨⟨D.cells h2, C.cells h2⟩, ?_⟩))
  refine S_c108 (binary_spec hx hy ⟨⟨D.cells h2, C.cells h2⟩, ?_⟩)
  rw [hz]
  have hk2 := D.cells h2
  repeat' (with_reducible first
    | (apply S_R; first | exact R_nil _ | exact R_f99_0 _ _)
    | (apply Fl_R; first | exact R_ext2_0 | exact R_ext2_1)
    | refine S_loadB pl32 (by first | assumption | exact heap_old (by assumption) (by assumption)) (by first | assumption | (with_unfolding_all exact rfl)) ?_)
  refine S_bs1 (fun v w3 hN => ?_)
  refine S_c26 (dk_push1 D (h2.grow hN.grow) hN.sees (by show pre.length < 256; omega) (fun w4 h4 => ?_))
  exact K1 w4 h4
end
end Go.Proofs.YtebmnfmiphbgdaaGreatDoor
namespace Go.Proofs.YtebmnfmiphbgdaaGreatDoor
open Go.Sh
section
variable {w w0 : World} {Kp : KP} {K : K0} {B : Nat} {T : Store} {k d r m td tr : Nat} {s : PS}
theorem fresh_ne {b : Nat} (D : Dk T k d r m) (hb : upS T td tr d r m s b = none) : b ≠ d ∧ b ≠ r ∧ b ≠ m ∧ b ≠ k ∧ T b = none := by
  have h1 : b ≠ d := fun e => by rw [e, D.lD] at hb; cases hb
  have h2 : b ≠ r := fun e => by rw [e, D.lR] at hb; cases hb
  have h3 : b ≠ m := fun e => by rw [e, D.lM] at hb; cases hb
  exact ⟨h1, h2, h3, (fun e => by rw [e, D.lK] at hb; cases hb), by rw [upS_other h1 h2 h3] at hb; exact hb⟩
theorem upS_up {b : Nat} {o : Ob} (h1 : b ≠ d) (h2 : b ≠ r) (h3 : b ≠ m) : upT (upS T td tr d r m s) b o = upS (upT T b o) td tr d r m s := by
  unfold upS; rw [upT_comm _ h3.symm, upT_comm _ h2.symm, upT_comm _ h1.symm]
theorem Dk.up {b : Nat} {o : Ob} (D : Dk T k d r m) (h : b ≠ k) : Dk (upT T b o) k d r m := ⟨by rw [upT_ne h.symm]; exact D.desk, D.kd, D.kr, D.km, D.dr, D.dm, D.rm⟩
theorem Cap.up {b c t : Nat} {o : Ob} {cs : Array Value} (C : Cap T c d r m cs t) (h : b ≠ c) : Cap (upT T b o) c d r m cs t := ⟨by rw [upT_ne h.symm]; exact C.at_, C.cd, C.cr, C.cm⟩
theorem Cap.ne {b c t : Nat} {cs : Array Value} (C : Cap T c d r m cs t) (hb : T b = none) : b ≠ c := fun e => by rw [e, C.at_] at hb; cases hb
theorem made_one (z : Value) (n : Nat) (h : z.oneCell' = true) : (madeCells z.cells (n * 1)).toList = List.replicate n z := by
  rw [cells_one h, List.eq_replicate_iff]
  refine ⟨by simp [madeCells], fun b hb => ?_⟩
  unfold madeCells at hb
  simp only [Array.toList_map, List.mem_map] at hb
  obtain ⟨a, _, rfl⟩ := hb
  show #[z][a % 1]! = z
  rw [Nat.mod_one]; rfl
/-- the row while it is filled from its end -/
def fillRow (x : List Int) (i : Nat) : List Value := List.replicate (x.length - i) (u16 0) ++ (x.drop (x.length - i)).map u16
theorem taken_spec {pre x : List Int} {n : Nat} (D : Dk T k d r m) (h : Rep B w0 (upS T td tr d r m s) w) (hs : s.ds = pre ++ x) (hx : x.length = n) (hn : s.ds.length ≤ 256)
    (K1 : ∀ b w', upS T td tr d r m s b = none → Rep B w0 (upS (upT T b (raw (x.map u16).toArray 41)) td tr d r m { s with ds := pre }) w' → K (sl b 0 n n) w') : Calls P 128 #[ptr k 0, i64 (n : Int)] w (EndsS Kp K) := by
  have hl : pre.length + n ≤ 256 := by rw [hs] at hn; simp at hn; omega
  refine F128_calls ?_
  unfold F128
  refine S_mkSR Tryz.underlying22 in41 rfl (by show n * 1 ≤ _; omega) (by show 2 * n ≤ _; omega) (by omega) h (fun b w1 hb h1 => ?_)
  obtain ⟨nd, nr, nm, nk, hTb⟩ := fresh_ne D hb
  have D1 := fun (o : Ob) => D.up (o := o) nk
  rw [upS_up nd nr nm] at h1
  repeat' (with_reducible (apply S_R; exact R_lenS Tryz.underlying22))
  refine loop_count (fun i (_ : Unit) => upd 0 (ptr k 0) (upd 1 (i64 (n : Int)) (upd 4 (.slice none 0 0) (upd 5 (sl b 0 n n) (upd 10 (i64 (n : Int)) (upd 11 (i64 (i : Int)) E0)))))) 11 .i64 n
    (fun i _ w' => Rep B w0 (upS (upT T b (raw (fillRow x i).toArray 41)) td tr d r m { s with ds := pre ++ x.take (n - i) }) w') () (fun _ _ => rfl) rfl ?_ ?_
  · have e : madeCells (u16 0).cells (n * 1) = (fillRow x 0).toArray := by
      apply Array.ext'; rw [made_one _ _ rfl]; unfold fillRow; rw [hx]; simp [← hx]
    rw [show (⟨pre ++ x.take (n - 0), s.rs, s.mem⟩ : PS) = s by cases s; simp at hs ⊢; rw [hs, ← hx]; simp]
    rw [← e]; exact h1
  rintro i - w2 KL hi h2 next
  try simp (decide := true) only [upd_hit, upd_miss]
  refine S_lss (fun hc => C_t ?_) (fun hc => C_f ?_)
  · have hk := (D1 _).cells h2
    have hi' : i < n := by omega
    obtain ⟨j, hj⟩ : ∃ j, j = n - i - 1 := ⟨_, rfl⟩
    have e1 : n - i = j + 1 := by omega
    obtain ⟨y, hy⟩ : ∃ y, x[j]? = some y := ⟨_, List.getElem?_eq_getElem (by omega)⟩
    have e2 : x.take (n - i) = x.take j ++ [y] := by rw [e1, List.take_add_one, hy]; rfl
    rw [e2, ← List.append_assoc] at h2
    repeat' (with_reducible first
      | (apply S_R; first | exact R_nil _ | exact R_subi (by omega) | exact R_f99_0 _ _)
      | refine S_loadB pl32 (by first | assumption | exact heap_old (by assumption) (by assumption)) (by first | assumption | (with_unfolding_all exact rfl)) ?_)
    refine S_c123 (dk_pop (D1 _) h2 rfl (by simp; omega) (fun w3 h3 => ?_))
    repeat' (with_reducible (apply S_R; exact R_ixA Tryz.underlying22 sz41 (by omega) (by omega)))
    refine S_storeR sz41 h3 (by rw [upS_other nd nr nm]; exact upT_same ..) ?_ rfl (fun w4 h4 => ?_)
    · unfold fillRow; rw [Nat.blt_eq]; simp; omega
    repeat' (with_reducible (apply S_R; exact R_addi (by omega)))
    rw [upS_up nd nr nm, upT_upT] at h4
    have e3 : (fillRow x i).toArray.setIfInBounds (0 + ((n : Int) - 1 - i).toNat * 1) (u16 y) = (fillRow x (i + 1)).toArray := by
      have ej : 0 + ((n : Int) - 1 - i).toNat * 1 = j := by omega
      rw [ej]
      have hd : x.drop j = y :: x.drop (j + 1) := by
        have h1 := List.drop_eq_getElem_cons (l := x) (i := j) (by omega)
        obtain ⟨_, hyy⟩ := List.getElem_of_getElem? hy
        rw [h1, hyy]
      unfold fillRow
      rw [hx, e1, show n - (i + 1) = j by omega, hd]
      apply Array.ext'
      rw [Array.toList_setIfInBounds, List.replicate_succ']
      simp
    rw [e3] at h4
    exact next (by omega) () w4 (by rw [show n - (i + 1) = j by omega]; exact h4)
  · have : i = n := by omega
    subst this
    refine K1 b w2 hb ?_
    unfold fillRow at h2
    rw [hx] at h2
    simpa using h2
/-- the places that a shuffle keeps -/
def PlaceV (T : Store) (d r m : Nat) (pv : Value) (ps : List Nat) : Prop :=
  (pv = .slice none 0 0 ∧ ps = []) ∨ ∃ p, pv = sl p 0 ps.length ps.length ∧ Cap T p d r m (ps.map fun (i : Nat) => i64 (i : Int)).toArray 3
theorem shuffle1_spec {pre x : List Int} {n c1 c2 : Nat} {pv : Value} {ps : List Nat} (D : Dk T k d r m) (C1 : Cap T c1 d r m #[i64 (n : Int)] 3) (C2 : Cap T c2 d r m #[pv] 25) (hp : PlaceV T d r m pv ps)
    (h : Rep B w0 (upS T td tr d r m s) w) (hs : s.ds = pre ++ x) (hx : x.length = n) (hn : s.ds.length ≤ 256) (hps : ∀ p ∈ ps, p < n) (hn2 : pre.length + ps.length ≤ 256)
    (K1 : ∀ w', Rep B w0 (upS T td tr d r m { s with ds := pre ++ ps.map fun p => x.getD p 0 }) w' → K (.tuple #[]) w') : Calls P 127 #[ptr k 0, ptr c1 0, ptr c2 0] w (EndsS Kp K) := by
  have hl : pre.length + n ≤ 256 := by rw [hs] at hn; simp at hn; omega
  refine F127_calls ?_
  unfold F127
  have hc1 := C1.cells h
  repeat' (with_reducible refine S_loadB pl3 (by first | assumption | exact heap_old (by assumption) (by assumption)) (by first | assumption | (with_unfolding_all exact rfl)) ?_)
  refine S_c128 (taken_spec D h hs hx hn (fun b w1 hb h1 => ?_))
  obtain ⟨nd, nr, nm, nk, hTb⟩ := fresh_ne D hb
  have D1 := D.up (o := raw (x.map u16).toArray 41) nk
  have hc2 := (C2.up (C2.ne hTb)).cells h1
  obtain ⟨pa, hpv⟩ : ∃ pa, pv = .slice pa ps.length ps.length := by
    rcases hp with ⟨rfl, rfl⟩ | ⟨p, rfl, _⟩
    · exact ⟨none, rfl⟩
    · exact ⟨_, rfl⟩
  subst hpv
  repeat' (with_reducible first
    | (apply S_R; exact R_lenS Tryz.underlying25)
    | refine S_loadB pl25 (by first | assumption | exact heap_old (by assumption) (by assumption)) (by first | assumption | (with_unfolding_all exact rfl)) ?_)
  refine loop_count (fun i (_ : Unit) => upd 0 (ptr k 0) (upd 4 (sl b 0 n n) (upd 10 (.slice pa ps.length ps.length) (upd 11 (i64 (ps.length : Int)) (upd 12 (i64 (i : Int)) E0))))) 12 .i64 ps.length
    (fun i _ w' => Rep B w0 (upS (upT T b (raw (x.map u16).toArray 41)) td tr d r m { s with ds := pre ++ (ps.take i).map fun p => x.getD p 0 }) w') () (fun _ _ => rfl) rfl (by simpa using h1) ?_
  rintro i - w2 KL hi h2 next
  try simp (decide := true) only [upd_hit, upd_miss]
  refine S_lss (fun hc => C_t ?_) (fun hc => C_f ?_)
  · have hi' : i < ps.length := by omega
    obtain ⟨q, hq⟩ : ∃ q, ps[i]? = some q := ⟨_, List.getElem?_eq_getElem hi'⟩
    have hqn := hps q (List.mem_of_getElem? hq)
    obtain ⟨y, hy⟩ : ∃ y, x[q]? = some y := ⟨_, List.getElem?_eq_getElem (by omega)⟩
    rcases hp with ⟨_, rfl⟩ | ⟨p, e, C3⟩
    · simp at hi'
    simp only [Value.slice.injEq, and_self, and_true] at e
    subst e
    have hp2 := (C3.up (C3.ne hTb)).cells h2
    have hg := h2.grow (Grow.drew w2)
    have hbc : ∀ {w : World} {s : PS}, Rep B w0 (upS (upT T b (raw (x.map u16).toArray 41)) td tr d r m s) w → w.heap[b]? = some (.cells (x.map u16).toArray 41 (0, 0)) := fun h => h.raw (by rw [upS_other nd nr nm]; exact upT_same ..)
    have hat1 : At (ps.map fun (i : Nat) => i64 (i : Int)).toArray (0 + (i : Int).toNat * 1) (i64 (q : Int)) := ⟨by simp [hq]⟩
    have hat2 : At (x.map u16).toArray (0 + (q : Int).toNat * 1) (u16 y) := ⟨by simp [hy]⟩
    repeat' (with_reducible first
      | refine S_loadX pl3 hp2 hat1 ?_
      | (apply S_R; exact R_ixA Tryz.underlying25 sz3 (by omega) (by omega)))
    refine ⟨fun w' => w'.heap[k]? = some (.cells #[ptr d 0, ptr r 0, ptr m 0] 99 (0, 0)) ∧ w'.heap[b]? = some (.cells (x.map u16).toArray 41 (0, 0)), ⟨D1.cells hg, hbc hg⟩, ?_⟩
    repeat' (with_reducible first
      | refine Fl_loadX pl41 (fun w hw => hw.2) hat2 ?_
      | (apply Fl_R; first | exact R_nil _ | exact R_f99_0 _ _ | exact R_ixA Tryz.underlying22 sz41 (by omega) (by omega))
      | refine Fl_loadB pl32 (fun w hw => (by first | assumption | exact hw | exact hw.1 | exact hw.2 | exact hw.2.1 | exact hw.2.2)) (by first | assumption | (with_unfolding_all exact rfl)) ?_)
    refine S_bs1 (fun v w3 hN => ?_)
    have h3 := hg.grow hN.grow
    refine ⟨⟨D1.cells h3, hbc h3⟩, ?_⟩
    refine S_c26 (dk_push1 D1 h3 hN.sees (by simp; omega) (fun w4 h4 => ⟨⟨D1.cells h4, hbc h4⟩, ?_⟩))
    repeat' (with_reducible (apply S_R; exact R_addi (by omega)))
    refine next hi' () w4 ?_
    have e : (ps.take (i + 1)).map (fun p => x.getD p 0) = (ps.take i).map (fun p => x.getD p 0) ++ [y] := by
      rw [List.take_add_one, hq]; simp [hy]
    rw [e, ← List.append_assoc]; exact h4
  · have : i = ps.length := by omega
    subst this
    refine K1 w2 ?_
    rw [List.take_length, ← upS_up nd nr nm] at h2
    exact h2.drop1 (by rw [upS_other nd nr nm]; exact hTb)
end
end Go.Proofs.YtebmnfmiphbgdaaGreatDoor
namespace Go.Proofs.YtebmnfmiphbgdaaGreatDoor
open Go.Sh
section
variable {w w0 : World} {Kp : KP} {K : K0} {B : Nat} {T : Store} {k d r m td tr : Nat} {s : PS}
theorem dk_pushR {ys : List RC2} {n : Nat} {v : Value} (D : Dk T k d r m) (h : Rep B w0 (upS T td tr d r m s) w) (hv : Sees w v n (enc ys)) (hy : ys.length = n) (h0 : 0 < n) (hn : s.rs.length + n ≤ 128)
    (K1 : ∀ w', Rep B w0 (upS T td tr d r m { s with rs := s.rs ++ ys }) w' → K (i64 0) w') : Calls P 28 #[ptr r 0, v] w (EndsS Kp K) := by
  obtain ⟨g, o, c, rfl, hc, hcell⟩ := hv.at (by intro e; have e := enc_nil e; subst e; simp at hy; omega)
  refine pushR_spec h D.lR (by omega) (ys := ys) hy (by omega) (fun j u hj => ?_) (fun _ w' h' => K1 w' ?_) (fun h' => by omega)
  · rw [Addr.add_mid]; exact hcell j u hj
  · rw [← D.setR]; exact h'
theorem R_b75 (a b : Int) : R P (vbuild 75 #[(0, i64 a), (1, u16 b)]) (.agg #[i64 a, u16 b]) := ⟨fun w => by kernel_rfl⟩
theorem S_bs2R {a b c e : Int} (K1 : ∀ v w', New w w' 75 2 2 (enc [(a, b), (c, e)]) v → K v w') : S P (vbuildS 23 2 #[(0, .agg #[i64 a, u16 b]), (1, .agg #[i64 c, u16 e])]) w Kp K := by
  have hrun : (vbuildS 23 2 #[(0, .agg #[i64 a, u16 b]), (1, .agg #[i64 c, u16 e])]).run P w = .ok (.value (sl w.heap.size 0 2 2)) (w.alloc (.cells #[i64 a, u16 b, i64 c, u16 e] 75)) := by kernel_rfl
  exact S_run hrun (K1 _ _ (New.block (xs := enc [(a, b), (c, e)]) rfl (by unfold maxLen; omega)))
theorem S_bs1R {a b : Int} (K1 : ∀ v w', New w w' 75 2 1 (enc [(a, b)]) v → K v w') : S P (vbuildS 23 1 #[(0, .agg #[i64 a, u16 b])]) w Kp K := by
  have hrun : (vbuildS 23 1 #[(0, .agg #[i64 a, u16 b])]).run P w = .ok (.value (sl w.heap.size 0 1 1)) (w.alloc (.cells #[i64 a, u16 b] 75)) := by kernel_rfl
  exact S_run hrun (K1 _ _ (New.block (xs := enc [(a, b)]) rfl (by unfold maxLen; omega)))
theorem snoc2 {α : Type} (pre : List α) (a b : α) : pre ++ [a, b] = (pre ++ [a]) ++ [b] := by simp
theorem doNothing_spec (h : Rep B w0 (upS T td tr d r m s) w) (K1 : ∀ w', Rep B w0 (upS T td tr d r m s) w' → K (.tuple #[]) w') : Calls P 110 #[ptr k 0] w (EndsS Kp K) := F110_calls (K1 w h)
theorem doDo_spec {pre : List Int} {a b : Int} (D : Dk T k d r m) (h : Rep B w0 (upS T td tr d r m s) w) (hs : s.ds = pre ++ [a, b]) (hn : s.ds.length ≤ 256) (hr : s.rs.length + 2 ≤ 128)
    (K1 : ∀ w', Rep B w0 (upS T td tr d r m { s with ds := pre, rs := s.rs ++ [(2, a), (3, b)] }) w' → K (.tuple #[]) w') : Calls P 129 #[ptr k 0] w (EndsS Kp K) := by
  refine F129_calls ?_
  unfold F129
  refine S_c128 (taken_spec (n := 2) D h hs rfl hn (fun b' w1 hb h1 => ?_))
  obtain ⟨nd, nr, nm, nk, hTb⟩ := fresh_ne D hb
  have D1 := D.up (o := raw ([a, b].map u16).toArray 41) nk
  have hg := h1.grow (Grow.drew w1)
  have hbc : ∀ {w : World} {s : PS}, Rep B w0 (upS (upT T b' (raw ([a, b].map u16).toArray 41)) td tr d r m s) w → w.heap[b']? = some (.cells ([a, b].map u16).toArray 41 (0, 0)) := fun h => h.raw (by rw [upS_other nd nr nm]; exact upT_same ..)
  have hat0 : At ([a, b].map u16).toArray (0 + (0 : Int).toNat * 1) (u16 a) := ⟨rfl⟩
  have hat1 : At ([a, b].map u16).toArray (0 + (1 : Int).toNat * 1) (u16 b) := ⟨rfl⟩
  refine ⟨fun w' => w'.heap[k]? = some (.cells #[ptr d 0, ptr r 0, ptr m 0] 99 (0, 0)) ∧ w'.heap[b']? = some (.cells ([a, b].map u16).toArray 41 (0, 0)), ⟨D1.cells hg, hbc hg⟩, ?_⟩
  repeat' (with_reducible first
    | refine Fl_loadX pl41 (fun w hw => hw.2) hat0 ?_
    | refine Fl_loadX pl41 (fun w hw => hw.2) hat1 ?_
    | refine Fl_R (R_b75 _ _) ?_
    | (apply Fl_R; first | exact R_nil _ | exact R_f99_1 _ _ | exact R_ixA Tryz.underlying22 sz41 (by omega) (by omega))
    | refine Fl_loadB pl33 (fun w hw => (by first | assumption | exact hw | exact hw.1 | exact hw.2 | exact hw.2.1 | exact hw.2.2)) (by first | assumption | (with_unfolding_all exact rfl)) ?_)
  refine S_bs2R (fun v w2 hN => ?_)
  have h2 := hg.grow hN.grow
  refine ⟨⟨D1.cells h2, hbc h2⟩, ?_⟩
  refine S_c28 (dk_pushR D1 h2 hN.sees rfl (by omega) (by show s.rs.length + 2 ≤ 128; omega) (fun w3 h3 => ⟨⟨D1.cells h3, hbc h3⟩, K1 w3 ?_⟩))
  rw [← upS_up nd nr nm] at h3
  exact h3.drop1 (by rw [upS_other nd nr nm]; exact hTb)
theorem doFetch_spec {pre : List Int} {a : Int} (D : Dk T k d r m) (h : Rep B w0 (upS T td tr d r m s) w) (hs : s.ds = pre ++ [a]) (hn : s.ds.length ≤ 256) (ha : isC a)
    (K1 : ∀ w', Rep B w0 (upS T td tr d r m { s with ds := pre ++ [s.mem.cell a] }) w' → K (.tuple #[]) w') : Calls P 130 #[ptr k 0] w (EndsS Kp K) := by
  have hl : pre.length + 1 ≤ 256 := by rw [hs] at hn; simpa using hn
  refine F130_calls ?_
  unfold F130
  have hg := h.grow (Grow.drew w)
  refine ⟨fun w' => w'.heap[k]? = some (.cells #[ptr d 0, ptr r 0, ptr m 0] 99 (0, 0)), D.cells hg, ?_⟩
  repeat' (with_reducible first
    | (apply Fl_R; first | exact R_nil _ | exact R_f99_0 _ _ | exact R_f99_2 _ _)
    | refine Fl_loadB pl32 (fun w hw => (by first | assumption | exact hw | exact hw.1 | exact hw.2 | exact hw.2.1 | exact hw.2.2)) (by first | assumption | (with_unfolding_all exact rfl)) ?_
    | refine Fl_loadB pl34 (fun w hw => (by first | assumption | exact hw | exact hw.1 | exact hw.2 | exact hw.2.1 | exact hw.2.2)) (by first | assumption | (with_unfolding_all exact rfl)) ?_)
  refine S_c123 (dk_pop D hg hs hn (fun w1 h1 => ⟨D.cells h1, ?_⟩))
  refine S_c71 (cell_spec h1 D.lM ha (fun w2 h2 => ⟨D.cells h2, ?_⟩))
  refine S_bs1 (fun v w3 hN => ⟨D.cells (h2.grow hN.grow), ?_⟩)
  refine S_c26 (dk_push1 D (h2.grow hN.grow) hN.sees (by show pre.length < 256; omega) (fun w4 h4 => ⟨D.cells h4, K1 w4 h4⟩))
theorem doStore_spec {pre : List Int} {a b : Int} (D : Dk T k d r m) (h : Rep B w0 (upS T td tr d r m s) w) (hs : s.ds = pre ++ [a, b]) (hn : s.ds.length ≤ 256) (ha : isC a) (hb : isC b) (ht : s.mem.tones.length ≤ 90000)
    (K1 : ∀ w', Rep B w0 (upS T td tr d r m { s with ds := pre, mem := s.mem.setCell b a }) w' → K (.tuple #[]) w') : Calls P 131 #[ptr k 0] w (EndsS Kp K) := by
  have hl : pre.length + 2 ≤ 256 := by rw [hs] at hn; simpa using hn
  refine F131_calls ?_
  unfold F131
  have hk := D.cells h
  repeat' (with_reducible first
    | (apply S_R; first | exact R_nil _ | exact R_f99_0 _ _)
    | refine S_loadB pl32 (by first | assumption | exact heap_old (by assumption) (by assumption)) (by first | assumption | (with_unfolding_all exact rfl)) ?_)
  refine S_c123 (dk_pop D h (hs.trans (snoc2 _ _ _)) hn (fun w1 h1 => ?_))
  have hg := h1.grow (Grow.drew w1)
  refine ⟨fun w' => w'.heap[k]? = some (.cells #[ptr d 0, ptr r 0, ptr m 0] 99 (0, 0)), D.cells hg, ?_⟩
  repeat' (with_reducible first
    | (apply Fl_R; first | exact R_nil _ | exact R_f99_0 _ _ | exact R_f99_2 _ _)
    | refine Fl_loadB pl32 (fun w hw => (by first | assumption | exact hw | exact hw.1 | exact hw.2 | exact hw.2.1 | exact hw.2.2)) (by first | assumption | (with_unfolding_all exact rfl)) ?_
    | refine Fl_loadB pl34 (fun w hw => (by first | assumption | exact hw | exact hw.1 | exact hw.2 | exact hw.2.1 | exact hw.2.2)) (by first | assumption | (with_unfolding_all exact rfl)) ?_)
  refine S_c123 (dk_pop D hg rfl (by simp; omega) (fun w2 h2 => ⟨D.cells h2, ?_⟩))
  refine S_c149 (setCell_spec h2 D.lM hb ha ht (fun w3 h3 => ?_))
  rw [D.setM] at h3
  exact ⟨D.cells h3, K1 w3 h3⟩
theorem doByte_spec {pre : List Int} {a : Int} (D : Dk T k d r m) (h : Rep B w0 (upS T td tr d r m s) w) (hs : s.ds = pre ++ [a]) (hn : s.ds.length ≤ 256) (ha : isC a) (hok : s.mem.Ok)
    (K1 : ∀ w', Rep B w0 (upS T td tr d r m { s with ds := pre ++ [s.mem.load a] }) w' → K (.tuple #[]) w') : Calls P 132 #[ptr k 0] w (EndsS Kp K) := by
  have hl : pre.length + 1 ≤ 256 := by rw [hs] at hn; simpa using hn
  have hbyte := hok.loadB a
  unfold isB at hbyte
  refine F132_calls ?_
  unfold F132
  have hg := h.grow (Grow.drew w)
  refine ⟨fun w' => w'.heap[k]? = some (.cells #[ptr d 0, ptr r 0, ptr m 0] 99 (0, 0)), D.cells hg, ?_⟩
  repeat' (with_reducible first
    | (apply Fl_R; first | exact R_nil _ | exact R_f99_0 _ _ | exact R_f99_2 _ _)
    | refine Fl_loadB pl32 (fun w hw => (by first | assumption | exact hw | exact hw.1 | exact hw.2 | exact hw.2.1 | exact hw.2.2)) (by first | assumption | (with_unfolding_all exact rfl)) ?_
    | refine Fl_loadB pl34 (fun w hw => (by first | assumption | exact hw | exact hw.1 | exact hw.2 | exact hw.2.1 | exact hw.2.2)) (by first | assumption | (with_unfolding_all exact rfl)) ?_)
  refine S_c123 (dk_pop D hg hs hn (fun w1 h1 => ⟨D.cells h1, ?_⟩))
  refine S_c105 (load_spec h1 D.lM ha (fun w2 h2 => ⟨D.cells h2, ?_⟩))
  refine Fl_R (R_toU16i Tryz.underlying5 Tryz.underlying41 (show 0 ≤ s.mem.load a ∧ s.mem.load a < 65536 by omega)) ?_
  refine S_bs1 (fun v w3 hN => ⟨D.cells (h2.grow hN.grow), ?_⟩)
  refine S_c26 (dk_push1 D (h2.grow hN.grow) hN.sees (by show pre.length < 256; omega) (fun w4 h4 => ⟨D.cells h4, K1 w4 h4⟩))
theorem doPut_spec {pre : List Int} {a b : Int} (D : Dk T k d r m) (h : Rep B w0 (upS T td tr d r m s) w) (hs : s.ds = pre ++ [a, b]) (hn : s.ds.length ≤ 256) (ha : isC a) (hb : isC b) (ht : s.mem.tones.length ≤ 90000)
    (K1 : ∀ w', Rep B w0 (upS T td tr d r m { s with ds := pre, mem := s.mem.store b (a % 256) }) w' → K (.tuple #[]) w') : Calls P 133 #[ptr k 0] w (EndsS Kp K) := by
  have hl : pre.length + 2 ≤ 256 := by rw [hs] at hn; simpa using hn
  have ha' := ha
  unfold isC at ha'
  refine F133_calls ?_
  unfold F133
  have hk := D.cells h
  repeat' (with_reducible first
    | (apply S_R; first | exact R_nil _ | exact R_f99_0 _ _)
    | refine S_loadB pl32 (by first | assumption | exact heap_old (by assumption) (by assumption)) (by first | assumption | (with_unfolding_all exact rfl)) ?_)
  refine S_c123 (dk_pop D h (hs.trans (snoc2 _ _ _)) hn (fun w1 h1 => ?_))
  have hg := h1.grow (Grow.drew w1)
  refine ⟨fun w' => w'.heap[k]? = some (.cells #[ptr d 0, ptr r 0, ptr m 0] 99 (0, 0)), D.cells hg, ?_⟩
  repeat' (with_reducible first
    | (apply Fl_R; first | exact R_nil _ | exact R_f99_0 _ _ | exact R_f99_2 _ _)
    | refine Fl_loadB pl32 (fun w hw => (by first | assumption | exact hw | exact hw.1 | exact hw.2 | exact hw.2.1 | exact hw.2.2)) (by first | assumption | (with_unfolding_all exact rfl)) ?_
    | refine Fl_loadB pl34 (fun w hw => (by first | assumption | exact hw | exact hw.1 | exact hw.2 | exact hw.2.1 | exact hw.2.2)) (by first | assumption | (with_unfolding_all exact rfl)) ?_)
  refine S_c123 (dk_pop D hg rfl (by simp; omega) (fun w2 h2 => ⟨D.cells h2, ?_⟩))
  refine Fl_R (R_andLo ha') ?_
  repeat' (with_reducible (apply Fl_R; exact R_toU8i Tryz.underlying41 Tryz.underlying5 (by omega)))
  refine S_c16 (store_spec h2 D.lM hb (by unfold isB; omega) (by show s.mem.tones.length ≤ 100000; omega) (fun w3 h3 => ?_))
  rw [D.setM] at h3
  exact ⟨D.cells h3, K1 w3 h3⟩
theorem doMore_spec {pre : List Int} {a b : Int} (D : Dk T k d r m) (h : Rep B w0 (upS T td tr d r m s) w) (hs : s.ds = pre ++ [a, b]) (hn : s.ds.length ≤ 256) (ha : isC a) (hb : isC b) (hok : s.mem.Ok) (ht : s.mem.tones.length ≤ 90000)
    (K1 : ∀ w', Rep B w0 (upS T td tr d r m { s with ds := pre, mem := s.mem.setCell b ((s.mem.cell b + a) % 65536) }) w' → K (.tuple #[]) w') : Calls P 134 #[ptr k 0] w (EndsS Kp K) := by
  have hl : pre.length + 2 ≤ 256 := by rw [hs] at hn; simpa using hn
  refine F134_calls ?_
  unfold F134
  have hk := D.cells h
  repeat' (with_reducible first
    | (apply S_R; first | exact R_nil _ | exact R_f99_0 _ _)
    | refine S_loadB pl32 (by first | assumption | exact heap_old (by assumption) (by assumption)) (by first | assumption | (with_unfolding_all exact rfl)) ?_)
  refine S_c123 (dk_pop D h (hs.trans (snoc2 _ _ _)) hn (fun w1 h1 => ?_))
  have hg := h1.grow (Grow.drew w1)
  refine ⟨fun w' => w'.heap[k]? = some (.cells #[ptr d 0, ptr r 0, ptr m 0] 99 (0, 0)), D.cells hg, ?_⟩
  repeat' (with_reducible first
    | (apply Fl_R; first | exact R_nil _ | exact R_f99_0 _ _ | exact R_f99_2 _ _)
    | refine Fl_loadB pl32 (fun w hw => (by first | assumption | exact hw | exact hw.1 | exact hw.2 | exact hw.2.1 | exact hw.2.2)) (by first | assumption | (with_unfolding_all exact rfl)) ?_
    | refine Fl_loadB pl34 (fun w hw => (by first | assumption | exact hw | exact hw.1 | exact hw.2 | exact hw.2.1 | exact hw.2.2)) (by first | assumption | (with_unfolding_all exact rfl)) ?_)
  refine S_c71 (cell_spec hg D.lM hb (fun w2 h2 => ⟨D.cells h2, ?_⟩))
  refine S_c123 (dk_pop D h2 rfl (by simp; omega) (fun w3 h3 => ⟨D.cells h3, ?_⟩))
  refine Fl_R R_add16 ?_
  refine S_c149 (setCell_spec h3 D.lM hb (by unfold isC; omega) ht (fun w4 h4 => ?_))
  rw [D.setM] at h4
  exact ⟨D.cells h4, K1 w4 h4⟩
theorem doSave_spec {pre : List Int} {a : Int} (D : Dk T k d r m) (h : Rep B w0 (upS T td tr d r m s) w) (hs : s.ds = pre ++ [a]) (hn : s.ds.length ≤ 256) (hr : s.rs.length + 1 ≤ 128)
    (K1 : ∀ w', Rep B w0 (upS T td tr d r m { s with ds := pre, rs := s.rs ++ [(4, a)] }) w' → K (.tuple #[]) w') : Calls P 135 #[ptr k 0] w (EndsS Kp K) := by
  refine F135_calls ?_
  unfold F135
  have hg := h.grow (Grow.drew w)
  refine ⟨fun w' => w'.heap[k]? = some (.cells #[ptr d 0, ptr r 0, ptr m 0] 99 (0, 0)), D.cells hg, ?_⟩
  repeat' (with_reducible first
    | (apply Fl_R; first | exact R_nil _ | exact R_f99_1 _ _ | exact R_f99_0 _ _)
    | refine Fl_loadB pl33 (fun w hw => (by first | assumption | exact hw | exact hw.1 | exact hw.2 | exact hw.2.1 | exact hw.2.2)) (by first | assumption | (with_unfolding_all exact rfl)) ?_
    | refine Fl_loadB pl32 (fun w hw => (by first | assumption | exact hw | exact hw.1 | exact hw.2 | exact hw.2.1 | exact hw.2.2)) (by first | assumption | (with_unfolding_all exact rfl)) ?_)
  refine S_c123 (dk_pop D hg hs hn (fun w1 h1 => ⟨D.cells h1, ?_⟩))
  refine Fl_R (R_b75 _ _) ?_
  refine S_bs1R (fun v w2 hN => ⟨D.cells (h1.grow hN.grow), ?_⟩)
  refine S_c28 (dk_pushR D (h1.grow hN.grow) hN.sees rfl (by omega) (by show s.rs.length + 1 ≤ 128; omega) (fun w3 h3 => ⟨D.cells h3, K1 w3 h3⟩))
theorem doBack_spec (D : Dk T k d r m) (h : Rep B w0 (upS T td tr d r m s) w) (hn : s.ds.length < 256) (hr : s.rs.length ≤ 128) (hf : (retAt s.rs 0 4).2 = 0)
    (K1 : ∀ w', Rep B w0 (upS T td tr d r m { s with ds := s.ds ++ [(retAt s.rs 0 4).1], rs := s.rs.dropLast }) w' → K (.tuple #[]) w') : Calls P 136 #[ptr k 0] w (EndsS Kp K) := by
  refine F136_calls ?_
  unfold F136
  have hk := D.cells h
  repeat' (with_reducible first
    | (apply S_R; first | exact R_nil _ | exact R_f99_1 _ _)
    | refine S_loadB pl33 (by first | assumption | exact heap_old (by assumption) (by assumption)) (by first | assumption | (with_unfolding_all exact rfl)) ?_)
  refine S_c150 (popR_spec h D.lR (by omega) (fun w1 h1 => ?_))
  rw [if_pos hf, D.setR] at h1
  have hk1 := D.cells h1
  repeat' (with_reducible first
    | (apply S_R; first | exact R_nil _ | exact R_ext2_0 | exact R_ext2_1 | exact R_f99_0 _ _)
    | refine S_loadB pl32 (by first | assumption | exact heap_old (by assumption) (by assumption)) (by first | assumption | (with_unfolding_all exact rfl)) ?_)
  refine S_bs1 (fun v w2 hN => ?_)
  refine S_c26 (dk_push1 D (h1.grow hN.grow) hN.sees hn (fun w3 h3 => K1 w3 h3))
theorem sees_spec {n kind : Int} (D : Dk T k d r m) (h : Rep B w0 (upS T td tr d r m s) w) (hn : s.ds.length < 256) (hr : s.rs.length ≤ 128) (hj : -1000 ≤ n ∧ n ≤ 1000)
    (K1 : ∀ w', Rep B w0 (upS T td tr d r m { s with ds := s.ds ++ [(retAt s.rs n kind).1] }) w' → K (.tuple #[]) w') : Calls P 151 #[ptr k 0, i64 n, i64 kind] w (EndsS Kp K) := by
  refine F151_calls ?_
  unfold F151
  have hk := D.cells h
  repeat' (with_reducible first
    | (apply S_R; first | exact R_nil _ | exact R_f99_1 _ _)
    | refine S_loadB pl33 (by first | assumption | exact heap_old (by assumption) (by assumption)) (by first | assumption | (with_unfolding_all exact rfl)) ?_)
  refine S_c75 (at_spec h D.lR (by omega) hj (fun w1 h1 => ?_))
  have hk1 := D.cells h1
  repeat' (with_reducible first
    | (apply S_R; first | exact R_nil _ | exact R_ext2_0 | exact R_ext2_1 | exact R_f99_0 _ _)
    | refine S_loadB pl32 (by first | assumption | exact heap_old (by assumption) (by assumption)) (by first | assumption | (with_unfolding_all exact rfl)) ?_)
  refine S_bs1 (fun v w2 hN => ?_)
  refine S_c26 (dk_push1 D (h1.grow hN.grow) hN.sees hn (fun w3 h3 => K1 w3 h3))
theorem doPlot_spec {pre : List Int} {a b c : Int} (D : Dk T k d r m) (h : Rep B w0 (upS T td tr d r m s) w) (hs : s.ds = pre ++ [a, b, c]) (hn : s.ds.length ≤ 256) (ha : isC a) (hb : isC b) (hc : isC c) (ht : s.mem.tones.length ≤ 90000)
    (K1 : ∀ w', Rep B w0 (upS T td tr d r m { s with ds := pre, mem := s.mem.plot a b c }) w' → K (.tuple #[]) w') : Calls P 140 #[ptr k 0] w (EndsS Kp K) := by
  refine F140_calls ?_
  unfold F140
  refine S_c128 (taken_spec (n := 3) D h hs rfl hn (fun b' w1 hb' h1 => ?_))
  obtain ⟨nd, nr, nm, nk, hTb⟩ := fresh_ne D hb'
  have D1 := D.up (o := raw ([a, b, c].map u16).toArray 41) nk
  have hg := h1.grow (Grow.drew w1)
  have hbc : ∀ {w : World} {s : PS}, Rep B w0 (upS (upT T b' (raw ([a, b, c].map u16).toArray 41)) td tr d r m s) w → w.heap[b']? = some (.cells ([a, b, c].map u16).toArray 41 (0, 0)) := fun h => h.raw (by rw [upS_other nd nr nm]; exact upT_same ..)
  have hat0 : At ([a, b, c].map u16).toArray (0 + (0 : Int).toNat * 1) (u16 a) := ⟨rfl⟩
  have hat1 : At ([a, b, c].map u16).toArray (0 + (1 : Int).toNat * 1) (u16 b) := ⟨rfl⟩
  have hat2 : At ([a, b, c].map u16).toArray (0 + (2 : Int).toNat * 1) (u16 c) := ⟨rfl⟩
  refine ⟨fun w' => w'.heap[k]? = some (.cells #[ptr d 0, ptr r 0, ptr m 0] 99 (0, 0)) ∧ w'.heap[b']? = some (.cells ([a, b, c].map u16).toArray 41 (0, 0)), ⟨D1.cells hg, hbc hg⟩, ?_⟩
  repeat' (with_reducible first
    | refine Fl_loadX pl41 (fun w hw => hw.2) hat0 ?_
    | refine Fl_loadX pl41 (fun w hw => hw.2) hat1 ?_
    | refine Fl_loadX pl41 (fun w hw => hw.2) hat2 ?_
    | (apply Fl_R; first | exact R_nil _ | exact R_f99_2 _ _ | exact R_ixA Tryz.underlying22 sz41 (by omega) (by omega))
    | refine Fl_loadB pl34 (fun w hw => (by first | assumption | exact hw | exact hw.1 | exact hw.2 | exact hw.2.1 | exact hw.2.2)) (by first | assumption | (with_unfolding_all exact rfl)) ?_)
  refine S_c152 (plot_spec hg D1.lM ha hb hc ht (fun w2 h2 => ?_))
  rw [D1.setM] at h2
  refine ⟨⟨D1.cells h2, hbc h2⟩, K1 w2 ?_⟩
  rw [← upS_up nd nr nm] at h2
  exact h2.drop1 (by rw [upS_other nd nr nm]; exact hTb)
theorem doPad_spec (D : Dk T k d r m) (h : Rep B w0 (upS T td tr d r m s) w) (hn : s.ds.length < 256) (hok : s.mem.Ok)
    (K1 : ∀ w', Rep B w0 (upS T td tr d r m { s with ds := s.ds ++ [s.mem.pad] }) w' → K (.tuple #[]) w') : Calls P 141 #[ptr k 0] w (EndsS Kp K) := by
  have hbyte := hok.pad
  unfold isB at hbyte
  refine F141_calls ?_
  unfold F141
  have hg := h.grow (Grow.drew w)
  refine ⟨fun w' => w'.heap[k]? = some (.cells #[ptr d 0, ptr r 0, ptr m 0] 99 (0, 0)), D.cells hg, ?_⟩
  repeat' (with_reducible first
    | (apply Fl_R; first | exact R_nil _ | exact R_f99_0 _ _ | exact R_f99_2 _ _)
    | refine Fl_loadB pl32 (fun w hw => (by first | assumption | exact hw | exact hw.1 | exact hw.2 | exact hw.2.1 | exact hw.2.2)) (by first | assumption | (with_unfolding_all exact rfl)) ?_
    | refine Fl_loadB pl34 (fun w hw => (by first | assumption | exact hw | exact hw.1 | exact hw.2 | exact hw.2.1 | exact hw.2.2)) (by first | assumption | (with_unfolding_all exact rfl)) ?_)
  refine S_c153 (pad_spec hg D.lM (fun w2 h2 => ⟨D.cells h2, ?_⟩))
  repeat' (with_reducible (apply Fl_R; exact R_toU16i Tryz.underlying5 Tryz.underlying41 (by omega)))
  refine S_bs1 (fun v w3 hN => ⟨D.cells (h2.grow hN.grow), ?_⟩)
  refine S_c26 (dk_push1 D (h2.grow hN.grow) hN.sees hn (fun w4 h4 => ⟨D.cells h4, K1 w4 h4⟩))
theorem doTone_spec {pre : List Int} {a b : Int} (D : Dk T k d r m) (h : Rep B w0 (upS T td tr d r m s) w) (hs : s.ds = pre ++ [a, b]) (hn : s.ds.length ≤ 256) (ha : isC a) (hb : isC b) (ht : s.mem.tones.length ≤ 90000)
    (K1 : ∀ w', Rep B w0 (upS T td tr d r m { s with ds := pre, mem := s.mem.play a (b % 256) }) w' → K (.tuple #[]) w') : Calls P 142 #[ptr k 0] w (EndsS Kp K) := by
  have hl : pre.length + 2 ≤ 256 := by rw [hs] at hn; simpa using hn
  have hb' := hb
  unfold isC at hb'
  refine F142_calls ?_
  unfold F142
  have hk := D.cells h
  repeat' (with_reducible first
    | (apply S_R; first | exact R_nil _ | exact R_f99_0 _ _)
    | refine S_loadB pl32 (by first | assumption | exact heap_old (by assumption) (by assumption)) (by first | assumption | (with_unfolding_all exact rfl)) ?_)
  refine S_c123 (dk_pop D h (hs.trans (snoc2 _ _ _)) hn (fun w1 h1 => ?_))
  have hg := h1.grow (Grow.drew w1)
  refine ⟨fun w' => w'.heap[k]? = some (.cells #[ptr d 0, ptr r 0, ptr m 0] 99 (0, 0)), D.cells hg, ?_⟩
  repeat' (with_reducible first
    | refine Fl_R (R_andLo hb') ?_
    | (apply Fl_R; first | exact R_nil _ | exact R_f99_0 _ _ | exact R_f99_2 _ _ | exact R_toU8i Tryz.underlying41 Tryz.underlying5 (by omega))
    | refine Fl_loadB pl32 (fun w hw => (by first | assumption | exact hw | exact hw.1 | exact hw.2 | exact hw.2.1 | exact hw.2.2)) (by first | assumption | (with_unfolding_all exact rfl)) ?_
    | refine Fl_loadB pl34 (fun w hw => (by first | assumption | exact hw | exact hw.1 | exact hw.2 | exact hw.2.1 | exact hw.2.2)) (by first | assumption | (with_unfolding_all exact rfl)) ?_)
  refine S_c123 (dk_pop D hg rfl (by simp; omega) (fun w2 h2 => ⟨D.cells h2, ?_⟩))
  refine S_c154 (play_spec h2 D.lM ha (by unfold isB; omega) ht (fun w3 h3 => ?_))
  rw [D.setM] at h3
  exact ⟨D.cells h3, K1 w3 h3⟩
theorem doBank_spec {pre : List Int} {a : Int} (D : Dk T k d r m) (h : Rep B w0 (upS T td tr d r m s) w) (hs : s.ds = pre ++ [a]) (hn : s.ds.length ≤ 256) (ha : isC a) (ht : s.mem.tones.length ≤ 90000)
    (K1 : ∀ w', Rep B w0 (upS T td tr d r m { s with ds := pre, mem := s.mem.choose a }) w' → K (.tuple #[]) w') : Calls P 143 #[ptr k 0] w (EndsS Kp K) := by
  refine F143_calls ?_
  unfold F143
  have hg := h.grow (Grow.drew w)
  refine ⟨fun w' => w'.heap[k]? = some (.cells #[ptr d 0, ptr r 0, ptr m 0] 99 (0, 0)), D.cells hg, ?_⟩
  repeat' (with_reducible first
    | (apply Fl_R; first | exact R_nil _ | exact R_f99_2 _ _ | exact R_f99_0 _ _)
    | refine Fl_loadB pl34 (fun w hw => (by first | assumption | exact hw | exact hw.1 | exact hw.2 | exact hw.2.1 | exact hw.2.2)) (by first | assumption | (with_unfolding_all exact rfl)) ?_
    | refine Fl_loadB pl32 (fun w hw => (by first | assumption | exact hw | exact hw.1 | exact hw.2 | exact hw.2.1 | exact hw.2.2)) (by first | assumption | (with_unfolding_all exact rfl)) ?_)
  refine S_c123 (dk_pop D hg hs hn (fun w1 h1 => ⟨D.cells h1, ?_⟩))
  refine S_c155 (choose_spec h1 D.lM ha ht (fun w2 h2 => ?_))
  rw [D.setM] at h2
  exact ⟨D.cells h2, K1 w2 h2⟩
end
end Go.Proofs.YtebmnfmiphbgdaaGreatDoor
namespace Go.Proofs.YtebmnfmiphbgdaaGreatDoor
open Go.Sh
def nameB (op : Int) : ByteArray := ⟨(primName.getD op.toNat []).toArray⟩
def costOf (op : Int) : Int := primCost.getD op.toNat 0
structure Tabs (w0 : World) : Prop where
  names : ∀ i : Int, 0 ≤ i ∧ i < 64 → w0.cell? ⟨0, i.toNat, none⟩ = some (.string (nameB i))
  takes : ∀ i : Int, 0 ≤ i ∧ i < 64 → w0.cell? ⟨1, i.toNat, none⟩ = some (u8 (inOf i))
  leaves : ∀ i : Int, 0 ≤ i ∧ i < 64 → w0.cell? ⟨2, i.toNat, none⟩ = some (u8 (outOf i))
  costs : ∀ i : Int, 0 ≤ i ∧ i < 64 → w0.cell? ⟨3, i.toNat, none⟩ = some (u8 (costOf i))
def operandOp (op : Int) : Bool := decide (op = 3) || (decide (op = 4) || (decide (op = 5) || decide (op = 7)))
def primCells (op : Int) : Array Value := #[i64 op, .string (nameB op), i64 (inOf op), i64 (outOf op), i64 (costOf op), .bool (operandOp op)]
section
variable {w w0 : World} {Kp : KP} {K : K0} {B : Nat} {T : Store}
theorem below_cell (h : Rep B w0 T w) {b o : Nat} {v : Value} (hb : b < B) (hc : w0.cell? ⟨b, o, none⟩ = some v) : w.cell? ⟨b, o, none⟩ = some v := by
  rw [h.below.cell (p := ⟨b, o, none⟩) hb]; exact hc
theorem small_tab {op : Int} : (0 ≤ inOf op ∧ inOf op < 256) ∧ (0 ≤ outOf op ∧ outOf op < 256) ∧ (0 ≤ costOf op ∧ costOf op < 256) := by
  have key : ∀ (l : List Int), l.all (fun x => decide (0 ≤ x ∧ x < 256)) = true → ∀ i : Nat, 0 ≤ l.getD i 0 ∧ l.getD i 0 < 256 := by
    intro l hl i
    rw [List.getD_eq_getElem?_getD]
    cases h : l[i]? with
    | none => simp
    | some x => simpa using List.all_eq_true.1 hl x (List.mem_of_getElem? h)
  exact ⟨key primIn (by decide) _, key primOut (by decide) _, key primCost (by decide) _⟩
theorem R_b43 (a : Int) (b : ByteArray) (c d e : Int) (f : Bool) : R P (vbuild 43 #[(0, i64 a), (1, .string b), (2, i64 c), (3, i64 d), (4, i64 e), (5, .bool f)]) (.agg #[i64 a, .string b, i64 c, i64 d, i64 e, .bool f]) := ⟨fun w => by kernel_rfl⟩
theorem primOf_spec {op : Int} (hop : 0 ≤ op ∧ op < 64) (h : Rep B w0 T w) (hB : 4 ≤ B) (ht : Tabs w0) (K1 : ∀ w', Rep B w0 T w' → K (.agg (primCells op)) w') : Calls P 52 #[i64 op] w (EndsS Kp K) := by
  have hs := small_tab (op := op)
  refine F52_calls ?_
  unfold F52
  refine S_allocR zr43 h (fun b w1 hb h1 => ?_)
  have hg := h1.grow (Grow.drew w1)
  have t0 : ∀ w', w' = drewW w1 → w'.cell? ⟨0, 0 + op.toNat * 1, none⟩ = some (.string (nameB op)) := by
    rintro _ rfl; rw [Nat.zero_add, Nat.mul_one]; exact below_cell hg (by omega) (ht.names op hop)
  have t1 : ∀ w', w' = drewW w1 → w'.cell? ⟨1, 0 + op.toNat * 1, none⟩ = some (u8 (inOf op)) := by
    rintro _ rfl; rw [Nat.zero_add, Nat.mul_one]; exact below_cell hg (by omega) (ht.takes op hop)
  have t2 : ∀ w', w' = drewW w1 → w'.cell? ⟨2, 0 + op.toNat * 1, none⟩ = some (u8 (outOf op)) := by
    rintro _ rfl; rw [Nat.zero_add, Nat.mul_one]; exact below_cell hg (by omega) (ht.leaves op hop)
  have t3 : ∀ w', w' = drewW w1 → w'.cell? ⟨3, 0 + op.toNat * 1, none⟩ = some (u8 (costOf op)) := by
    rintro _ rfl; rw [Nat.zero_add, Nat.mul_one]; exact below_cell hg (by omega) (ht.costs op hop)
  have key : ∀ o : Bool, o = operandOp op → ∃ H12 : World → Prop, H12 (drewW w1) ∧
      Fl P H12 (vixA 161 (Value.pointer (some ⟨0, 0, none⟩)) (i64 op)) fun v13 =>
      Fl P H12 (vload 9 v13) fun v14 =>
      Fl P H12 (vixA 162 (Value.pointer (some ⟨1, 0, none⟩)) (i64 op)) fun v15 =>
      Fl P H12 (vload 5 v15) fun v16 =>
      Fl P H12 (vconv 5 3 v16) fun v17 =>
      Fl P H12 (vixA 162 (Value.pointer (some ⟨2, 0, none⟩)) (i64 op)) fun v18 =>
      Fl P H12 (vload 5 v18) fun v19 =>
      Fl P H12 (vconv 5 3 v19) fun v20 =>
      Fl P H12 (vixA 162 (Value.pointer (some ⟨3, 0, none⟩)) (i64 op)) fun v21 =>
      Fl P H12 (vload 5 v21) fun v22 =>
      Fl P H12 (vconv 5 3 v22) fun v23 =>
      Fl P H12 (vbuild 43 #[(0, i64 op), (1, v14), (2, v17), (3, v20), (4, v23), (5, .bool o)]) fun v24 =>
      S P (vstore 43 (ptr b 0) v24) (drewW w1) Kp fun v25 w =>
      RC P 43 (ptr b 0) w fun r26 => K r26 w := by
    intro o ho
    refine ⟨fun w' => w' = drewW w1, rfl, ?_⟩
    repeat' (with_reducible first
      | refine Fl_loadC pl9 t0 ?_
      | refine Fl_loadC pl5 t1 ?_
      | refine Fl_loadC pl5 t2 ?_
      | refine Fl_loadC pl5 t3 ?_
      | refine Fl_R (R_b43 _ _ _ _ _ _) ?_
      | (apply Fl_R; first | exact R_arrA Tryz.underlying161 sz9 (by omega) (by omega) | exact R_arrA Tryz.underlying162 sz5 (by omega) (by omega) | exact R_toI64 Tryz.underlying5 Tryz.underlying3 (by omega)))
    refine S_storeRowR sz43 hg (upT_same ..) rfl rfl (fun w2 h2 => ?_)
    refine RC_rowR rw43 sz43 h2 (upT_same ..) rfl ?_
    rw [upT_upT] at h2
    rw [ho]
    exact K1 w2 (h2.drop1 hb)
  by_cases o3 : op = 3
  · subst o3; repeat' (with_reducible first
   | refine GS_t' ?_
   | refine S_eql_t (by omega) ?_
   | (apply S_R; exact R_pick_t _ _))
    exact key true (by decide)
  by_cases o4 : op = 4
  · subst o4; repeat' (with_reducible first
   | refine GS_t' ?_
   | refine GS_f' ?_
   | refine S_eql_t (by omega) ?_
   | refine S_eql_f (by omega) ?_
   | (apply S_R; first | exact R_move _ | exact R_pick_t _ _ | exact R_pick_f _ _))
    exact key true (by decide)
  by_cases o5 : op = 5
  · subst o5; repeat' (with_reducible first
   | refine GS_t' ?_
   | refine GS_f' ?_
   | refine S_eql_t (by omega) ?_
   | refine S_eql_f (by omega) ?_
   | (apply S_R; first | exact R_move _ | exact R_pick_t _ _ | exact R_pick_f _ _))
    exact key true (by decide)
  by_cases o7 : op = 7
  · subst o7; repeat' (with_reducible first
   | refine GS_f' ?_
   | refine S_eql_t (by omega) ?_
   | refine S_eql_f (by omega) ?_
   | (apply S_R; first | exact R_move _ | exact R_pick_f _ _))
    exact key true (by decide)
  repeat' (with_reducible first
    | refine GS_f' ?_
    | refine S_eql_f (by omega) ?_
    | (apply S_R; first | exact R_move _ | exact R_pick_f _ _))
  exact key false (by unfold operandOp; simp [o3, o4, o5, o7])
end
end Go.Proofs.YtebmnfmiphbgdaaGreatDoor
namespace Go.Proofs.YtebmnfmiphbgdaaGreatDoor
open Go.Sh
def unOp (op : Int) : Prop := op = 28 ∨ op = 29 ∨ (32 ≤ op ∧ op ≤ 35) ∨ op = 39 ∨ op = 48 ∨ op = 49
def biOp (op : Int) : Prop := (21 ≤ op ∧ op ≤ 27) ∨ op = 30 ∨ op = 31 ∨ (36 ≤ op ∧ op ≤ 38) ∨ (40 ≤ op ∧ op ≤ 47)
instance (op : Int) : Decidable (unOp op) := by unfold unOp; infer_instance
instance (op : Int) : Decidable (biOp op) := by unfold biOp; infer_instance
theorem unary_isSome (op x : Int) : (unary op x).isSome = decide (unOp op) := by
  rw [Bool.eq_iff_iff, decide_eq_true_eq]
  unfold unary unOp
  repeat' split
  all_goals (first | (simp; omega) | omega)
theorem binary_isSome (op x y : Int) : (binary op x y).isSome = decide (biOp op) := by
  rw [Bool.eq_iff_iff, decide_eq_true_eq]
  unfold binary biOp
  by_cases h1 : op = 21; · simp [h1]
  by_cases h2 : op = 22; · simp [h2]
  by_cases h3 : op = 23; · simp [h3]
  by_cases h4 : op = 24 ∨ op = 25 ∨ op = 26 ∨ op = 27; · simp [h1, h2, h3, h4]; omega
  rw [if_neg h1, if_neg h2, if_neg h3, if_neg h4]
  by_cases q30 : op = 30; · simp [q30]
  rw [if_neg q30]
  by_cases q31 : op = 31; · simp [q31]
  rw [if_neg q31]
  by_cases q36 : op = 36; · simp [q36]
  rw [if_neg q36]
  by_cases q37 : op = 37; · simp [q37]
  rw [if_neg q37]
  by_cases q38 : op = 38; · simp [q38]
  rw [if_neg q38]
  by_cases q40 : op = 40; · simp [q40]
  rw [if_neg q40]
  by_cases q41 : op = 41; · simp [q41]
  rw [if_neg q41]
  by_cases q42 : op = 42; · simp [q42]
  rw [if_neg q42]
  by_cases q43 : op = 43; · simp [q43]
  rw [if_neg q43]
  by_cases q44 : op = 44; · simp [q44]
  rw [if_neg q44]
  by_cases q45 : op = 45; · simp [q45]
  rw [if_neg q45]
  by_cases q46 : op = 46; · simp [q46]
  rw [if_neg q46]
  by_cases q47 : op = 47; · simp [q47]
  rw [if_neg q47]
  simp; omega
def shufT (op : Int) : Option (Nat × List Nat) :=
  if op = 12 then some (1, [0, 0]) else if op = 13 then some (1, []) else if op = 14 then some (2, [1, 0]) else if op = 15 then some (2, [0, 1, 0]) else if op = 16 then some (3, [1, 2, 0])
  else if op = 17 then some (2, [1]) else if op = 18 then some (2, [1, 0, 1]) else if op = 19 then some (2, [0, 1, 0, 1]) else if op = 20 then some (2, []) else none
def doOf (op : Int) : Option Nat :=
  if op = 9 then some 110 else if op = 6 then some 129 else if 50 ≤ op ∧ op ≤ 63 then some (op.toNat + 80) else none
theorem doOf_eq {op : Int} {f : Nat} (h : doOf op = some f) : (op = 9 ∧ f = 110) ∨ (op = 6 ∧ f = 129) ∨ ((50 ≤ op ∧ op ≤ 63) ∧ f = op.toNat + 80) := by
  unfold doOf at h
  repeat' split at h
  all_goals (first | (simp only [Option.some.injEq] at h; omega) | (cases h))
/-- the function value of a number -/
def FV (T : Store) (d r m : Nat) (op : Int) (fv : Value) : Prop :=
  (unOp op ∧ ∃ c, fv = .func (.func 122) #[] #[ptr c 0] ∧ Cap T c d r m #[i64 op] 3) ∨
  (biOp op ∧ ∃ c, fv = .func (.func 126) #[] #[ptr c 0] ∧ Cap T c d r m #[i64 op] 3) ∨
  (∃ n ps, shufT op = some (n, ps) ∧ ∃ c1 c2 pv, fv = .func (.func 127) #[] #[ptr c1 0, ptr c2 0] ∧ Cap T c1 d r m #[i64 (n : Int)] 3 ∧ Cap T c2 d r m #[pv] 25 ∧ PlaceV T d r m pv ps) ∨
  (∃ f, doOf op = some f ∧ fv = .func (.func f) #[] #[])
section
variable {w w0 : World} {Kp : KP} {K : K0} {B : Nat} {T : Store} {k d r m td tr : Nat} {s : PS}
theorem PlaceV.up {pv : Value} {ps : List Nat} {b : Nat} {o : Ob} (h : PlaceV T d r m pv ps) (hb : T b = none) : PlaceV (upT T b o) d r m pv ps := by
  rcases h with h | ⟨p, h1, h2⟩
  · exact .inl h
  · exact .inr ⟨p, h1, h2.up (h2.ne hb)⟩
theorem FV.up {op : Int} {fv : Value} {b : Nat} {o : Ob} (h : FV T d r m op fv) (hb : T b = none) : FV (upT T b o) d r m op fv := by
  rcases h with ⟨h1, c, h2, h3⟩ | ⟨h1, c, h2, h3⟩ | ⟨n, ps, h1, c1, c2, pv, h2, h3, h4, h5⟩ | h
  · exact .inl ⟨h1, c, h2, h3.up (h3.ne hb)⟩
  · exact .inr (.inl ⟨h1, c, h2, h3.up (h3.ne hb)⟩)
  · exact .inr (.inr (.inl ⟨n, ps, h1, c1, c2, pv, h2, h3.up (h3.ne hb), h4.up (h4.ne hb), h5.up hb⟩))
  · exact .inr (.inr (.inr h))
structure Tri (d r m : Nat) : Prop where
  dr : d ≠ r
  dm : d ≠ m
  rm : r ≠ m
theorem fresh_tri {b : Nat} (D : Tri d r m) (hb : upS T td tr d r m s b = none) : b ≠ d ∧ b ≠ r ∧ b ≠ m ∧ T b = none := by
  have h1 : b ≠ d := fun e => by rw [e] at hb; unfold upS at hb; rw [upT_ne D.dm, upT_ne D.dr, upT_same] at hb; cases hb
  have h2 : b ≠ r := fun e => by rw [e] at hb; unfold upS at hb; rw [upT_ne D.rm, upT_same] at hb; cases hb
  have h3 : b ≠ m := fun e => by rw [e] at hb; unfold upS at hb; rw [upT_same] at hb; cases hb
  exact ⟨h1, h2, h3, by rw [upS_other h1 h2 h3] at hb; exact hb⟩
theorem S_boxU {t : TypeId} {x : Value} (D : Tri d r m) (h : Rep B w0 (upS T td tr d r m s) w) (K1 : ∀ b w', T b = none → Cap (upT T b (raw x.cells t)) b d r m x.cells t → Rep B w0 (upS (upT T b (raw x.cells t)) td tr d r m s) w' → K (ptr b 0) w') : S P (vbox t x) w Kp K :=
  S_boxR h (fun b w' hb h' => by
    obtain ⟨n1, n2, n3, hTb⟩ := fresh_tri D hb
    rw [upS_up n1 n2 n3] at h'
    exact K1 b w' hTb ⟨upT_same .., n1, n2, n3⟩ h')
theorem R_mk122 (c : Value) : R P (vmkF (Fn.func 122) #[] #[c]) (.func (.func 122) #[] #[c]) := ⟨fun w => by kernel_rfl⟩
theorem R_mk126 (c : Value) : R P (vmkF (Fn.func 126) #[] #[c]) (.func (.func 126) #[] #[c]) := ⟨fun w => by kernel_rfl⟩
theorem R_mk127 (c e : Value) : R P (vmkF (Fn.func 127) #[] #[c, e]) (.func (.func 127) #[] #[c, e]) := ⟨fun w => by kernel_rfl⟩
theorem one_make {op : Int} (D : Tri d r m) (h : Rep B w0 (upS T td tr d r m s) w) (K1 : ∀ c w', T c = none → Cap (upT T c (raw #[i64 op] 3)) c d r m #[i64 op] 3 → Rep B w0 (upS (upT T c (raw #[i64 op] 3)) td tr d r m s) w' → K (.func (.func 122) #[] #[ptr c 0]) w') :
    Calls P 107 #[i64 op] w (EndsS Kp K) := by
  refine F107_calls ?_
  unfold F107
  exact S_boxU D h (fun b w' hb hc h' => S_R (R_mk122 _) (K1 b w' hb hc h'))
theorem two_make {op : Int} (D : Tri d r m) (h : Rep B w0 (upS T td tr d r m s) w) (K1 : ∀ c w', T c = none → Cap (upT T c (raw #[i64 op] 3)) c d r m #[i64 op] 3 → Rep B w0 (upS (upT T c (raw #[i64 op] 3)) td tr d r m s) w' → K (.func (.func 126) #[] #[ptr c 0]) w') :
    Calls P 109 #[i64 op] w (EndsS Kp K) := by
  refine F109_calls ?_
  unfold F109
  exact S_boxU D h (fun b w' hb hc h' => S_R (R_mk126 _) (K1 b w' hb hc h'))
theorem shuf_make {n : Nat} {ps : List Nat} {pv : Value} {op : Int} (hs : shufT op = some (n, ps)) (D : Tri d r m) (hp : PlaceV T d r m pv ps) (h : Rep B w0 (upS T td tr d r m s) w)
    (K1 : ∀ fv T' w', Ext T T' → FV T' d r m op fv → Rep B w0 (upS T' td tr d r m s) w' → K fv w') : Calls P 111 #[i64 (n : Int), pv] w (EndsS Kp K) := by
  have hpc : pv.cells = #[pv] := by
    rcases hp with ⟨rfl, _⟩ | ⟨p, rfl, _⟩ <;> rfl
  refine F111_calls ?_
  unfold F111
  refine S_boxU D h (fun b w1 hb hc h1 => S_boxU D h1 (fun b2 w2 hb2 hc2 h2 => S_R (R_mk127 _ _) ?_))
  refine K1 _ _ w2 ((Ext.new hb).trans (Ext.new hb2)) (.inr (.inr (.inl ⟨n, ps, hs, b, b2, pv, rfl, hc.up (hc.ne hb2), by rw [hpc] at hc2 ⊢; exact hc2, (hp.up hb).up hb2⟩))) h2
theorem S_lits {n : Nat} {ps : List Nat} {parts : Array (Nat × Value)} (D : Tri d r m) (h : Rep B w0 (upS T td tr d r m s) w)
    (hrun : ∀ w, (vbuildS 25 n parts).run P w = .ok (.value (sl w.heap.size 0 ps.length ps.length)) (w.alloc (.cells (ps.map fun (i : Nat) => i64 (i : Int)).toArray 3)))
    (K1 : ∀ pv T' w', Ext T T' → PlaceV T' d r m pv ps → Rep B w0 (upS T' td tr d r m s) w' → K pv w') : S P (vbuildS 25 n parts) w Kp K := by
  refine S_run (hrun w) ?_
  have hb := h.fresh (Nat.le_refl w.heap.size)
  have h' := h.newRaw (ps.map fun (i : Nat) => i64 (i : Int)).toArray 3
  obtain ⟨n1, n2, n3, hTb⟩ := fresh_tri D hb
  rw [upS_up n1 n2 n3] at h'
  exact K1 _ _ _ (Ext.new hTb) (.inr ⟨_, rfl, upT_same .., n1, n2, n3⟩) h'
theorem doesOf_spec {op : Int} {f : Nat} (hf : doOf op = some f) (h9 : op ≠ 9) (K1 : K (.func (.func f) #[] #[]) w) : Calls P 112 #[i64 op] w (EndsS Kp K) := by
  refine F112_calls ?_
  unfold F112
  rcases doOf_eq hf with ⟨h, _⟩ | ⟨rfl, rfl⟩ | ⟨h50, rfl⟩
  · omega
  · repeat' (with_reducible first
   | refine C_t ?_
   | refine S_eql_t (by omega) ?_)
    exact K1
  · rcases (by omega : op = 50 ∨ op = 51 ∨ op = 52 ∨ op = 53 ∨ op = 54 ∨ op = 55 ∨ op = 56 ∨ op = 57 ∨ op = 58 ∨ op = 59 ∨ op = 60 ∨ op = 61 ∨ op = 62 ∨ op = 63) with rfl | rfl | rfl | rfl | rfl | rfl | rfl | rfl | rfl | rfl | rfl | rfl | rfl | rfl
    all_goals (
      repeat' (with_reducible first
        | refine C_t ?_
        | refine C_f ?_
        | refine S_eql_t (by omega) ?_
        | refine S_eql_f (by omega) ?_))
    all_goals exact K1
theorem does_spec {op : Int} (hop : plainOp op) (D : Tri d r m) (h : Rep B w0 (upS T td tr d r m s) w)
    (K1 : ∀ fv T' w', Ext T T' → FV T' d r m op fv → Rep B w0 (upS T' td tr d r m s) w' → K fv w') : Calls P 73 #[i64 op] w (EndsS Kp K) := by
  have c0 : isC 0 := by unfold isC; omega
  refine F73_calls ?_
  unfold F73
  refine S_c106 (unary_spec c0 ?_)
  refine S_R (R_ext2_0) (S_R (R_ext2_1) ?_)
  rw [unary_isSome]
  by_cases hu : unOp op
  · rw [decide_eq_true hu]
    refine C_t (S_c107 (one_make D h (fun c w' hb hc h' => K1 _ _ w' (Ext.new hb) (.inl ⟨hu, c, rfl, hc⟩) h')))
  rw [decide_eq_false hu]
  refine C_f (S_c108 (binary_spec c0 c0 ?_))
  refine S_R (R_ext2_0) (S_R (R_ext2_1) ?_)
  rw [binary_isSome]
  by_cases hb : biOp op
  · rw [decide_eq_true hb]
    refine C_t (S_c109 (two_make D h (fun c w' hb' hc h' => K1 _ _ w' (Ext.new hb') (.inr (.inl ⟨hb, c, rfl, hc⟩)) h')))
  rw [decide_eq_false hb]
  refine C_f ?_
  unfold plainOp at hop
  unfold unOp at hu
  unfold biOp at hb
  have go : ∀ {w : World} {T1 : Store} {pv : Value} {ps : List Nat} {n : Nat}, shufT op = some (n, ps) → Ext T T1 → PlaceV T1 d r m pv ps → Rep B w0 (upS T1 td tr d r m s) w → Calls P 111 #[i64 (n : Int), pv] w (EndsS Kp K) :=
    fun hs hx hp h => shuf_make hs D hp h (fun fv T' w' hx' hfv h' => K1 fv T' w' (hx.trans hx') hfv h')
  have nl : PlaceV T d r m (.slice none 0 0) [] := .inl ⟨rfl, rfl⟩
  repeat' (with_reducible first
    | refine C_t ?_
    | refine C_f ?_
    | refine S_eql (fun hc => ?_) (fun hc => ?_))
  · exact K1 _ T w (Ext.refl _) (.inr (.inr (.inr ⟨110, by subst hc; rfl, rfl⟩))) h
  · exact S_lits (ps := [0, 0]) D h (fun w => by kernel_rfl) (fun pv T' w' hx hp h' => S_c111 (go (n := 1) (by subst hc; rfl) hx hp h'))
  · exact S_c111 (go (n := 1) (by subst hc; rfl) (Ext.refl _) nl h)
  · exact S_lits (ps := [1, 0]) D h (fun w => by kernel_rfl) (fun pv T' w' hx hp h' => S_c111 (go (n := 2) (by subst hc; rfl) hx hp h'))
  · exact S_lits (ps := [0, 1, 0]) D h (fun w => by kernel_rfl) (fun pv T' w' hx hp h' => S_c111 (go (n := 2) (by subst hc; rfl) hx hp h'))
  · exact S_lits (ps := [1, 2, 0]) D h (fun w => by kernel_rfl) (fun pv T' w' hx hp h' => S_c111 (go (n := 3) (by subst hc; rfl) hx hp h'))
  · exact S_lits (ps := [1]) D h (fun w => by kernel_rfl) (fun pv T' w' hx hp h' => S_c111 (go (n := 2) (by subst hc; rfl) hx hp h'))
  · exact S_lits (ps := [1, 0, 1]) D h (fun w => by kernel_rfl) (fun pv T' w' hx hp h' => S_c111 (go (n := 2) (by subst hc; rfl) hx hp h'))
  · exact S_lits (ps := [0, 1, 0, 1]) D h (fun w => by kernel_rfl) (fun pv T' w' hx hp h' => S_c111 (go (n := 2) (by subst hc; rfl) hx hp h'))
  · exact S_c111 (go (n := 2) (by subst hc; rfl) (Ext.refl _) nl h)
  · obtain ⟨f, hf⟩ : ∃ f, doOf op = some f := by
      by_cases h6 : op = 6
      · exact ⟨129, by subst h6; rfl⟩
      · exact ⟨op.toNat + 80, by unfold doOf; rw [if_neg (by omega), if_neg h6, if_pos (by omega)]⟩
    exact S_c112 (doesOf_spec hf (by omega) (K1 _ T w (Ext.refl _) (.inr (.inr (.inr ⟨f, hf, rfl⟩))) h))
end
end Go.Proofs.YtebmnfmiphbgdaaGreatDoor
namespace Go.Proofs.YtebmnfmiphbgdaaGreatDoor
open Go.Sh
structure PS.Ok (s : PS) : Prop where
  ds : ∀ x ∈ s.ds, isC x
  dl : s.ds.length ≤ 256
  rs : ∀ c ∈ s.rs, isC c.2
  rl : s.rs.length ≤ 128
  mem : s.mem.Ok
section
variable {w w0 : World} {Kp : KP} {K : K0} {B : Nat} {T : Store} {k d r m td tr : Nat} {s : PS}
theorem act_eq {pre x : List Int} {op : Int} (hs : s.ds = pre ++ x) (hx : (inOf op).toNat = x.length) : primAct op s = ⟨pre ++ puts op x s, retsOf op x s.rs, memOf op x s.mem⟩ := by
  unfold primAct
  have e : s.ds.length - (inOf op).toNat = pre.length := by rw [hs, hx]; simp
  simp only [e]
  simp only [hs, List.take_left, List.drop_left]
theorem split1 {l : List Int} (h : 1 ≤ l.length) : ∃ pre a, l = pre ++ [a] := ⟨l.dropLast, l.getLast (by intro e; subst e; simp at h), (List.dropLast_concat_getLast _).symm⟩
theorem split2 {l : List Int} (h : 2 ≤ l.length) : ∃ pre a b, l = pre ++ [a, b] := by
  obtain ⟨p, b, rfl⟩ := split1 (l := l) (by omega)
  obtain ⟨q, a, rfl⟩ := split1 (l := p) (by simp at h; omega)
  exact ⟨q, a, b, by simp⟩
theorem split3 {l : List Int} (h : 3 ≤ l.length) : ∃ pre a b c, l = pre ++ [a, b, c] := by
  obtain ⟨p, b, c, rfl⟩ := split2 (l := l) (by omega)
  obtain ⟨q, a, rfl⟩ := split1 (l := p) (by simp at h; omega)
  exact ⟨q, a, b, c, by simp⟩
theorem len2 {l : List Int} (h : l.length = 2) : ∃ a b, l = [a, b] := by
  match l, h with
  | [a, b], _ => exact ⟨a, b, rfl⟩
theorem len3 {l : List Int} (h : l.length = 3) : ∃ a b c, l = [a, b, c] := by
  match l, h with
  | [a, b, c], _ => exact ⟨a, b, c, rfl⟩
theorem fault0 {op : Int} (hop : plainOp op) (hf : primFault op s = 0) : inOf op ≤ s.ds.length ∧ outOf op + (s.ds.length - inOf op) ≤ 256 ∧ (Sh.seen op s.rs).2 = 0 ∧ s.rs.length + addsOf op ≤ 128 := by
  unfold primFault at hf
  rw [if_neg (by simpa using hop)] at hf
  split at hf; · omega
  split at hf; · omega
  split at hf; · rename_i h; exact absurd hf h
  split at hf; · omega
  rename_i h1 h2 h3 h4
  exact ⟨by omega, by omega, by simpa using h3, by omega⟩
theorem unOp_in {op : Int} (h : unOp op) : inOf op = 1 ∧ op ≠ 12 ∧ op ≠ 13 ∧ op ≠ 55 ∧ op ≠ 63 := by
  unfold unOp at h
  rcases (by omega : op = 28 ∨ op = 29 ∨ op = 32 ∨ op = 33 ∨ op = 34 ∨ op = 35 ∨ op = 39 ∨ op = 48 ∨ op = 49) with rfl | rfl | rfl | rfl | rfl | rfl | rfl | rfl | rfl <;> decide
theorem biOp_in {op : Int} (h : biOp op) : inOf op = 2 := by
  unfold biOp at h
  rcases (by omega : op = 21 ∨ op = 22 ∨ op = 23 ∨ op = 24 ∨ op = 25 ∨ op = 26 ∨ op = 27 ∨ op = 30 ∨ op = 31 ∨ op = 36 ∨ op = 37 ∨ op = 38 ∨ op = 40 ∨ op = 41 ∨ op = 42 ∨ op = 43 ∨ op = 44 ∨ op = 45 ∨ op = 46 ∨ op = 47) with rfl | rfl | rfl | rfl | rfl | rfl | rfl | rfl | rfl | rfl | rfl | rfl | rfl | rfl | rfl | rfl | rfl | rfl | rfl | rfl <;> decide
theorem shuf_fits {op : Int} {n : Nat} {ps : List Nat} (h : shufT op = some (n, ps)) : inOf op = n ∧ (∀ p ∈ ps, p < n) ∧ outOf op = ps.length ∧ (∀ x s, x.length = n → puts op x s = ps.map fun p => x.getD p 0) ∧ (∀ x rs, x.length = n → retsOf op x rs = rs) ∧ (∀ x M, x.length = n → memOf op x M = M) := by
  unfold shufT at h
  repeat' split at h
  all_goals (first | (cases h; done) | skip)
  all_goals (
    rename_i e
    subst e
    simp only [Option.some.injEq, Prod.mk.injEq] at h
    obtain ⟨rfl, rfl⟩ := h)
  all_goals refine ⟨by decide, by decide, by decide, fun x s hx => ?_, fun x rs hx => ?_, fun x M hx => ?_⟩
  all_goals (first
    | (obtain ⟨a, rfl⟩ := List.length_eq_one_iff.1 hx; rfl)
    | (obtain ⟨a, b, rfl⟩ := len2 hx; rfl)
    | (obtain ⟨a, b, c, rfl⟩ := len3 hx; rfl))
theorem act_spec {op : Int} {fv : Value} (F : FV T d r m op fv) (D : Dk T k d r m) (h : Rep B w0 (upS T td tr d r m s) w) (hop : plainOp op) (hf : primFault op s = 0) (ok : PS.Ok s) (ht : s.mem.tones.length ≤ 90000)
    (K1 : ∀ w', Rep B w0 (upS T td tr d r m (primAct op s)) w' → K (.tuple #[]) w') : S P (vcall fv #[ptr k 0]) w Kp K := by
  obtain ⟨f1, f2, f3, f4⟩ := fault0 hop hf
  have hdl := ok.dl
  have hrl := ok.rl
  rcases F with ⟨hu, c, rfl, hc⟩ | ⟨hb, c, rfl, hc⟩ | ⟨n, ps, hs, c1, c2, pv, rfl, hc1, hc2, hp⟩ | ⟨f, hdo, rfl⟩
  · obtain ⟨i1, i2, i3, i4, i5⟩ := unOp_in hu
    obtain ⟨pre, a, hs⟩ := split1 (l := s.ds) (by omega)
    have ha : isC a := ok.ds a (by rw [hs]; simp)
    obtain ⟨z, hz⟩ : ∃ z, unary op a = some z := by
      have := unary_isSome op a
      rw [decide_eq_true hu] at this
      exact Option.isSome_iff_exists.1 this
    rw [act_eq hs (by rw [i1]; rfl)] at K1
    have e1 : puts op [a] s = [z] := by
      have h0 : shufOf op [a] = none := by
        show (if op = 12 then _ else if op = 13 then _ else _) = _
        rw [if_neg i2, if_neg i3]
      unfold puts
      rw [h0]
      show (match unary op a with | some z => [z] | none => _) = _
      rw [hz]
    have e2 : retsOf op [a] s.rs = s.rs := if_neg i4
    have e3 : memOf op [a] s.mem = s.mem := if_neg i5
    rw [e1, e2, e3] at K1
    exact S_c122 (one_spec D hc h hs hdl ha hz K1)
  · have i1 := biOp_in hb
    obtain ⟨pre, a, b, hs⟩ := split2 (l := s.ds) (by omega)
    have ha : isC a := ok.ds a (by rw [hs]; simp)
    have hb' : isC b := ok.ds b (by rw [hs]; simp)
    obtain ⟨z, hz⟩ : ∃ z, binary op a b = some z := by
      have := binary_isSome op a b
      rw [decide_eq_true hb] at this
      exact Option.isSome_iff_exists.1 this
    rw [act_eq hs (by rw [i1]; rfl)] at K1
    unfold biOp at hb
    have e1 : puts op [a, b] s = [z] := by
      have h0 : shufOf op [a, b] = none := by
        show (if op = 14 then _ else if op = 15 then _ else if op = 17 then _ else if op = 18 then _ else if op = 19 then _ else if op = 20 then _ else _) = _
        rw [if_neg (by omega), if_neg (by omega), if_neg (by omega), if_neg (by omega), if_neg (by omega), if_neg (by omega)]
      unfold puts
      rw [h0]
      show (match binary op a b with | some z => [z] | none => _) = _
      rw [hz]
    have e2 : retsOf op [a, b] s.rs = s.rs := if_neg (by omega)
    have e3 : memOf op [a, b] s.mem = s.mem := by
      show (if op = 51 then _ else if op = 53 then _ else if op = 54 then _ else if op = 62 then _ else _) = _
      rw [if_neg (by omega), if_neg (by omega), if_neg (by omega), if_neg (by omega)]
    rw [e1, e2, e3] at K1
    exact S_c126 (two_spec D hc h hs hdl ha hb' hz K1)
  · obtain ⟨i1, i2, i3, i4, i5, i6⟩ := shuf_fits hs
    have hsp : s.ds = s.ds.take (s.ds.length - n) ++ s.ds.drop (s.ds.length - n) := (List.take_append_drop _ _).symm
    have hln : (s.ds.drop (s.ds.length - n)).length = n := by rw [List.length_drop]; omega
    rw [act_eq hsp (by rw [i1, hln]; rfl), i4 _ _ hln, i5 _ _ hln, i6 _ _ hln] at K1
    exact S_c127 (shuffle1_spec D hc1 hc2 hp h hsp hln hdl i2 (by rw [List.length_take]; omega) K1)
  · rcases doOf_eq hdo with ⟨rfl, rfl⟩ | ⟨rfl, rfl⟩ | ⟨h50, rfl⟩
    · rw [act_eq (pre := s.ds) (x := []) (by simp) rfl] at K1
      refine S_c110 (doNothing_spec h (fun w' h' => K1 w' ?_))
      show Rep B w0 (upS T td tr d r m ⟨s.ds ++ [], s.rs, s.mem⟩) w'
      rw [List.append_nil]; exact h'
    · obtain ⟨pre, a, b, hs⟩ := split2 (l := s.ds) (by have : inOf 6 = 2 := rfl; omega)
      rw [act_eq hs rfl] at K1
      refine S_c129 (doDo_spec D h hs hdl (by have : addsOf 6 = 2 := rfl; omega) (fun w' h' => K1 w' ?_))
      show Rep B w0 (upS T td tr d r m ⟨pre ++ [], _, s.mem⟩) w'
      rw [List.append_nil]; exact h'
    · have e0 : ∀ {ds : List Int} {rs : List RC2} {M : Mem} {w' : World}, Rep B w0 (upS T td tr d r m ⟨ds, rs, M⟩) w' → Rep B w0 (upS T td tr d r m ⟨ds ++ [], rs, M⟩) w' := fun h => by rw [List.append_nil]; exact h
      have one : ∀ {op : Int}, inOf op = 1 → inOf op ≤ s.ds.length → ∃ pre a, s.ds = pre ++ [a] ∧ isC a := fun h1 h2 => by
        obtain ⟨pre, a, hs⟩ := split1 (l := s.ds) (by omega)
        exact ⟨pre, a, hs, ok.ds a (by rw [hs]; simp)⟩
      have two : ∀ {op : Int}, inOf op = 2 → inOf op ≤ s.ds.length → ∃ pre a b, s.ds = pre ++ [a, b] ∧ isC a ∧ isC b := fun h1 h2 => by
        obtain ⟨pre, a, b, hs⟩ := split2 (l := s.ds) (by omega)
        exact ⟨pre, a, b, hs, ok.ds a (by rw [hs]; simp), ok.ds b (by rw [hs]; simp)⟩
      have lt : ∀ {op : Int}, outOf op + (s.ds.length - inOf op) ≤ 256 → outOf op = 1 → inOf op = 0 → s.ds.length < 256 := fun a b c => by omega
      rcases (by omega : op = 50 ∨ op = 51 ∨ op = 52 ∨ op = 53 ∨ op = 54 ∨ op = 55 ∨ op = 56 ∨ op = 57 ∨ op = 58 ∨ op = 59 ∨ op = 60 ∨ op = 61 ∨ op = 62 ∨ op = 63) with rfl | rfl | rfl | rfl | rfl | rfl | rfl | rfl | rfl | rfl | rfl | rfl | rfl | rfl
      · obtain ⟨pre, a, hs, ha⟩ := one rfl f1
        rw [act_eq hs rfl] at K1
        exact S_c130 (doFetch_spec D h hs hdl ha K1)
      · obtain ⟨pre, a, b, hs, ha, hb⟩ := two rfl f1
        rw [act_eq hs rfl] at K1
        exact S_c131 (doStore_spec D h hs hdl ha hb ht (fun w' h' => K1 w' (e0 h')))
      · obtain ⟨pre, a, hs, ha⟩ := one rfl f1
        rw [act_eq hs rfl] at K1
        exact S_c132 (doByte_spec D h hs hdl ha ok.mem K1)
      · obtain ⟨pre, a, b, hs, ha, hb⟩ := two rfl f1
        rw [act_eq hs rfl] at K1
        exact S_c133 (doPut_spec D h hs hdl ha hb ht (fun w' h' => K1 w' (e0 h')))
      · obtain ⟨pre, a, b, hs, ha, hb⟩ := two rfl f1
        rw [act_eq hs rfl] at K1
        exact S_c134 (doMore_spec D h hs hdl ha hb ok.mem ht (fun w' h' => K1 w' (e0 h')))
      · obtain ⟨pre, a, hs, ha⟩ := one rfl f1
        rw [act_eq hs rfl] at K1
        exact S_c135 (doSave_spec D h hs hdl (by have : addsOf 55 = 1 := rfl; omega) (fun w' h' => K1 w' (e0 h')))
      · rw [act_eq (pre := s.ds) (x := []) (by simp) rfl] at K1
        exact S_c136 (doBack_spec D h (lt f2 rfl rfl) hrl f3 K1)
      · rw [act_eq (pre := s.ds) (x := []) (by simp) rfl] at K1
        refine S_c137 (F137_calls ?_)
        unfold F137
        exact S_c151 (sees_spec D h (lt f2 rfl rfl) hrl (by omega) K1)
      · rw [act_eq (pre := s.ds) (x := []) (by simp) rfl] at K1
        refine S_c138 (F138_calls ?_)
        unfold F138
        exact S_c151 (sees_spec D h (lt f2 rfl rfl) hrl (by omega) K1)
      · rw [act_eq (pre := s.ds) (x := []) (by simp) rfl] at K1
        refine S_c139 (F139_calls ?_)
        unfold F139
        exact S_c151 (sees_spec D h (lt f2 rfl rfl) hrl (by omega) K1)
      · obtain ⟨pre, a, b, c, hs⟩ := split3 (l := s.ds) (by have : inOf 60 = 3 := rfl; omega)
        rw [act_eq hs rfl] at K1
        exact S_c140 (doPlot_spec D h hs hdl (ok.ds a (by rw [hs]; simp)) (ok.ds b (by rw [hs]; simp)) (ok.ds c (by rw [hs]; simp)) ht (fun w' h' => K1 w' (e0 h')))
      · rw [act_eq (pre := s.ds) (x := []) (by simp) rfl] at K1
        exact S_c141 (doPad_spec D h (lt f2 rfl rfl) ok.mem K1)
      · obtain ⟨pre, a, b, hs, ha, hb⟩ := two rfl f1
        rw [act_eq hs rfl] at K1
        exact S_c142 (doTone_spec D h hs hdl ha hb ht (fun w' h' => K1 w' (e0 h')))
      · obtain ⟨pre, a, hs, ha⟩ := one rfl f1
        rw [act_eq hs rfl] at K1
        exact S_c143 (doBank_spec D h hs hdl ha ht (fun w' h' => K1 w' (e0 h')))
end
end Go.Proofs.YtebmnfmiphbgdaaGreatDoor
namespace Go.Proofs.YtebmnfmiphbgdaaGreatDoor
open Go.Sh
section
variable {w w0 : World} {Kp : KP} {K : K0} {B : Nat} {T : Store} {k d r m td tr : Nat} {s : PS}
theorem plain_spec {op : Int} (K1 : K (.bool (decide (plainOp op))) w) : Calls P 11 #[i64 op] w (EndsS Kp K) := by
  refine F11_calls ?_
  unfold F11
  repeat' (with_reducible first
    | refine GS_t ?_
    | refine GS_f ?_
    | refine GS_t' ?_
    | refine GS_f' ?_
    | refine GS_u ?_
    | refine S_eql (fun hc => ?_) (fun hc => ?_)
    | refine S_geq (fun hc => ?_) (fun hc => ?_)
    | refine S_lss (fun hc => ?_) (fun hc => ?_)
    | (apply S_R; first | exact R_move _ | exact R_pick_t _ _ | exact R_pick_f _ _))
  all_goals first
    | (rw [decide_eq_true (show plainOp op by unfold plainOp; omega)] at K1; exact K1)
    | (rw [decide_eq_false (show ¬ plainOp op by unfold plainOp; omega)] at K1; exact K1)
theorem adds_spec {op : Int} (K1 : K (i64 (addsOf op)) w) : Calls P 45 #[i64 op] w (EndsS Kp K) := by
  refine F45_calls ?_
  unfold F45
  unfold addsOf at K1
  by_cases h1 : op = 55
  · rw [if_pos h1] at K1
    repeat' (with_reducible first
      | refine C_t ?_
      | refine S_eql_t (by omega) ?_)
    exact K1
  · rw [if_neg h1] at K1
    by_cases h2 : op = 6
    · rw [if_pos h2] at K1
      repeat' (with_reducible first
        | refine C_t ?_
        | refine C_f ?_
        | refine S_eql_t (by omega) ?_
        | refine S_eql_f (by omega) ?_)
      exact K1
    · rw [if_neg h2] at K1
      repeat' (with_reducible first
        | refine C_f ?_
        | refine S_eql_f (by omega) ?_)
      exact K1
theorem looks_spec {op : Int} (D : Tri d r m) (h : Rep B w0 (upS T td tr d r m s) w) (hr : s.rs.length ≤ 128) (K1 : ∀ w', Rep B w0 (upS T td tr d r m s) w' → K (i64 (Sh.seen op s.rs).2) w') : Calls P 43 #[i64 op, ptr r 0] w (EndsS Kp K) := by
  have hT : upS T td tr d r m s r = some (rets tr s.rs) := by unfold upS; rw [upT_ne D.rm]; exact upT_same ..
  refine F43_calls ?_
  unfold F43 J
  unfold Sh.seen at K1
  by_cases h1 : op = 56 ∨ op = 57
  · rw [if_pos h1] at K1
    rcases h1 with rfl | rfl
    · repeat' (with_reducible first
   | refine C_t ?_
   | refine S_eql_t (by omega) ?_)
      try simp (decide := true) only [upd_hit, upd_miss]
      refine C_t (S_c75 (at_spec h hT (by omega) (by omega) (fun w' h' => ?_)))
      repeat' (with_reducible (apply S_R; first | exact R_ext2_0 | exact R_ext2_1))
      exact K1 w' h'
    · repeat' (with_reducible first
   | refine C_f ?_
   | refine S_eql_t (by omega) ?_
   | refine S_eql_f (by omega) ?_)
      try simp (decide := true) only [upd_hit, upd_miss]
      refine C_t (S_c75 (at_spec h hT (by omega) (by omega) (fun w' h' => ?_)))
      repeat' (with_reducible (apply S_R; first | exact R_ext2_0 | exact R_ext2_1))
      exact K1 w' h'
  · rw [if_neg h1] at K1
    by_cases h2 : op = 58
    · rw [if_pos h2] at K1
      repeat' (with_reducible first
        | refine C_f ?_
        | refine S_eql_f (by omega) ?_)
      try simp (decide := true) only [upd_hit, upd_miss]
      repeat' (with_reducible first
        | refine C_t ?_
        | refine C_f ?_
        | refine S_eql_t (by omega) ?_)
      refine (S_c75 (at_spec h hT (by omega) (by omega) (fun w' h' => ?_)))
      repeat' (with_reducible (apply S_R; first | exact R_ext2_0 | exact R_ext2_1))
      exact K1 w' h'
    · rw [if_neg h2] at K1
      by_cases h3 : op = 59
      · rw [if_pos h3] at K1
        repeat' (with_reducible first
          | refine C_f ?_
          | refine S_eql_f (by omega) ?_)
        try simp (decide := true) only [upd_hit, upd_miss]
        repeat' (with_reducible first
          | refine C_t ?_
          | refine C_f ?_
          | refine S_eql_t (by omega) ?_
          | refine S_eql_f (by omega) ?_)
        refine (S_c75 (at_spec h hT (by omega) (by omega) (fun w' h' => ?_)))
        repeat' (with_reducible (apply S_R; first | exact R_ext2_0 | exact R_ext2_1))
        exact K1 w' h'
      · rw [if_neg h3] at K1
        repeat' (with_reducible first
          | refine C_f ?_
          | refine S_eql_f (by omega) ?_)
        try simp (decide := true) only [upd_hit, upd_miss]
        repeat' (with_reducible first
          | refine C_f ?_
          | refine S_eql_f (by omega) ?_)
        exact K1 w h
theorem R_b92 {op : Int} {fv : Value} (F : fv.oneCell' = true) : R P (vbuild 92 #[(0, .agg (primCells op)), (1, fv)]) (.agg (primCells op ++ #[fv])) := by
  unfold primCells
  cases fv <;> first | (cases F; done) | exact ⟨fun w => by kernel_rfl⟩
theorem entry_one {op : Int} {fv : Value} (h : fv.oneCell' = true) : (primCells op ++ #[fv]).toList.all (·.oneCell') = true := by
  rw [Array.toList_append, List.all_append]
  simp only [List.all_cons, List.all_nil, h]
  rfl
theorem FV.one {op : Int} {fv : Value} (F : FV T d r m op fv) : fv.oneCell' = true := by
  rcases F with ⟨_, c, rfl, _⟩ | ⟨_, c, rfl, _⟩ | ⟨n, ps, _, c1, c2, pv, rfl, _⟩ | ⟨f, _, rfl⟩ <;> rfl
theorem S_allocU {t : TypeId} {z : Value} (hz : (P.info? t).bind (·.zero) = some z) (D : Tri d r m) (h : Rep B w0 (upS T td tr d r m s) w) (K1 : ∀ b w', T b = none → Cap (upT T b (raw z.cells t)) b d r m z.cells t → Rep B w0 (upS (upT T b (raw z.cells t)) td tr d r m s) w' → K (ptr b 0) w') : S P (valloc t) w Kp K :=
  S_allocR hz h (fun b w' hb h' => by
    obtain ⟨n1, n2, n3, hTb⟩ := fresh_tri D hb
    rw [upS_up n1 n2 n3] at h'
    exact K1 b w' hTb ⟨upT_same .., n1, n2, n3⟩ h')
theorem upS_ext {T' : Store} (e : Ext T T') : Ext (upS T td tr d r m s) (upS T' td tr d r m s) := by
  unfold upS; exact ((e.up _ _).up _ _).up _ _
theorem Rep.storeU {b t : Nat} {cs cs' : Array Value} (h : Rep B w0 (upS (upT T b (raw cs t)) td tr d r m s) w) (n : b ≠ d ∧ b ≠ r ∧ b ≠ m) : Rep B w0 (upS (upT T b (raw cs' t)) td tr d r m s) (w.setRow b cs') := by
  have := h.setRaw (cs' := cs') (b := b) (by rw [upS_other n.1 n.2.1 n.2.2]; exact upT_same ..)
  rw [upS_up n.1 n.2.1 n.2.2, upT_upT] at this
  exact this
theorem raw_inj (w : World) {cs cs' : Array Value} {t t' : Nat} (h : raw cs t = raw cs' t') : t = t' ∧ cs = cs' := by
  have h1 : (raw cs t).rep 0 [0] { w with heap := #[.cells cs t (0, 0)] } := ⟨rfl, rfl⟩
  rw [h] at h1
  have h2 := h1.2
  simp at h2
  exact ⟨h2.2, h2.1⟩
theorem FV.over {op : Int} {fv : Value} {b t : Nat} {cs cs' : Array Value} (w : World) (F : FV T d r m op fv) (hb : T b = some (raw cs t)) (h3 : t ≠ 3) (h25 : t ≠ 25) : FV (upT T b (raw cs' t)) d r m op fv := by
  have ne : ∀ {c t' : Nat} {cs1 : Array Value}, Cap T c d r m cs1 t' → t' = 3 ∨ t' = 25 → b ≠ c := fun C ht e => by
    rw [← e] at C
    have := C.at_
    rw [hb, Option.some.injEq] at this
    have := (raw_inj w this).1
    omega
  rcases F with ⟨h1, c, h2, h3⟩ | ⟨h1, c, h2, h3⟩ | ⟨n, ps, h1, c1, c2, pv, h2, h3, h4, h5⟩ | h
  · exact .inl ⟨h1, c, h2, h3.up (ne h3 (.inl rfl))⟩
  · exact .inr (.inl ⟨h1, c, h2, h3.up (ne h3 (.inl rfl))⟩)
  · exact .inr (.inr (.inl ⟨n, ps, h1, c1, c2, pv, h2, h3.up (ne h3 (.inl rfl)), h4.up (ne h4 (.inr rfl)), by
      rcases h5 with h5 | ⟨p, h5, h6⟩
      · exact .inl h5
      · exact .inr ⟨p, h5, h6.up (ne h6 (.inl rfl))⟩⟩))
  · exact .inr (.inr (.inr h))
theorem Ext.over {T' : Store} {b : Nat} {o o' : Ob} (h : Ext (upT T b o) T') (hb : T b = none) : Ext T (upT T' b o') := fun j x hj => by
  have hne : j ≠ b := fun e => by rw [e, hb] at hj; cases hj
  rw [upT_ne hne]
  exact h j x (by rw [upT_ne hne]; exact hj)
theorem entry_spec {op : Int} (hop : plainOp op) (D : Tri d r m) (h : Rep B w0 (upS T td tr d r m s) w) (hB : 4 ≤ B) (ht : Tabs w0)
    (K1 : ∀ fv T' w', Ext T T' → FV T' d r m op fv → Rep B w0 (upS T' td tr d r m s) w' → K (.agg (primCells op ++ #[fv])) w') : Calls P 41 #[i64 op] w (EndsS Kp K) := by
  refine F41_calls ?_
  unfold F41
  refine S_allocU zr92 D h (fun b w1 hb hc h1 => ?_)
  refine S_c52 (primOf_spec (by unfold plainOp at hop; omega) h1 hB ht (fun w2 h2 => ?_))
  refine S_c73 (does_spec hop D h2 (fun fv T' w3 hx hF h3 => ?_))
  refine S_R (R_b92 hF.one) ?_
  have hTb : T' b = some (raw (Value.agg #[Value.int .i64 0, Value.string ⟨#[]⟩, Value.int .i64 0, Value.int .i64 0, Value.int .i64 0, Value.bool false, Value.nilFunc]).cells 92) := hx _ _ hc.at_
  have hbc := h3.raw (d := b) (by rw [upS_other hc.cd hc.cr hc.cm]; exact hTb)
  refine S_storeRow sz92 hbc (by rw [Array.size_append]; rfl) (entry_one hF.one) ?_
  have e : upT T' b (raw (Value.agg #[Value.int .i64 0, Value.string ⟨#[]⟩, Value.int .i64 0, Value.int .i64 0, Value.int .i64 0, Value.bool false, Value.nilFunc]).cells 92) = T' := upT_eq hTb
  rw [← e] at h3
  have h4 := Rep.storeU (cs' := primCells op ++ #[fv]) h3 ⟨hc.cd, hc.cr, hc.cm⟩
  refine RC_rowR rw92 sz92 h4 (by rw [upS_other hc.cd hc.cr hc.cm]; exact upT_same ..) (by rw [Array.size_append]; rfl) ?_
  exact K1 _ _ _ (Ext.over hx hb) (hF.over w hTb (by decide) (by decide)) h4
def primDo (op : Int) (s : PS) : PS := if primFault op s = 0 then primAct op s else s
theorem R_b99 (a b c e f g : Nat) : R P (vbuild 99 #[(0, ptr a b), (1, ptr c e), (2, ptr f g)]) (.agg #[ptr a b, ptr c e, ptr f g]) := ⟨fun w => by kernel_rfl⟩
theorem do_spec {op : Int} (D : Tri d r m) (h : Rep B w0 (upS T td tr d r m s) w) (hB : 4 ≤ B) (ht : Tabs w0) (ok : PS.Ok s) (htn : s.mem.tones.length ≤ 90000)
    (K1 : ∀ w', Rep B w0 (upS T td tr d r m (primDo op s)) w' → K (i64 (primFault op s)) w') : Calls P 10 #[i64 op, ptr d 0, ptr r 0, ptr m 0] w (EndsS Kp K) := by
  have hdl := ok.dl
  have hrl := ok.rl
  have hsm := small_tab (op := op)
  have hD : ∀ {T : Store}, upS T td tr d r m s d = some (datas td s.ds) := by intro T; unfold upS; rw [upT_ne D.dm, upT_ne D.dr]; exact upT_same ..
  have hR : ∀ {T : Store}, upS T td tr d r m s r = some (rets tr s.rs) := by intro T; unfold upS; rw [upT_ne D.rm]; exact upT_same ..
  unfold primDo primFault at K1
  refine F10_calls ?_
  unfold F10
  refine S_c11 (plain_spec ?_)
  by_cases hop : plainOp op
  · rw [decide_eq_true hop]
    rw [if_neg (show ¬ ¬ plainOp op from fun h => h hop)] at K1
    repeat' (with_reducible first
      | refine C_f ?_
      | refine GS_f' ?_
      | (apply S_R; first | exact R_move _ | exact R_not_t | exact R_eqlp32 _ _ _ _ | exact R_pick_f _ _ | exact R_eqlp33 _ _ _ _ | exact R_eqlp34 _ _ _ _))
    refine S_c41 (entry_spec hop D h hB ht (fun fv T1 w1 hx hF h1 => ?_))
    refine S_allocU zr92 D h1 (fun b w2 hb hc h2 => ?_)
    have hbr := h2.raw (d := b) (by rw [upS_other hc.cd hc.cr hc.cm]; exact upT_same ..)
    refine S_storeRow sz92 hbr (by rw [Array.size_append]; rfl) (entry_one hF.one) ?_
    have h3 := Rep.storeU (cs' := primCells op ++ #[fv]) h2 ⟨hc.cd, hc.cr, hc.cm⟩
    have hb3 := h3.raw (d := b) (by rw [upS_other hc.cd hc.cr hc.cm]; exact upT_same ..)
    have a2 : At (primCells op ++ #[fv]) (0 + 2) (i64 (inOf op)) := ⟨by unfold primCells; rw [Array.getElem?_append_left (by show _ < 6; omega)]; rfl⟩
    have a3 : At (primCells op ++ #[fv]) (0 + 3) (i64 (outOf op)) := ⟨by unfold primCells; rw [Array.getElem?_append_left (by show _ < 6; omega)]; rfl⟩
    have a6 : At (primCells op ++ #[fv]) (0 + 6) fv := ⟨by unfold primCells; rw [Array.getElem?_append_right (by show 6 ≤ _; omega)]; rfl⟩
    repeat' (with_reducible first
      | refine S_loadX pl3 hb3 a2 ?_
      | refine S_loadX pl3 hb3 a3 ?_
      | (apply S_R; first | exact R_f92_0 _ _ | exact R_f43_2 _ _ | exact R_f43_3 _ _))
    refine S_c42 (need_spec h3 hD (by omega) (by omega) (by omega) (fun f hf => ?_))
    have hext : Ext T (upT T1 b (raw (primCells op ++ #[fv]) 92)) := hx.trans (Ext.new hb)
    have same : ∀ {w' : World} {c : Int}, c ≠ 0 → Rep B w0 (upS (upT T1 b (raw (primCells op ++ #[fv]) 92)) td tr d r m s) w' → Rep B w0 (upS T td tr d r m (if c = 0 then primAct op s else s)) w' := fun hc h' => by
      rw [if_neg hc]; exact h'.ext (upS_ext hext)
    by_cases c1 : (s.ds.length : Int) < inOf op
    · rw [if_pos c1] at hf
      simp only [if_pos c1] at K1
      subst hf
      repeat' (with_reducible first
        | refine C_t ?_
        | refine S_neq_t (by omega) ?_)
      exact K1 _ (same (by decide) h3)
    rw [if_neg c1] at hf
    simp only [if_neg c1] at K1
    by_cases c2 : outOf op > 256 - ((s.ds.length : Int) - inOf op)
    · rw [if_pos c2] at hf
      simp only [if_pos c2] at K1
      subst hf
      repeat' (with_reducible first
        | refine C_t ?_
        | refine S_neq_t (by omega) ?_)
      exact K1 _ (same (by decide) h3)
    rw [if_neg c2] at hf
    simp only [if_neg c2] at K1
    subst hf
    repeat' (with_reducible first
      | refine C_f ?_
      | refine S_neq_f (by omega) ?_)
    refine S_c43 (looks_spec D h3 hrl (fun w4 h4 => ?_))
    by_cases c3 : (Sh.seen op s.rs).2 ≠ 0
    · simp only [if_pos c3] at K1
      repeat' (with_reducible first
        | refine C_t ?_
        | refine S_neq_t (by omega) ?_)
      exact K1 _ (same c3 h4)
    simp only [if_neg c3] at K1
    have ha : 0 ≤ addsOf op ∧ addsOf op ≤ 2 := by
      unfold addsOf
      repeat' split
      all_goals omega
    repeat' (with_reducible first
      | refine C_f ?_
      | refine S_neq_f (by omega) ?_)
    refine S_c44 (lenR_spec h4 hR (S_c45 (adds_spec ?_)))
    by_cases c4 : (s.rs.length : Int) + addsOf op > 128
    · simp only [if_pos c4] at K1
      repeat' (with_reducible first
        | refine C_t ?_
        | refine S_gtr_t (by omega) ?_
        | (apply S_R; exact R_addi (by omega)))
      exact K1 _ (same (by decide) h4)
    simp only [if_neg c4] at K1
    have hb4 := h4.raw (d := b) (by rw [upS_other hc.cd hc.cr hc.cm]; exact upT_same ..)
    repeat' (with_reducible first
      | refine C_f ?_
      | refine S_loadX pl90 hb4 a6 ?_
      | refine S_gtr_f (by omega) ?_
      | (apply S_R; first | exact R_addi (by omega) | exact R_f92_1 _ _))
    refine S_R (R_b99 _ _ _ _ _ _) ?_
    refine S_boxU D h4 (fun k w5 hk hkc h5 => ?_)
    have hF2 := (hF.up (o := raw (primCells op ++ #[fv]) 92) hb).up (o := raw #[ptr d 0, ptr r 0, ptr m 0] 99) hk
    have hf0 : primFault op s = 0 := by
      unfold primFault
      rw [if_neg (fun h => h hop), if_neg c1, if_neg c2, if_neg c3, if_neg c4]
    refine act_spec hF2 ⟨hkc.at_, hkc.cd, hkc.cr, hkc.cm, D.dr, D.dm, D.rm⟩ h5 hop hf0 ok htn (fun w6 h6 => ?_)
    refine K1 w6 ?_
    rw [if_pos trivial]
    exact h6.ext (upS_ext (hext.trans (Ext.new hk)))
  · rw [decide_eq_false hop]
    rw [if_pos hop] at K1
    repeat' (with_reducible first
      | refine C_t ?_
      | refine GS_t' ?_
      | (apply S_R; first | exact R_not_f | exact R_pick_t _ _))
    exact K1 w (by rw [if_neg (by decide)]; exact h)
end
end Go.Proofs.YtebmnfmiphbgdaaGreatDoor
namespace Go.Proofs.YtebmnfmiphbgdaaGreatDoor
open Go.Sh
section
variable {w w0 : World} {Kp : KP} {K : K0} {B : Nat} {T : Store}
def zero43 : Array Value := #[i64 0, .string ⟨#[]⟩, i64 0, i64 0, i64 0, .bool false]
theorem row_fin {op : Int} {w1 : World} (g : Grow (w.alloc (.cells zero43 43)) w1) (K1 : ∀ w', Grow w w' → K (.agg (primCells op)) w') :
    S P (vstore 43 (ptr w.heap.size 0) (.agg (primCells op))) w1 Kp fun _ w' => RC P 43 (ptr w.heap.size 0) w' fun r => K r w' := by
  have hb : w1.heap[w.heap.size]? = some (.cells zero43 43 (0, 0)) := by rw [g.block _ (by simp)]; exact heap_alloc_new w _
  refine S_storeRow sz43 hb rfl rfl ?_
  refine RC_row rw43 sz43 (setRow_heap w1 _ _ _ 43 (0, 0) hb) rfl ?_
  exact K1 _ (Grow.setRow ((Grow.alloc w _).trans g) (Nat.le_refl _) _)
set_option maxHeartbeats 4000000 in
theorem lower_spec {op : Int} (hop : 1 ≤ op ∧ op ≤ 20) (K1 : ∀ w', Grow w w' → K (.agg (primCells op)) w') : Calls P 89 #[i64 op] w (EndsS Kp K) := by
  refine F89_calls ?_
  unfold F89
  refine S_alloc zr43 ?_
  have fin := row_fin (Kp := Kp) (Grow.refl (w.alloc (.cells zero43 43))) K1
  rcases (by omega : op = 1 ∨ op = 2 ∨ op = 3 ∨ op = 4 ∨ op = 5 ∨ op = 6 ∨ op = 7 ∨ op = 8 ∨ op = 9 ∨ op = 10 ∨ op = 11 ∨ op = 12 ∨ op = 13 ∨ op = 14 ∨ op = 15 ∨ op = 16 ∨ op = 17 ∨ op = 18 ∨ op = 19 ∨ op = 20) with rfl | rfl | rfl | rfl | rfl | rfl | rfl | rfl | rfl | rfl | rfl | rfl | rfl | rfl | rfl | rfl | rfl | rfl | rfl | rfl
  · repeat' (with_reducible first
   | refine C_t ?_
   | refine S_eql_t (by omega) ?_)
    exact S_R (v := .agg (primCells 1)) ⟨fun w => by kernel_rfl⟩ fin
  · repeat' (with_reducible first
   | refine C_t ?_
   | refine C_f ?_
   | refine S_eql_t (by omega) ?_
   | refine S_eql_f (by omega) ?_)
    exact S_R (v := .agg (primCells 2)) ⟨fun w => by kernel_rfl⟩ fin
  · repeat' (with_reducible first
   | refine C_t ?_
   | refine C_f ?_
   | refine S_eql_t (by omega) ?_
   | refine S_eql_f (by omega) ?_)
    exact S_R (v := .agg (primCells 3)) ⟨fun w => by kernel_rfl⟩ fin
  · repeat' (with_reducible first
   | refine C_t ?_
   | refine C_f ?_
   | refine S_eql_t (by omega) ?_
   | refine S_eql_f (by omega) ?_)
    exact S_R (v := .agg (primCells 4)) ⟨fun w => by kernel_rfl⟩ fin
  · repeat' (with_reducible first
   | refine C_t ?_
   | refine C_f ?_
   | refine S_eql_t (by omega) ?_
   | refine S_eql_f (by omega) ?_)
    exact S_R (v := .agg (primCells 5)) ⟨fun w => by kernel_rfl⟩ fin
  · repeat' (with_reducible first
   | refine C_t ?_
   | refine C_f ?_
   | refine S_eql_t (by omega) ?_
   | refine S_eql_f (by omega) ?_)
    exact S_R (v := .agg (primCells 6)) ⟨fun w => by kernel_rfl⟩ fin
  · repeat' (with_reducible first
   | refine C_t ?_
   | refine C_f ?_
   | refine S_eql_t (by omega) ?_
   | refine S_eql_f (by omega) ?_)
    exact S_R (v := .agg (primCells 7)) ⟨fun w => by kernel_rfl⟩ fin
  · repeat' (with_reducible first
   | refine C_t ?_
   | refine C_f ?_
   | refine S_eql_t (by omega) ?_
   | refine S_eql_f (by omega) ?_)
    exact S_R (v := .agg (primCells 8)) ⟨fun w => by kernel_rfl⟩ fin
  · repeat' (with_reducible first
   | refine C_t ?_
   | refine C_f ?_
   | refine S_eql_t (by omega) ?_
   | refine S_eql_f (by omega) ?_)
    exact S_R (v := .agg (primCells 9)) ⟨fun w => by kernel_rfl⟩ fin
  · repeat' (with_reducible first
   | refine C_t ?_
   | refine C_f ?_
   | refine S_eql_t (by omega) ?_
   | refine S_eql_f (by omega) ?_)
    exact S_R (v := .agg (primCells 10)) ⟨fun w => by kernel_rfl⟩ fin
  · repeat' (with_reducible first
   | refine C_t ?_
   | refine C_f ?_
   | refine S_eql_t (by omega) ?_
   | refine S_eql_f (by omega) ?_)
    exact S_R (v := .agg (primCells 11)) ⟨fun w => by kernel_rfl⟩ fin
  · repeat' (with_reducible first
   | refine C_t ?_
   | refine C_f ?_
   | refine S_eql_t (by omega) ?_
   | refine S_eql_f (by omega) ?_)
    exact S_R (v := .agg (primCells 12)) ⟨fun w => by kernel_rfl⟩ fin
  · repeat' (with_reducible first
   | refine C_t ?_
   | refine C_f ?_
   | refine S_eql_t (by omega) ?_
   | refine S_eql_f (by omega) ?_)
    exact S_R (v := .agg (primCells 13)) ⟨fun w => by kernel_rfl⟩ fin
  · repeat' (with_reducible first
   | refine C_t ?_
   | refine C_f ?_
   | refine S_eql_t (by omega) ?_
   | refine S_eql_f (by omega) ?_)
    exact S_R (v := .agg (primCells 14)) ⟨fun w => by kernel_rfl⟩ fin
  · repeat' (with_reducible first
   | refine C_t ?_
   | refine C_f ?_
   | refine S_eql_t (by omega) ?_
   | refine S_eql_f (by omega) ?_)
    exact S_R (v := .agg (primCells 15)) ⟨fun w => by kernel_rfl⟩ fin
  · repeat' (with_reducible first
   | refine C_t ?_
   | refine C_f ?_
   | refine S_eql_t (by omega) ?_
   | refine S_eql_f (by omega) ?_)
    exact S_R (v := .agg (primCells 16)) ⟨fun w => by kernel_rfl⟩ fin
  · repeat' (with_reducible first
   | refine C_t ?_
   | refine C_f ?_
   | refine S_eql_t (by omega) ?_
   | refine S_eql_f (by omega) ?_)
    exact S_R (v := .agg (primCells 17)) ⟨fun w => by kernel_rfl⟩ fin
  · repeat' (with_reducible first
   | refine C_t ?_
   | refine C_f ?_
   | refine S_eql_t (by omega) ?_
   | refine S_eql_f (by omega) ?_)
    exact S_R (v := .agg (primCells 18)) ⟨fun w => by kernel_rfl⟩ fin
  · repeat' (with_reducible first
   | refine C_t ?_
   | refine C_f ?_
   | refine S_eql_t (by omega) ?_
   | refine S_eql_f (by omega) ?_)
    exact S_R (v := .agg (primCells 19)) ⟨fun w => by kernel_rfl⟩ fin
  · repeat' (with_reducible first
   | refine C_t ?_
   | refine C_f ?_
   | refine S_eql_t (by omega) ?_
   | refine S_eql_f (by omega) ?_)
    exact S_R (v := .agg (primCells 20)) ⟨fun w => by kernel_rfl⟩ fin
set_option maxHeartbeats 4000000 in
theorem middle_spec {op : Int} (hop : 21 ≤ op ∧ op ≤ 41) (K1 : ∀ w', Grow w w' → K (.agg (primCells op)) w') : Calls P 90 #[i64 op] w (EndsS Kp K) := by
  refine F90_calls ?_
  unfold F90
  refine S_alloc zr43 ?_
  have fin := row_fin (Kp := Kp) (Grow.refl (w.alloc (.cells zero43 43))) K1
  rcases (by omega : op = 21 ∨ op = 22 ∨ op = 23 ∨ op = 24 ∨ op = 25 ∨ op = 26 ∨ op = 27 ∨ op = 28 ∨ op = 29 ∨ op = 30 ∨ op = 31 ∨ op = 32 ∨ op = 33 ∨ op = 34 ∨ op = 35 ∨ op = 36 ∨ op = 37 ∨ op = 38 ∨ op = 39 ∨ op = 40 ∨ op = 41) with rfl | rfl | rfl | rfl | rfl | rfl | rfl | rfl | rfl | rfl | rfl | rfl | rfl | rfl | rfl | rfl | rfl | rfl | rfl | rfl | rfl
  · repeat' (with_reducible first
   | refine C_t ?_
   | refine S_eql_t (by omega) ?_)
    exact S_R (v := .agg (primCells 21)) ⟨fun w => by kernel_rfl⟩ fin
  · repeat' (with_reducible first
   | refine C_t ?_
   | refine C_f ?_
   | refine S_eql_t (by omega) ?_
   | refine S_eql_f (by omega) ?_)
    exact S_R (v := .agg (primCells 22)) ⟨fun w => by kernel_rfl⟩ fin
  · repeat' (with_reducible first
   | refine C_t ?_
   | refine C_f ?_
   | refine S_eql_t (by omega) ?_
   | refine S_eql_f (by omega) ?_)
    exact S_R (v := .agg (primCells 23)) ⟨fun w => by kernel_rfl⟩ fin
  · repeat' (with_reducible first
   | refine C_t ?_
   | refine C_f ?_
   | refine S_eql_t (by omega) ?_
   | refine S_eql_f (by omega) ?_)
    exact S_R (v := .agg (primCells 24)) ⟨fun w => by kernel_rfl⟩ fin
  · repeat' (with_reducible first
   | refine C_t ?_
   | refine C_f ?_
   | refine S_eql_t (by omega) ?_
   | refine S_eql_f (by omega) ?_)
    exact S_R (v := .agg (primCells 25)) ⟨fun w => by kernel_rfl⟩ fin
  · repeat' (with_reducible first
   | refine C_t ?_
   | refine C_f ?_
   | refine S_eql_t (by omega) ?_
   | refine S_eql_f (by omega) ?_)
    exact S_R (v := .agg (primCells 26)) ⟨fun w => by kernel_rfl⟩ fin
  · repeat' (with_reducible first
   | refine C_t ?_
   | refine C_f ?_
   | refine S_eql_t (by omega) ?_
   | refine S_eql_f (by omega) ?_)
    exact S_R (v := .agg (primCells 27)) ⟨fun w => by kernel_rfl⟩ fin
  · repeat' (with_reducible first
   | refine C_t ?_
   | refine C_f ?_
   | refine S_eql_t (by omega) ?_
   | refine S_eql_f (by omega) ?_)
    exact S_R (v := .agg (primCells 28)) ⟨fun w => by kernel_rfl⟩ fin
  · repeat' (with_reducible first
   | refine C_t ?_
   | refine C_f ?_
   | refine S_eql_t (by omega) ?_
   | refine S_eql_f (by omega) ?_)
    exact S_R (v := .agg (primCells 29)) ⟨fun w => by kernel_rfl⟩ fin
  · repeat' (with_reducible first
   | refine C_t ?_
   | refine C_f ?_
   | refine S_eql_t (by omega) ?_
   | refine S_eql_f (by omega) ?_)
    exact S_R (v := .agg (primCells 30)) ⟨fun w => by kernel_rfl⟩ fin
  · repeat' (with_reducible first
   | refine C_t ?_
   | refine C_f ?_
   | refine S_eql_t (by omega) ?_
   | refine S_eql_f (by omega) ?_)
    exact S_R (v := .agg (primCells 31)) ⟨fun w => by kernel_rfl⟩ fin
  · repeat' (with_reducible first
   | refine C_t ?_
   | refine C_f ?_
   | refine S_eql_t (by omega) ?_
   | refine S_eql_f (by omega) ?_)
    exact S_R (v := .agg (primCells 32)) ⟨fun w => by kernel_rfl⟩ fin
  · repeat' (with_reducible first
   | refine C_t ?_
   | refine C_f ?_
   | refine S_eql_t (by omega) ?_
   | refine S_eql_f (by omega) ?_)
    exact S_R (v := .agg (primCells 33)) ⟨fun w => by kernel_rfl⟩ fin
  · repeat' (with_reducible first
   | refine C_t ?_
   | refine C_f ?_
   | refine S_eql_t (by omega) ?_
   | refine S_eql_f (by omega) ?_)
    exact S_R (v := .agg (primCells 34)) ⟨fun w => by kernel_rfl⟩ fin
  · repeat' (with_reducible first
   | refine C_t ?_
   | refine C_f ?_
   | refine S_eql_t (by omega) ?_
   | refine S_eql_f (by omega) ?_)
    exact S_R (v := .agg (primCells 35)) ⟨fun w => by kernel_rfl⟩ fin
  · repeat' (with_reducible first
   | refine C_t ?_
   | refine C_f ?_
   | refine S_eql_t (by omega) ?_
   | refine S_eql_f (by omega) ?_)
    exact S_R (v := .agg (primCells 36)) ⟨fun w => by kernel_rfl⟩ fin
  · repeat' (with_reducible first
   | refine C_t ?_
   | refine C_f ?_
   | refine S_eql_t (by omega) ?_
   | refine S_eql_f (by omega) ?_)
    exact S_R (v := .agg (primCells 37)) ⟨fun w => by kernel_rfl⟩ fin
  · repeat' (with_reducible first
   | refine C_t ?_
   | refine C_f ?_
   | refine S_eql_t (by omega) ?_
   | refine S_eql_f (by omega) ?_)
    exact S_R (v := .agg (primCells 38)) ⟨fun w => by kernel_rfl⟩ fin
  · repeat' (with_reducible first
   | refine C_t ?_
   | refine C_f ?_
   | refine S_eql_t (by omega) ?_
   | refine S_eql_f (by omega) ?_)
    exact S_R (v := .agg (primCells 39)) ⟨fun w => by kernel_rfl⟩ fin
  · repeat' (with_reducible first
   | refine C_t ?_
   | refine C_f ?_
   | refine S_eql_t (by omega) ?_
   | refine S_eql_f (by omega) ?_)
    exact S_R (v := .agg (primCells 40)) ⟨fun w => by kernel_rfl⟩ fin
  · repeat' (with_reducible first
   | refine C_t ?_
   | refine C_f ?_
   | refine S_eql_t (by omega) ?_
   | refine S_eql_f (by omega) ?_)
    exact S_R (v := .agg (primCells 41)) ⟨fun w => by kernel_rfl⟩ fin
set_option maxHeartbeats 4000000 in
theorem upper_spec {op : Int} (hop : 42 ≤ op ∧ op ≤ 63) (K1 : ∀ w', Grow w w' → K (.agg (primCells op)) w') : Calls P 91 #[i64 op] w (EndsS Kp K) := by
  refine F91_calls ?_
  unfold F91
  refine S_alloc zr43 ?_
  have fin := row_fin (Kp := Kp) (Grow.refl (w.alloc (.cells zero43 43))) K1
  rcases (by omega : op = 42 ∨ op = 43 ∨ op = 44 ∨ op = 45 ∨ op = 46 ∨ op = 47 ∨ op = 48 ∨ op = 49 ∨ op = 50 ∨ op = 51 ∨ op = 52 ∨ op = 53 ∨ op = 54 ∨ op = 55 ∨ op = 56 ∨ op = 57 ∨ op = 58 ∨ op = 59 ∨ op = 60 ∨ op = 61 ∨ op = 62 ∨ op = 63) with rfl | rfl | rfl | rfl | rfl | rfl | rfl | rfl | rfl | rfl | rfl | rfl | rfl | rfl | rfl | rfl | rfl | rfl | rfl | rfl | rfl | rfl
  · repeat' (with_reducible first
   | refine C_t ?_
   | refine S_eql_t (by omega) ?_)
    exact S_R (v := .agg (primCells 42)) ⟨fun w => by kernel_rfl⟩ fin
  · repeat' (with_reducible first
   | refine C_t ?_
   | refine C_f ?_
   | refine S_eql_t (by omega) ?_
   | refine S_eql_f (by omega) ?_)
    exact S_R (v := .agg (primCells 43)) ⟨fun w => by kernel_rfl⟩ fin
  · repeat' (with_reducible first
   | refine C_t ?_
   | refine C_f ?_
   | refine S_eql_t (by omega) ?_
   | refine S_eql_f (by omega) ?_)
    exact S_R (v := .agg (primCells 44)) ⟨fun w => by kernel_rfl⟩ fin
  · repeat' (with_reducible first
   | refine C_t ?_
   | refine C_f ?_
   | refine S_eql_t (by omega) ?_
   | refine S_eql_f (by omega) ?_)
    exact S_R (v := .agg (primCells 45)) ⟨fun w => by kernel_rfl⟩ fin
  · repeat' (with_reducible first
   | refine C_t ?_
   | refine C_f ?_
   | refine S_eql_t (by omega) ?_
   | refine S_eql_f (by omega) ?_)
    exact S_R (v := .agg (primCells 46)) ⟨fun w => by kernel_rfl⟩ fin
  · repeat' (with_reducible first
   | refine C_t ?_
   | refine C_f ?_
   | refine S_eql_t (by omega) ?_
   | refine S_eql_f (by omega) ?_)
    exact S_R (v := .agg (primCells 47)) ⟨fun w => by kernel_rfl⟩ fin
  · repeat' (with_reducible first
   | refine C_t ?_
   | refine C_f ?_
   | refine S_eql_t (by omega) ?_
   | refine S_eql_f (by omega) ?_)
    exact S_R (v := .agg (primCells 48)) ⟨fun w => by kernel_rfl⟩ fin
  · repeat' (with_reducible first
   | refine C_t ?_
   | refine C_f ?_
   | refine S_eql_t (by omega) ?_
   | refine S_eql_f (by omega) ?_)
    exact S_R (v := .agg (primCells 49)) ⟨fun w => by kernel_rfl⟩ fin
  · repeat' (with_reducible first
   | refine C_t ?_
   | refine C_f ?_
   | refine S_eql_t (by omega) ?_
   | refine S_eql_f (by omega) ?_)
    exact S_R (v := .agg (primCells 50)) ⟨fun w => by kernel_rfl⟩ fin
  · repeat' (with_reducible first
   | refine C_t ?_
   | refine C_f ?_
   | refine S_eql_t (by omega) ?_
   | refine S_eql_f (by omega) ?_)
    exact S_R (v := .agg (primCells 51)) ⟨fun w => by kernel_rfl⟩ fin
  · repeat' (with_reducible first
   | refine C_t ?_
   | refine C_f ?_
   | refine S_eql_t (by omega) ?_
   | refine S_eql_f (by omega) ?_)
    exact S_R (v := .agg (primCells 52)) ⟨fun w => by kernel_rfl⟩ fin
  · repeat' (with_reducible first
   | refine C_t ?_
   | refine C_f ?_
   | refine S_eql_t (by omega) ?_
   | refine S_eql_f (by omega) ?_)
    exact S_R (v := .agg (primCells 53)) ⟨fun w => by kernel_rfl⟩ fin
  · repeat' (with_reducible first
   | refine C_t ?_
   | refine C_f ?_
   | refine S_eql_t (by omega) ?_
   | refine S_eql_f (by omega) ?_)
    exact S_R (v := .agg (primCells 54)) ⟨fun w => by kernel_rfl⟩ fin
  · repeat' (with_reducible first
   | refine C_t ?_
   | refine C_f ?_
   | refine S_eql_t (by omega) ?_
   | refine S_eql_f (by omega) ?_)
    exact S_R (v := .agg (primCells 55)) ⟨fun w => by kernel_rfl⟩ fin
  · repeat' (with_reducible first
   | refine C_t ?_
   | refine C_f ?_
   | refine S_eql_t (by omega) ?_
   | refine S_eql_f (by omega) ?_)
    exact S_R (v := .agg (primCells 56)) ⟨fun w => by kernel_rfl⟩ fin
  · repeat' (with_reducible first
   | refine C_t ?_
   | refine C_f ?_
   | refine S_eql_t (by omega) ?_
   | refine S_eql_f (by omega) ?_)
    exact S_R (v := .agg (primCells 57)) ⟨fun w => by kernel_rfl⟩ fin
  · repeat' (with_reducible first
   | refine C_t ?_
   | refine C_f ?_
   | refine S_eql_t (by omega) ?_
   | refine S_eql_f (by omega) ?_)
    exact S_R (v := .agg (primCells 58)) ⟨fun w => by kernel_rfl⟩ fin
  · repeat' (with_reducible first
   | refine C_t ?_
   | refine C_f ?_
   | refine S_eql_t (by omega) ?_
   | refine S_eql_f (by omega) ?_)
    exact S_R (v := .agg (primCells 59)) ⟨fun w => by kernel_rfl⟩ fin
  · repeat' (with_reducible first
   | refine C_t ?_
   | refine C_f ?_
   | refine S_eql_t (by omega) ?_
   | refine S_eql_f (by omega) ?_)
    exact S_R (v := .agg (primCells 60)) ⟨fun w => by kernel_rfl⟩ fin
  · repeat' (with_reducible first
   | refine C_t ?_
   | refine C_f ?_
   | refine S_eql_t (by omega) ?_
   | refine S_eql_f (by omega) ?_)
    exact S_R (v := .agg (primCells 61)) ⟨fun w => by kernel_rfl⟩ fin
  · repeat' (with_reducible first
   | refine C_t ?_
   | refine C_f ?_
   | refine S_eql_t (by omega) ?_
   | refine S_eql_f (by omega) ?_)
    exact S_R (v := .agg (primCells 62)) ⟨fun w => by kernel_rfl⟩ fin
  · repeat' (with_reducible first
   | refine C_t ?_
   | refine C_f ?_
   | refine S_eql_t (by omega) ?_
   | refine S_eql_f (by omega) ?_)
    exact S_R (v := .agg (primCells 63)) ⟨fun w => by kernel_rfl⟩ fin
theorem row_spec {op : Int} (hop : 1 ≤ op ∧ op ≤ 63) (K1 : ∀ w', Grow w w' → K (.agg (primCells op)) w') : Calls P 65 #[i64 op] w (EndsS Kp K) := by
  refine F65_calls ?_
  unfold F65
  refine S_alloc zr43 ?_
  have fin : ∀ w', Grow (w.alloc (.cells zero43 43)) w' → _ := fun w' h' => row_fin (Kp := Kp) h' K1
  by_cases c1 : op < 21
  · repeat' (with_reducible first
   | refine C_t ?_
   | refine S_lss_t (by omega) ?_)
    exact S_c89 (lower_spec (by omega) fin)
  by_cases c2 : op < 42
  · repeat' (with_reducible first
   | refine C_t ?_
   | refine C_f ?_
   | refine S_lss_t (by omega) ?_
   | refine S_lss_f (by omega) ?_)
    exact S_c90 (middle_spec (by omega) fin)
  · repeat' (with_reducible first
   | refine C_f ?_
   | refine S_lss_f (by omega) ?_)
    exact S_c91 (upper_spec (by omega) fin)
theorem rplain_spec {op : Int} (K1 : K (.bool (decide (plainOp op))) w) : Calls P 63 #[i64 op] w (EndsS Kp K) := by
  refine F63_calls ?_
  unfold F63
  repeat' (with_reducible first
    | refine GS_t ?_
    | refine GS_f ?_
    | refine GS_t' ?_
    | refine GS_f' ?_
    | refine GS_u ?_
    | refine S_eql (fun hc => ?_) (fun hc => ?_)
    | refine S_geq (fun hc => ?_) (fun hc => ?_)
    | refine S_leq (fun hc => ?_) (fun hc => ?_)
    | (apply S_R; first | exact R_move _ | exact R_pick_t _ _ | exact R_pick_f _ _))
  all_goals first
    | (rw [decide_eq_true (show plainOp op by unfold plainOp; omega)] at K1; exact K1)
    | (rw [decide_eq_false (show ¬ plainOp op by unfold plainOp; omega)] at K1; exact K1)
theorem rlooks_spec {op : Int} {rs : List RC2} {y t : Nat} (h : Rep B w0 T w) (hT : T y = some (rets t rs)) (hr : rs.length ≤ 128) (K1 : ∀ w', Rep B w0 T w' → K (.tuple #[u16 (Sh.seen op rs).1, i64 (Sh.seen op rs).2]) w') : Calls P 88 #[i64 op, ptr y 0] w (EndsS Kp K) := by
  refine F88_calls ?_
  unfold F88 J
  unfold Sh.seen at K1
  by_cases h1 : op = 56 ∨ op = 57
  · rw [if_pos h1] at K1
    rcases h1 with rfl | rfl
    · repeat' (with_reducible first
   | refine C_t ?_
   | refine S_eql_t (by omega) ?_)
      try simp (decide := true) only [upd_hit, upd_miss]
      refine C_t (S_c117 (rat_spec h hT (by omega) (by omega) (fun w' h' => ?_)))
      repeat' (with_reducible (apply S_R; first | exact R_ext2_0 | exact R_ext2_1))
      exact K1 w' h'
    · repeat' (with_reducible first
   | refine C_f ?_
   | refine S_eql_t (by omega) ?_
   | refine S_eql_f (by omega) ?_)
      try simp (decide := true) only [upd_hit, upd_miss]
      refine C_t (S_c117 (rat_spec h hT (by omega) (by omega) (fun w' h' => ?_)))
      repeat' (with_reducible (apply S_R; first | exact R_ext2_0 | exact R_ext2_1))
      exact K1 w' h'
  · rw [if_neg h1] at K1
    by_cases h2 : op = 58
    · rw [if_pos h2] at K1
      repeat' (with_reducible first
        | refine C_f ?_
        | refine S_eql_f (by omega) ?_)
      try simp (decide := true) only [upd_hit, upd_miss]
      repeat' (with_reducible first
        | refine C_t ?_
        | refine C_f ?_
        | refine S_eql_t (by omega) ?_)
      refine (S_c117 (rat_spec h hT (by omega) (by omega) (fun w' h' => ?_)))
      repeat' (with_reducible (apply S_R; first | exact R_ext2_0 | exact R_ext2_1))
      exact K1 w' h'
    · rw [if_neg h2] at K1
      by_cases h3 : op = 59
      · rw [if_pos h3] at K1
        repeat' (with_reducible first
          | refine C_f ?_
          | refine S_eql_f (by omega) ?_)
        try simp (decide := true) only [upd_hit, upd_miss]
        repeat' (with_reducible first
          | refine C_t ?_
          | refine C_f ?_
          | refine S_eql_t (by omega) ?_
          | refine S_eql_f (by omega) ?_)
        refine (S_c117 (rat_spec h hT (by omega) (by omega) (fun w' h' => ?_)))
        repeat' (with_reducible (apply S_R; first | exact R_ext2_0 | exact R_ext2_1))
        exact K1 w' h'
      · rw [if_neg h3] at K1
        repeat' (with_reducible first
          | refine C_f ?_
          | refine S_eql_f (by omega) ?_)
        try simp (decide := true) only [upd_hit, upd_miss]
        repeat' (with_reducible first
          | refine C_f ?_
          | refine S_eql_f (by omega) ?_)
        exact K1 w h
end
end Go.Proofs.YtebmnfmiphbgdaaGreatDoor
namespace Go.Proofs.YtebmnfmiphbgdaaGreatDoor
open Go.Sh
section
variable {w w0 : World} {Kp : KP} {K : K0} {B : Nat} {T : Store}
theorem S_bsN {n : Nat} {parts : Array (Nat × Value)} (xs : List Int) (hn : xs.length = n) (hn2 : n ≤ 1000)
    (hrun : ∀ w, (vbuildS 22 n parts).run P w = .ok (.value (sl w.heap.size 0 n n)) (w.alloc (.cells (xs.map u16).toArray 41)))
    (K1 : ∀ v w', New w w' 41 1 n (xs.map u16) v → K v w') : S P (vbuildS 22 n parts) w Kp K :=
  S_run (hrun w) (K1 _ _ (New.block (by simp [hn]) (by unfold maxLen; omega)))
theorem row_at {b i : Nat} {y : Int} {x : List Int} (h : Rep B w0 T w) (hb : T b = some (rowO 41 (x.map u16))) (hi : x[i]? = some y) : w.cell? ⟨b, 0 + (i : Int).toNat * 1, none⟩ = some (u16 y) := by
  rw [Nat.zero_add, Int.toNat_natCast, Nat.mul_one]
  exact h.row hb i _ (by rw [List.getElem?_map, hi]; rfl)
theorem shuffles_spec {op : Int} {n : Nat} {ps : List Nat} {x : List Int} {v : Value} (h : Rep B w0 T w) (hs : shufT op = some (n, ps)) (hx : x.length = n) (hv : OwnAt T 41 n (x.map u16) v)
    (K1 : ∀ v' w', New w w' 41 1 ps.length ((ps.map fun p => x.getD p 0).map u16) v' → K v' w') : Calls P 66 #[i64 op, v] w (EndsS Kp K) := by
  have hn0 : x ≠ [] := by
    intro e; subst e
    simp at hx; subst hx
    unfold shufT at hs
    repeat' split at hs
    all_goals (simp at hs)
  obtain ⟨b, c, rfl, hc, hb⟩ := hv.at (by simpa using hn0)
  have hat2 : ∀ {i : Nat} {y : Int}, x[i]? = some y → w.cell? ⟨b, 0 + (i : Int).toNat * 1, none⟩ = some (u16 y) := fun hi => row_at h hb hi
  have hat : ∀ {i : Nat} {y : Int}, x[i]? = some y → ∀ w', w' = drewW w → w'.cell? ⟨b, 0 + (i : Int).toNat * 1, none⟩ = some (u16 y) := by
    rintro i y hi _ rfl
    exact row_at (h.grow (Grow.drew w)) hb hi
  have K2 : ∀ v' w', New (drewW w) w' 41 1 ps.length ((ps.map fun p => x.getD p 0).map u16) v' → K v' w' := fun v' w' hN => K1 v' w' (hN.earlier (Grow.drew w))
  refine F66_calls ?_
  unfold F66
  unfold shufT at hs
  repeat' split at hs
  all_goals (first | (cases hs; done) | skip)
  all_goals (
    rename_i e
    subst e
    simp only [Option.some.injEq, Prod.mk.injEq] at hs
    obtain ⟨rfl, rfl⟩ := hs)
  · obtain ⟨a, rfl⟩ := List.length_eq_one_iff.1 hx
    have c0 := hat (i := 0) rfl
    repeat' (with_reducible first
      | refine C_t ?_
      | refine S_eql_t (by omega) ?_)
    refine ⟨fun w' => w' = drewW w, rfl, ?_⟩
    repeat' (with_reducible first
      | refine Fl_loadC pl41 c0 ?_
      | (apply Fl_R; exact R_ixA Tryz.underlying22 sz41 (by omega) (by omega)))
    exact S_bsN [a, a] rfl (by omega) (fun w => by kernel_rfl) (fun v w' hN => ⟨fun _ => True, trivial, K2 v w' hN⟩)
  · repeat' (with_reducible first
   | refine C_f ?_
   | refine S_eql_f (by omega) ?_)
    exact K1 _ _ (New.nil w 41 1)
  · obtain ⟨a, a2, rfl⟩ := len2 hx
    have c0 := hat (i := 0) rfl
    have c1 := hat (i := 1) rfl
    repeat' (with_reducible first
      | refine C_t ?_
      | refine C_f ?_
      | refine S_eql_t (by omega) ?_
      | refine S_eql_f (by omega) ?_)
    refine ⟨fun w' => w' = drewW w, rfl, ?_⟩
    repeat' (with_reducible first
      | refine Fl_loadC pl41 c0 ?_
      | refine Fl_loadC pl41 c1 ?_
      | (apply Fl_R; exact R_ixA Tryz.underlying22 sz41 (by omega) (by omega)))
    exact S_bsN [a2, a] rfl (by omega) (fun w => by kernel_rfl) (fun v w' hN => ⟨fun _ => True, trivial, K2 v w' hN⟩)
  · obtain ⟨a, a2, rfl⟩ := len2 hx
    have c0 := hat (i := 0) rfl
    have c1 := hat (i := 1) rfl
    repeat' (with_reducible first
      | refine C_t ?_
      | refine C_f ?_
      | refine S_eql_t (by omega) ?_
      | refine S_eql_f (by omega) ?_)
    refine ⟨fun w' => w' = drewW w, rfl, ?_⟩
    repeat' (with_reducible first
      | refine Fl_loadC pl41 c0 ?_
      | refine Fl_loadC pl41 c1 ?_
      | (apply Fl_R; exact R_ixA Tryz.underlying22 sz41 (by omega) (by omega)))
    exact S_bsN [a, a2, a] rfl (by omega) (fun w => by kernel_rfl) (fun v w' hN => ⟨fun _ => True, trivial, K2 v w' hN⟩)
  · obtain ⟨a, a2, a3, rfl⟩ := len3 hx
    have c0 := hat (i := 0) rfl
    have c1 := hat (i := 1) rfl
    have c2 := hat (i := 2) rfl
    repeat' (with_reducible first
      | refine C_t ?_
      | refine C_f ?_
      | refine S_eql_t (by omega) ?_
      | refine S_eql_f (by omega) ?_)
    refine ⟨fun w' => w' = drewW w, rfl, ?_⟩
    repeat' (with_reducible first
      | refine Fl_loadC pl41 c0 ?_
      | refine Fl_loadC pl41 c1 ?_
      | refine Fl_loadC pl41 c2 ?_
      | (apply Fl_R; exact R_ixA Tryz.underlying22 sz41 (by omega) (by omega)))
    exact S_bsN [a2, a3, a] rfl (by omega) (fun w => by kernel_rfl) (fun v w' hN => ⟨fun _ => True, trivial, K2 v w' hN⟩)
  · obtain ⟨a, a2, rfl⟩ := len2 hx
    have c1 := hat2 (i := 1) rfl
    repeat' (with_reducible first
      | refine C_t ?_
      | refine C_f ?_
      | refine S_loadC pl41 c1 ?_
      | refine S_eql_t (by omega) ?_
      | refine S_eql_f (by omega) ?_
      | (apply S_R; exact R_ixA Tryz.underlying22 sz41 (by omega) (by omega)))
    exact S_bsN [a2] rfl (by omega) (fun w => by kernel_rfl) (fun v w' hN => K1 v w' hN)
  · obtain ⟨a, a2, rfl⟩ := len2 hx
    have c0 := hat (i := 0) rfl
    have c1 := hat (i := 1) rfl
    repeat' (with_reducible first
      | refine C_t ?_
      | refine C_f ?_
      | refine S_eql_t (by omega) ?_
      | refine S_eql_f (by omega) ?_)
    refine ⟨fun w' => w' = drewW w, rfl, ?_⟩
    repeat' (with_reducible first
      | refine Fl_loadC pl41 c0 ?_
      | refine Fl_loadC pl41 c1 ?_
      | (apply Fl_R; exact R_ixA Tryz.underlying22 sz41 (by omega) (by omega)))
    exact S_bsN [a2, a, a2] rfl (by omega) (fun w => by kernel_rfl) (fun v w' hN => ⟨fun _ => True, trivial, K2 v w' hN⟩)
  · obtain ⟨a, a2, rfl⟩ := len2 hx
    have c0 := hat (i := 0) rfl
    have c1 := hat (i := 1) rfl
    repeat' (with_reducible first
      | refine C_t ?_
      | refine C_f ?_
      | refine S_eql_t (by omega) ?_
      | refine S_eql_f (by omega) ?_)
    refine ⟨fun w' => w' = drewW w, rfl, ?_⟩
    repeat' (with_reducible first
      | refine Fl_loadC pl41 c0 ?_
      | refine Fl_loadC pl41 c1 ?_
      | (apply Fl_R; exact R_ixA Tryz.underlying22 sz41 (by omega) (by omega)))
    exact S_bsN [a, a2, a, a2] rfl (by omega) (fun w => by kernel_rfl) (fun v w' hN => ⟨fun _ => True, trivial, K2 v w' hN⟩)
  · repeat' (with_reducible first
   | refine C_f ?_
   | refine S_eql_f (by omega) ?_)
    exact K1 _ _ (New.nil w 41 1)
theorem returns_spec {op : Int} {y ty : Nat} {n : Nat} {x : List Int} {v : Value} {s : PS} (h : Rep B w0 T w) (ho : op = 6 ∨ (55 ≤ op ∧ op ≤ 59)) (hn : (inOf op).toNat = n) (hx : x.length = n) (hv : OwnAt T 41 n (x.map u16) v)
    (hT : T y = some (rets ty s.rs)) (hne : ∀ b, v.ownBlock = some b → b ≠ y) (hl : s.rs.length ≤ 128) (hr : s.rs.length + addsOf op ≤ 128) (h56 : op = 56 → (Sh.seen op s.rs).2 = 0)
    (K1 : ∀ v' w1 w', Rep B w0 (upT T y (rets ty (retsOf op x s.rs))) w1 → New w1 w' 41 1 (puts op x s).length ((puts op x s).map u16) v' → K v' w') : Calls P 67 #[i64 op, v, ptr y 0] w (EndsS Kp K) := by
  refine F67_calls ?_
  unfold F67 J
  refine S_c88 (rlooks_spec h hT hl (fun w1 h1 => ?_))
  refine S_R R_ext2_0 (S_R R_ext2_1 ?_)
  rcases ho with rfl | ho
  · obtain rfl : 2 = n := hn
    obtain ⟨a, b, rfl⟩ := len2 hx
    obtain ⟨g, c, rfl, hc, hb⟩ := hv.at (by simp)
    have hg := hne g rfl
    have r0 : ∀ w', (∃ T', Rep B w0 T' w' ∧ T' g = some (rowO 41 ([a, b].map u16))) → w'.cell? ⟨g, 0 + ((0 : Nat) : Int).toNat * 1, none⟩ = some (u16 a) := fun w' ⟨T', h', hb'⟩ => row_at h' hb' rfl
    have r1 : ∀ w', (∃ T', Rep B w0 T' w' ∧ T' g = some (rowO 41 ([a, b].map u16))) → w'.cell? ⟨g, 0 + ((1 : Nat) : Int).toNat * 1, none⟩ = some (u16 b) := fun w' ⟨T', h', hb'⟩ => row_at h' hb' rfl
    have hd := h1.grow (Grow.drew w1)
    repeat' (with_reducible first
      | refine C_t ?_
      | refine S_eql_t (by omega) ?_)
    refine ⟨fun w' => ∃ T', Rep B w0 T' w' ∧ T' g = some (rowO 41 ([a, b].map u16)), ⟨T, hd, hb⟩, ?_⟩
    repeat' (with_reducible first
      | refine Fl_loadC pl41 r0 ?_
      | refine Fl_loadC pl41 r1 ?_
      | refine Fl_R (R_b75 _ _) ?_
      | (apply Fl_R; exact R_ixA Tryz.underlying22 sz41 (by omega) (by omega)))
    refine S_bs2R (fun v2 w2 hN => ?_)
    have h2 := hd.grow hN.grow
    refine ⟨⟨T, h2, hb⟩, ?_⟩
    refine S_c29 (rpushR_spec h2 hT (by omega) ?_ hN.sees rfl (by omega) rfl (fun _ w3 h3 => ⟨⟨_, h3, by rw [upT_ne hg]; exact hb⟩, ?_⟩) (fun h' => ?_))
    · rw [List.all_eq_true]; exact fun u hu => enc_one _ u hu
    · refine K1 _ w3 w3 ?_ (New.nil w3 41 1)
      show Rep B w0 (upT T y (rets ty (s.rs ++ [(2, a), (3, b)]))) w3
      unfold rets; rw [enc_append, List.length_append]; exact h3
    · have : addsOf 6 = 2 := rfl
      omega
  · rcases (by omega : op = 55 ∨ op = 56 ∨ op = 57 ∨ op = 58 ∨ op = 59) with rfl | rfl | rfl | rfl | rfl
    · obtain rfl : 1 = n := hn
      obtain ⟨a, rfl⟩ := List.length_eq_one_iff.1 hx
      obtain ⟨g, c, rfl, hc, hb⟩ := hv.at (by simp)
      have hg := hne g rfl
      have r0 : w1.cell? ⟨g, 0 + ((0 : Nat) : Int).toNat * 1, none⟩ = some (u16 a) := row_at h1 hb rfl
      repeat' (with_reducible first
        | refine C_t ?_
        | refine C_f ?_
        | refine S_loadC pl41 r0 ?_
        | refine S_R (R_b75 _ _) ?_
        | refine S_eql_t (by omega) ?_
        | refine S_eql_f (by omega) ?_
        | (apply S_R; exact R_ixA Tryz.underlying22 sz41 (by omega) (by omega)))
      refine S_bs1R (fun v2 w2 hN => ?_)
      have h2 := h1.grow hN.grow
      refine S_c29 (rpushR_spec h2 hT (by omega) ?_ hN.sees rfl (by omega) rfl (fun _ w3 h3 => ?_) (fun h' => ?_))
      · rw [List.all_eq_true]; exact fun u hu => enc_one _ u hu
      · refine K1 _ w3 w3 ?_ (New.nil w3 41 1)
        show Rep B w0 (upT T y (rets ty (s.rs ++ [(4, a)]))) w3
        unfold rets; rw [enc_append, List.length_append]; exact h3
      · have : addsOf 55 = 1 := rfl
        omega
    · obtain rfl : 0 = n := hn
      obtain rfl : x = [] := List.eq_nil_of_length_eq_zero hx
      repeat' (with_reducible first
        | refine C_t ?_
        | refine C_f ?_
        | refine S_eql_t (by omega) ?_
        | refine S_eql_f (by omega) ?_)
      refine S_c92 (rpopR_spec h1 hT (by omega) (fun w2 h2 => ?_))
      try simp (decide := true) only [upd_hit, upd_miss]
      rw [if_pos (show (retAt s.rs 0 4).2 = 0 from h56 rfl)] at h2
      exact S_bsN [(Sh.seen 56 s.rs).1] rfl (by omega) (fun w => by kernel_rfl) (fun v w' hN => K1 v w2 w' h2 hN)
    · obtain rfl : 0 = n := hn
      obtain rfl : x = [] := List.eq_nil_of_length_eq_zero hx
      repeat' (with_reducible first
        | refine C_f ?_
        | refine S_eql_f (by omega) ?_)
      try simp (decide := true) only [upd_hit, upd_miss]
      exact S_bsN [(Sh.seen 57 s.rs).1] rfl (by omega) (fun w => by kernel_rfl) (fun v w' hN => K1 v w1 w' (by rw [show retsOf 57 [] s.rs = s.rs from rfl, upT_eq hT]; exact h1) hN)
    · obtain rfl : 0 = n := hn
      obtain rfl : x = [] := List.eq_nil_of_length_eq_zero hx
      repeat' (with_reducible first
        | refine C_f ?_
        | refine S_eql_f (by omega) ?_)
      try simp (decide := true) only [upd_hit, upd_miss]
      exact S_bsN [(Sh.seen 58 s.rs).1] rfl (by omega) (fun w => by kernel_rfl) (fun v w' hN => K1 v w1 w' (by rw [show retsOf 58 [] s.rs = s.rs from rfl, upT_eq hT]; exact h1) hN)
    · obtain rfl : 0 = n := hn
      obtain rfl : x = [] := List.eq_nil_of_length_eq_zero hx
      repeat' (with_reducible first
        | refine C_f ?_
        | refine S_eql_f (by omega) ?_)
      try simp (decide := true) only [upd_hit, upd_miss]
      exact S_bsN [(Sh.seen 59 s.rs).1] rfl (by omega) (fun w => by kernel_rfl) (fun v w' hN => K1 v w1 w' (by rw [show retsOf 59 [] s.rs = s.rs from rfl, upT_eq hT]; exact h1) hN)
end
end Go.Proofs.YtebmnfmiphbgdaaGreatDoor
namespace Go.Proofs.YtebmnfmiphbgdaaGreatDoor
open Go.Sh
section
variable {w w0 : World} {Kp : KP} {K : K0} {B : Nat} {T : Store}
def Rows2 (B : Nat) (w0 : World) (g : Nat) (x : List Int) (w' : World) : Prop := ∃ T', Rep B w0 T' w' ∧ T' g = some (rowO 41 (x.map u16))
theorem Rows2.at0 {g : Nat} {a : Int} {x : List Int} : ∀ w', Rows2 B w0 g (a :: x) w' → w'.cell? ⟨g, 0 + ((0 : Nat) : Int).toNat * 1, none⟩ = some (u16 a) := fun w' ⟨T', h', hb'⟩ => row_at h' hb' rfl
theorem Rows2.at1 {g : Nat} {a b : Int} {x : List Int} : ∀ w', Rows2 B w0 g (a :: b :: x) w' → w'.cell? ⟨g, 0 + ((1 : Nat) : Int).toNat * 1, none⟩ = some (u16 b) := fun w' ⟨T', h', hb'⟩ => row_at h' hb' rfl
theorem Rows2.at2 {g : Nat} {a b c : Int} {x : List Int} : ∀ w', Rows2 B w0 g (a :: b :: c :: x) w' → w'.cell? ⟨g, 0 + ((2 : Nat) : Int).toNat * 1, none⟩ = some (u16 c) := fun w' ⟨T', h', hb'⟩ => row_at h' hb' rfl
theorem memory_spec {op : Int} {z : Nat} {n : Nat} {x : List Int} {v : Value} {s : PS} (h : Rep B w0 T w) (ho : (50 ≤ op ∧ op ≤ 54) ∨ (60 ≤ op ∧ op ≤ 63)) (hn : (inOf op).toNat = n) (hx : x.length = n) (hxc : ∀ a ∈ x, isC a) (hv : OwnAt T 41 n (x.map u16) v)
    (hT : T z = some (refmem s.mem)) (hne : ∀ b, v.ownBlock = some b → b ≠ z) (hok : s.mem.Ok) (ht : s.mem.tones.length ≤ 90000)
    (K1 : ∀ v' w1 w', Rep B w0 (upT T z (refmem (memOf op x s.mem))) w1 → New w1 w' 41 1 (puts op x s).length ((puts op x s).map u16) v' → K v' w') : Calls P 68 #[i64 op, v, ptr z 0] w (EndsS Kp K) := by
  have hup : ∀ {g : Nat} {M : Mem} {x : List Int} {w' : World}, g ≠ z → T g = some (rowO 41 (x.map u16)) → Rep B w0 (upT T z (refmem M)) w' → Rows2 B w0 g x w' := fun hg hb h' => ⟨_, h', by rw [upT_ne hg]; exact hb⟩
  have hd := h.grow (Grow.drew w)
  refine F68_calls ?_
  unfold F68 J
  rcases (by omega : op = 50 ∨ op = 51 ∨ op = 52 ∨ op = 53 ∨ op = 54 ∨ op = 60 ∨ op = 61 ∨ op = 62 ∨ op = 63) with rfl | rfl | rfl | rfl | rfl | rfl | rfl | rfl | rfl
  · obtain rfl : 1 = n := hn
    obtain ⟨a, rfl⟩ := List.length_eq_one_iff.1 hx
    obtain ⟨g, c, rfl, hc, hb⟩ := hv.at (by simp)
    have r0 := Rows2.at0 w ⟨T, h, hb⟩
    repeat' (with_reducible first
      | refine C_t ?_
      | refine S_loadC pl41 r0 ?_
      | refine S_eql_t (by omega) ?_
      | (apply S_R; exact R_ixA Tryz.underlying22 sz41 (by omega) (by omega)))
    refine S_c72 (rcell_spec h hT (hxc a (by simp)) (fun w1 h1 => ?_))
    exact S_bsN [s.mem.cell a] rfl (by omega) (fun w => by kernel_rfl) (fun v w' hN => K1 v w1 w' (by rw [show memOf 50 [a] s.mem = s.mem from rfl, upT_eq hT]; exact h1) hN)
  · obtain rfl : 2 = n := hn
    obtain ⟨a, b, rfl⟩ := len2 hx
    obtain ⟨g, c, rfl, hc, hb⟩ := hv.at (by simp)
    have r0 := Rows2.at0 (B := B) (w0 := w0) (g := g) (a := a) (x := [b])
    have r1 := Rows2.at1 (B := B) (w0 := w0) (g := g) (a := a) (b := b) (x := [])
    repeat' (with_reducible first
      | refine C_t ?_
      | refine C_f ?_
      | refine S_eql_t (by omega) ?_
      | refine S_eql_f (by omega) ?_)
    refine ⟨Rows2 B w0 g [a, b], ⟨T, hd, hb⟩, ?_⟩
    repeat' (with_reducible first
      | refine Fl_loadC pl41 r0 ?_
      | refine Fl_loadC pl41 r1 ?_
      | (apply Fl_R; exact R_ixA Tryz.underlying22 sz41 (by omega) (by omega)))
    refine S_c93 (rsetCell_spec hd hT (hxc b (by simp)) (hxc a (by simp)) ht (fun w2 h2 => ?_))
    exact K1 _ w2 w2 h2 (New.nil w2 41 1)
  · obtain rfl : 1 = n := hn
    obtain ⟨a, rfl⟩ := List.length_eq_one_iff.1 hx
    obtain ⟨g, c, rfl, hc, hb⟩ := hv.at (by simp)
    have r0 := Rows2.at0 w ⟨T, h, hb⟩
    have hbyte := hok.loadB a
    unfold isB at hbyte
    repeat' (with_reducible first
      | refine C_t ?_
      | refine C_f ?_
      | refine S_loadC pl41 r0 ?_
      | refine S_eql_t (by omega) ?_
      | refine S_eql_f (by omega) ?_
      | (apply S_R; exact R_ixA Tryz.underlying22 sz41 (by omega) (by omega)))
    refine S_c94 (rload_spec h hT (hxc a (by simp)) (fun w1 h1 => ?_))
    repeat' (with_reducible (apply S_R; exact R_toU16i Tryz.underlying5 Tryz.underlying41 (by omega)))
    exact S_bsN [s.mem.load a] rfl (by omega) (fun w => by kernel_rfl) (fun v w' hN => K1 v w1 w' (by rw [show memOf 52 [a] s.mem = s.mem from rfl, upT_eq hT]; exact h1) hN)
  · obtain rfl : 2 = n := hn
    obtain ⟨a, b, rfl⟩ := len2 hx
    obtain ⟨g, c, rfl, hc, hb⟩ := hv.at (by simp)
    have r0 := Rows2.at0 (B := B) (w0 := w0) (g := g) (a := a) (x := [b])
    have r1 := Rows2.at1 (B := B) (w0 := w0) (g := g) (a := a) (b := b) (x := [])
    repeat' (with_reducible first
      | refine C_t ?_
      | refine C_f ?_
      | refine S_eql_t (by omega) ?_
      | refine S_eql_f (by omega) ?_)
    refine ⟨Rows2 B w0 g [a, b], ⟨T, hd, hb⟩, ?_⟩
    repeat' (with_reducible first
      | refine Fl_loadC pl41 r0 ?_
      | refine Fl_loadC pl41 r1 ?_
      | refine Fl_R (R_toU8 Tryz.underlying41 Tryz.underlying5) ?_
      | (apply Fl_R; exact R_ixA Tryz.underlying22 sz41 (by omega) (by omega)))
    refine S_c30 (rstore_spec hd hT (hxc b (by simp)) (by unfold isB; omega) (by omega) (fun w2 h2 => ⟨hup (hne g rfl) hb h2, ?_⟩))
    exact K1 _ w2 w2 h2 (New.nil w2 41 1)
  · obtain rfl : 2 = n := hn
    obtain ⟨a, b, rfl⟩ := len2 hx
    obtain ⟨g, c, rfl, hc, hb⟩ := hv.at (by simp)
    have r0 := Rows2.at0 (B := B) (w0 := w0) (g := g) (a := a) (x := [b])
    have r1 := Rows2.at1 (B := B) (w0 := w0) (g := g) (a := a) (b := b) (x := [])
    repeat' (with_reducible first
      | refine C_t ?_
      | refine C_f ?_
      | refine S_eql_t (by omega) ?_
      | refine S_eql_f (by omega) ?_)
    refine ⟨Rows2 B w0 g [a, b], ⟨T, hd, hb⟩, ?_⟩
    repeat' (with_reducible first
      | refine Fl_loadC pl41 r0 ?_
      | refine Fl_loadC pl41 r1 ?_
      | (apply Fl_R; exact R_ixA Tryz.underlying22 sz41 (by omega) (by omega)))
    refine S_c72 (rcell_spec hd hT (hxc b (by simp)) (fun w1 h1 => ⟨⟨T, h1, hb⟩, ?_⟩))
    refine Fl_R R_add16 ?_
    refine S_c93 (rsetCell_spec h1 hT (hxc b (by simp)) (by unfold isC; omega) ht (fun w2 h2 => ⟨hup (hne g rfl) hb h2, ?_⟩))
    exact K1 _ w2 w2 h2 (New.nil w2 41 1)
  · obtain rfl : 3 = n := hn
    obtain ⟨a, b, c', rfl⟩ := len3 hx
    obtain ⟨g, c, rfl, hc, hb⟩ := hv.at (by simp)
    have r0 := Rows2.at0 (B := B) (w0 := w0) (g := g) (a := a) (x := [b, c'])
    have r1 := Rows2.at1 (B := B) (w0 := w0) (g := g) (a := a) (b := b) (x := [c'])
    have r2 := Rows2.at2 (B := B) (w0 := w0) (g := g) (a := a) (b := b) (c := c') (x := [])
    repeat' (with_reducible first
      | refine C_t ?_
      | refine C_f ?_
      | refine S_eql_t (by omega) ?_
      | refine S_eql_f (by omega) ?_)
    refine ⟨Rows2 B w0 g [a, b, c'], ⟨T, hd, hb⟩, ?_⟩
    repeat' (with_reducible first
      | refine Fl_loadC pl41 r0 ?_
      | refine Fl_loadC pl41 r1 ?_
      | refine Fl_loadC pl41 r2 ?_
      | (apply Fl_R; exact R_ixA Tryz.underlying22 sz41 (by omega) (by omega)))
    refine S_c95 (rplot_spec hd hT (hxc a (by simp)) (hxc b (by simp)) (hxc c' (by simp)) ht (fun w2 h2 => ?_))
    exact K1 _ w2 w2 h2 (New.nil w2 41 1)
  · obtain rfl : 0 = n := hn
    obtain rfl : x = [] := List.eq_nil_of_length_eq_zero hx
    obtain ⟨bv, rb, sb, bl, tv, hm, -⟩ := h.ref hT
    have hcl := hm.cells
    have hpad := hok.pad
    unfold isB at hpad
    repeat' (with_reducible first
      | refine C_t ?_
      | refine C_f ?_
      | refine S_eql_t (by omega) ?_
      | refine S_eql_f (by omega) ?_
      | (apply S_R; first | exact R_nil _ | exact R_toU16i Tryz.underlying5 Tryz.underlying41 (by omega) | exact R_f69_4 _ _)
      | refine S_loadB pl5 (by first | assumption | exact heap_old (by assumption) (by assumption)) (by first | assumption | (with_unfolding_all exact rfl)) ?_)
    exact S_bsN [s.mem.pad] rfl (by omega) (fun w => by kernel_rfl) (fun v w' hN => K1 v w w' (by rw [show memOf 61 [] s.mem = s.mem from rfl, upT_eq hT]; exact h) hN)
  · obtain rfl : 2 = n := hn
    obtain ⟨a, b, rfl⟩ := len2 hx
    obtain ⟨g, c, rfl, hc, hb⟩ := hv.at (by simp)
    have r0 := Rows2.at0 (B := B) (w0 := w0) (g := g) (a := a) (x := [b])
    have r1 := Rows2.at1 (B := B) (w0 := w0) (g := g) (a := a) (b := b) (x := [])
    repeat' (with_reducible first
      | refine C_t ?_
      | refine C_f ?_
      | refine S_eql_t (by omega) ?_
      | refine S_eql_f (by omega) ?_)
    refine ⟨Rows2 B w0 g [a, b], ⟨T, hd, hb⟩, ?_⟩
    repeat' (with_reducible first
      | refine Fl_loadC pl41 r0 ?_
      | refine Fl_loadC pl41 r1 ?_
      | refine Fl_R (R_toU8 Tryz.underlying41 Tryz.underlying5) ?_
      | (apply Fl_R; exact R_ixA Tryz.underlying22 sz41 (by omega) (by omega)))
    refine S_c96 (rplay_spec hd hT (hxc a (by simp)) (by unfold isB; omega) ht (fun w2 h2 => ⟨hup (hne g rfl) hb h2, ?_⟩))
    exact K1 _ w2 w2 h2 (New.nil w2 41 1)
  · obtain rfl : 1 = n := hn
    obtain ⟨a, rfl⟩ := List.length_eq_one_iff.1 hx
    obtain ⟨g, c, rfl, hc, hb⟩ := hv.at (by simp)
    have r0 := Rows2.at0 w ⟨T, h, hb⟩
    repeat' (with_reducible first
      | refine C_t ?_
      | refine C_f ?_
      | refine S_loadC pl41 r0 ?_
      | refine S_eql_t (by omega) ?_
      | refine S_eql_f (by omega) ?_
      | (apply S_R; exact R_ixA Tryz.underlying22 sz41 (by omega) (by omega)))
    refine S_c97 (rchoose_spec h hT (hxc a (by simp)) ht (fun w2 h2 => ?_))
    exact K1 _ w2 w2 h2 (New.nil w2 41 1)
end
end Go.Proofs.YtebmnfmiphbgdaaGreatDoor
namespace Go.Proofs.YtebmnfmiphbgdaaGreatDoor
open Go.Sh
section
variable {w w0 : World} {Kp : KP} {K : K0} {B : Nat} {T : Store} {x y z tx ty : Nat} {s : PS}
def upR (T : Store) (tx ty x y z : Nat) (s : PS) : Store := upT (upT (upT T x (datas tx s.ds)) y (rets ty s.rs)) z (refmem s.mem)
theorem Tri.lX (D : Tri x y z) : upR T tx ty x y z s x = some (datas tx s.ds) := by unfold upR; rw [upT_ne D.dm, upT_ne D.dr]; exact upT_same ..
theorem Tri.lY (D : Tri x y z) : upR T tx ty x y z s y = some (rets ty s.rs) := by unfold upR; rw [upT_ne D.rm]; exact upT_same ..
theorem Tri.lZ (D : Tri x y z) : upR T tx ty x y z s z = some (refmem s.mem) := by unfold upR; exact upT_same ..
theorem Tri.setX (D : Tri x y z) (ds : List Int) : upT (upR T tx ty x y z s) x (datas tx ds) = upR T tx ty x y z { s with ds := ds } := by
  unfold upR; rw [upT_comm _ D.dm.symm, upT_comm _ D.dr.symm, upT_upT]
theorem Tri.setY (D : Tri x y z) (rs : List RC2) : upT (upR T tx ty x y z s) y (rets ty rs) = upR T tx ty x y z { s with rs := rs } := by
  unfold upR; rw [upT_comm _ D.rm.symm, upT_upT]
theorem Tri.setZ (D : Tri x y z) (M : Mem) : upT (upR T tx ty x y z s) z (refmem M) = upR T tx ty x y z { s with mem := M } := by
  unfold upR; rw [upT_upT]
theorem prim_at {op : Int} : At (primCells op) (0 + 2) (i64 (inOf op)) ∧ At (primCells op) (0 + 3) (i64 (outOf op)) := ⟨⟨rfl⟩, ⟨rfl⟩⟩
theorem rmay_spec {op : Int} (hop : plainOp op) (D : Tri x y z) (h : Rep B w0 (upR T tx ty x y z s) w) (ok : PS.Ok s)
    (K1 : ∀ w', Rep B w0 (upR T tx ty x y z s) w' → K (i64 (primFault op s)) w') : Calls P 64 #[i64 op, ptr x 0, ptr y 0] w (EndsS Kp K) := by
  have hdl := ok.dl
  have hrl := ok.rl
  have hsm := small_tab (op := op)
  have hp := hop
  unfold plainOp at hp
  unfold primFault at K1
  rw [if_neg (show ¬ ¬ plainOp op from fun h => h hop)] at K1
  refine F64_calls ?_
  unfold F64
  refine S_c65 (row_spec (by omega) (fun w1 g1 => ?_))
  have h1 := h.grow g1
  refine S_allocR zr43 h1 (fun b w2 hb h2 => ?_)
  refine S_storeRowR sz43 h2 (upT_same ..) rfl rfl (fun w3 h3 => ?_)
  rw [upT_upT] at h3
  have hb3 := h3.raw (upT_same ..)
  obtain ⟨a2, a3⟩ := prim_at (op := op)
  have hX : upT (upR T tx ty x y z s) b (raw (primCells op) 43) x = some (datas tx s.ds) := look_new D.lX hb
  have hY : upT (upR T tx ty x y z s) b (raw (primCells op) 43) y = some (rets ty s.rs) := look_new D.lY hb
  repeat' (with_reducible first
    | refine S_loadX pl3 hb3 a2 ?_
    | refine S_loadX pl3 hb3 a3 ?_
    | (apply S_R; first | exact R_f43_2 _ _ | exact R_f43_3 _ _))
  refine S_c87 (rneed_spec h3 hX (by omega) (by omega) (by omega) (fun f hf => ?_))
  by_cases c1 : (s.ds.length : Int) < inOf op
  · rw [if_pos c1] at hf
    simp only [if_pos c1] at K1
    subst hf
    repeat' (with_reducible first
      | refine C_t ?_
      | refine S_neq_t (by omega) ?_)
    exact K1 _ (h3.drop1 hb)
  rw [if_neg c1] at hf
  simp only [if_neg c1] at K1
  by_cases c2 : outOf op > 256 - ((s.ds.length : Int) - inOf op)
  · rw [if_pos c2] at hf
    simp only [if_pos c2] at K1
    subst hf
    repeat' (with_reducible first
      | refine C_t ?_
      | refine S_neq_t (by omega) ?_)
    exact K1 _ (h3.drop1 hb)
  rw [if_neg c2] at hf
  simp only [if_neg c2] at K1
  subst hf
  repeat' (with_reducible first
    | refine C_f ?_
    | refine S_neq_f (by omega) ?_)
  refine S_c88 (rlooks_spec h3 hY hrl (fun w4 h4 => ?_))
  by_cases c3 : (Sh.seen op s.rs).2 ≠ 0
  · simp only [if_pos c3] at K1
    repeat' (with_reducible first
      | refine C_t ?_
      | refine S_neq_t (by omega) ?_
      | (apply S_R; first | exact R_ext2_0 | exact R_ext2_1))
    exact K1 _ (h4.drop1 hb)
  simp only [if_neg c3] at K1
  obtain ⟨sv, hd4, hown4, -, -, -⟩ := h4.pile hY
  obtain ⟨sa, sc, rfl, hsc⟩ := own_slice hown4
  have hadd : addsOf op = if op = 55 then 1 else if op = 6 then 2 else 0 := rfl
  by_cases c4 : (s.rs.length : Int) + addsOf op > 128
  · simp only [if_pos c4] at K1
    by_cases e55 : op = 55
    · rw [if_pos e55] at hadd
      repeat' (with_reducible first
        | refine C_t ?_
        | refine C_f ?_
        | refine GS_t ?_
        | refine GS_t' ?_
        | refine GS_u ?_
        | refine S_eql_t (by omega) ?_
        | refine S_geq_t (by omega) ?_
        | refine S_neq_f (by omega) ?_
        | (apply S_R; first | exact R_move _ | exact R_nil _ | exact R_ext2_0 | exact R_ext2_1 | exact R_f87_0 _ _ | exact R_lenS Tryz.underlying23 | exact R_pick_t _ _)
        | refine S_loadB pl23 (by first | assumption | exact heap_old (by assumption) (by assumption)) (by first | assumption | (with_unfolding_all exact rfl)) ?_)
      exact K1 _ (h4.drop1 hb)
    · rw [if_neg e55] at hadd
      by_cases e6 : op = 6
      · rw [if_pos e6] at hadd
        repeat' (with_reducible first
          | refine C_t ?_
          | refine C_f ?_
          | refine GS_t ?_
          | refine GS_f ?_
          | refine GS_f' ?_
          | refine S_eql_t (by omega) ?_
          | refine S_eql_f (by omega) ?_
          | refine S_gtr_t (by omega) ?_
          | refine S_neq_f (by omega) ?_
          | (apply S_R; first | exact R_move _ | exact R_nil _ | exact R_ext2_0 | exact R_ext2_1 | exact R_f87_0 _ _ | exact R_lenS Tryz.underlying23 | exact R_pick_t _ _ | exact R_pick_f _ _)
          | refine S_loadB pl23 (by first | assumption | exact heap_old (by assumption) (by assumption)) (by first | assumption | (with_unfolding_all exact rfl)) ?_)
        exact K1 _ (h4.drop1 hb)
      · rw [if_neg e6] at hadd; omega
  · simp only [if_neg c4] at K1
    by_cases e55 : op = 55
    · rw [if_pos e55] at hadd
      repeat' (with_reducible first
        | refine C_f ?_
        | refine GS_t ?_
        | refine GS_f ?_
        | refine GS_f' ?_
        | refine S_eql_t (by omega) ?_
        | refine S_eql_f (by omega) ?_
        | refine S_geq_f (by omega) ?_
        | refine S_neq_f (by omega) ?_
        | (apply S_R; first | exact R_move _ | exact R_nil _ | exact R_ext2_0 | exact R_ext2_1 | exact R_f87_0 _ _ | exact R_lenS Tryz.underlying23 | exact R_pick_t _ _ | exact R_pick_f _ _)
        | refine S_loadB pl23 (by first | assumption | exact heap_old (by assumption) (by assumption)) (by first | assumption | (with_unfolding_all exact rfl)) ?_)
      exact K1 _ (h4.drop1 hb)
    · rw [if_neg e55] at hadd
      by_cases e6 : op = 6
      · rw [if_pos e6] at hadd
        repeat' (with_reducible first
          | refine C_f ?_
          | refine GS_t ?_
          | refine GS_f ?_
          | refine GS_f' ?_
          | refine S_eql_t (by omega) ?_
          | refine S_eql_f (by omega) ?_
          | refine S_gtr_f (by omega) ?_
          | refine S_neq_f (by omega) ?_
          | (apply S_R; first | exact R_move _ | exact R_nil _ | exact R_ext2_0 | exact R_ext2_1 | exact R_f87_0 _ _ | exact R_lenS Tryz.underlying23 | exact R_pick_t _ _ | exact R_pick_f _ _)
          | refine S_loadB pl23 (by first | assumption | exact heap_old (by assumption) (by assumption)) (by first | assumption | (with_unfolding_all exact rfl)) ?_)
        exact K1 _ (h4.drop1 hb)
      · rw [if_neg e6] at hadd
        repeat' (with_reducible first
          | refine C_f ?_
          | refine GS_f ?_
          | refine GS_f' ?_
          | refine S_eql_f (by omega) ?_
          | refine S_neq_f (by omega) ?_
          | (apply S_R; first | exact R_move _ | exact R_nil _ | exact R_ext2_0 | exact R_ext2_1 | exact R_f87_0 _ _ | exact R_lenS Tryz.underlying23 | exact R_pick_f _ _)
          | refine S_loadB pl23 (by first | assumption | exact heap_old (by assumption) (by assumption)) (by first | assumption | (with_unfolding_all exact rfl)) ?_)
        exact K1 _ (h4.drop1 hb)
theorem R_fld43 {op : Int} : R P (vfld 43 (.agg (primCells op)) 2) (i64 (inOf op)) := ⟨fun w => by kernel_rfl⟩
theorem allC_one (l : List Int) : (l.map u16).all (·.oneCell') = true := by rw [List.all_eq_true]; simp [Value.oneCell']
theorem puts_len {op : Int} {a : List Int} (hop : plainOp op) (ha : (inOf op).toNat = a.length) : ((puts op a s).length : Int) = outOf op := by
  unfold plainOp at hop
  by_cases hu : unOp op
  · obtain ⟨i1, i2, i3, i4, i5⟩ := unOp_in hu
    rw [i1] at ha
    obtain ⟨b, rfl⟩ := List.length_eq_one_iff.1 ha.symm
    have := unary_isSome op b
    rw [decide_eq_true hu] at this
    obtain ⟨z, hz⟩ := Option.isSome_iff_exists.1 this
    have h0 : shufOf op [b] = none := by
      show (if op = 12 then _ else if op = 13 then _ else _) = _
      rw [if_neg i2, if_neg i3]
    have ho : outOf op = 1 := by
      unfold unOp at hu
      rcases (by omega : op = 28 ∨ op = 29 ∨ op = 32 ∨ op = 33 ∨ op = 34 ∨ op = 35 ∨ op = 39 ∨ op = 48 ∨ op = 49) with rfl | rfl | rfl | rfl | rfl | rfl | rfl | rfl | rfl <;> decide
    unfold puts
    rw [h0]
    show (((match unary op b with | some z => [z] | none => _) : List Int).length : Int) = _
    rw [hz, ho]; rfl
  by_cases hb : biOp op
  · rw [biOp_in hb] at ha
    obtain ⟨b, c, rfl⟩ := len2 ha.symm
    have := binary_isSome op b c
    rw [decide_eq_true hb] at this
    obtain ⟨z, hz⟩ := Option.isSome_iff_exists.1 this
    unfold biOp at hb
    have h0 : shufOf op [b, c] = none := by
      show (if op = 14 then _ else if op = 15 then _ else if op = 17 then _ else if op = 18 then _ else if op = 19 then _ else if op = 20 then _ else _) = _
      rw [if_neg (by omega), if_neg (by omega), if_neg (by omega), if_neg (by omega), if_neg (by omega), if_neg (by omega)]
    have ho : outOf op = 1 := by
      rcases (by omega : op = 21 ∨ op = 22 ∨ op = 23 ∨ op = 24 ∨ op = 25 ∨ op = 26 ∨ op = 27 ∨ op = 30 ∨ op = 31 ∨ op = 36 ∨ op = 37 ∨ op = 38 ∨ op = 40 ∨ op = 41 ∨ op = 42 ∨ op = 43 ∨ op = 44 ∨ op = 45 ∨ op = 46 ∨ op = 47) with rfl | rfl | rfl | rfl | rfl | rfl | rfl | rfl | rfl | rfl | rfl | rfl | rfl | rfl | rfl | rfl | rfl | rfl | rfl | rfl <;> decide
    unfold puts
    rw [h0]
    show (((match binary op b c with | some z => [z] | none => _) : List Int).length : Int) = _
    rw [hz, ho]; rfl
  unfold unOp at hu
  unfold biOp at hb
  rcases (by omega : op = 6 ∨ op = 9 ∨ op = 12 ∨ op = 13 ∨ op = 14 ∨ op = 15 ∨ op = 16 ∨ op = 17 ∨ op = 18 ∨ op = 19 ∨ op = 20 ∨ op = 50 ∨ op = 51 ∨ op = 52 ∨ op = 53 ∨ op = 54 ∨ op = 55 ∨ op = 56 ∨ op = 57 ∨ op = 58 ∨ op = 59 ∨ op = 60 ∨ op = 61 ∨ op = 62 ∨ op = 63) with rfl | rfl | rfl | rfl | rfl | rfl | rfl | rfl | rfl | rfl | rfl | rfl | rfl | rfl | rfl | rfl | rfl | rfl | rfl | rfl | rfl | rfl | rfl | rfl | rfl
  all_goals (rcases a with _ | ⟨b, _ | ⟨c, _ | ⟨e, _ | ⟨f, a⟩⟩⟩⟩)
  all_goals (first | rfl | (exact absurd ha (fun h => by cases h)))
set_option maxHeartbeats 4000000 in
theorem rdo_spec {op : Int} (D : Tri x y z) (h : Rep B w0 (upR T tx ty x y z s) w) (ok : PS.Ok s) (htn : s.mem.tones.length ≤ 90000)
    (K1 : ∀ w', Rep B w0 (upR T tx ty x y z (primDo op s)) w' → K (i64 (primFault op s)) w') : Calls P 39 #[i64 op, ptr x 0, ptr y 0, ptr z 0] w (EndsS Kp K) := by
  have hdl := ok.dl
  have hrl := ok.rl
  refine F39_calls ?_
  unfold F39
  refine S_c63 (rplain_spec ?_)
  by_cases hop : plainOp op
  · rw [decide_eq_true hop]
    have hp := hop
    unfold plainOp at hp
    repeat' (with_reducible first
      | refine C_f ?_
      | refine GS_f' ?_
      | (apply S_R; first | exact R_move _ | exact R_not_t | exact R_eqlp35 _ _ _ _ | exact R_pick_f _ _ | exact R_eqlp36 _ _ _ _ | exact R_eqlp37 _ _ _ _))
    refine S_c64 (rmay_spec hop D h ok (fun w1 h1 => ?_))
    unfold primDo at K1
    by_cases hf : primFault op s = 0
    · rw [if_pos hf, hf] at K1
      rw [hf]
      obtain ⟨f1, f2, f3, f4⟩ := fault0 hop hf
      have hsm := small_tab (op := op)
      repeat' (with_reducible first
        | refine C_f ?_
        | refine S_neq_f (by omega) ?_)
      have hg := h1.grow (Grow.drew w1)
      obtain ⟨sv, hd, hown, -, hlt, -⟩ := hg.pile D.lX
      have hsees := Sees.own hown
      obtain ⟨sa, sc, rfl, hsc⟩ := own_slice hown
      refine ⟨fun w' => w'.heap[x]? = some (.cells #[.slice sa s.ds.length sc] tx (0, 0)), hd, ?_⟩
      repeat' (with_reducible first
        | (apply Fl_R; first | exact R_nil _ | exact R_f85_0 _ _ | exact R_lenS Tryz.underlying22)
        | refine Fl_loadB pl22 (fun w hw => (by first | assumption | exact hw | exact hw.1 | exact hw.2 | exact hw.2.1 | exact hw.2.2)) (by first | assumption | (with_unfolding_all exact rfl)) ?_)
      refine S_c65 (row_spec (by omega) (fun w2 g2 => ⟨(g2.block x hlt).trans hd, ?_⟩))
      have hd2 := (g2.block x hlt).trans hd
      have h2 := hg.grow g2
      repeat' (with_reducible first
        | refine Fl_R R_fld43 ?_
        | (apply Fl_R; exact R_subi (by omega)))
      obtain ⟨n, hn⟩ : ∃ n : Nat, inOf op = n := ⟨(inOf op).toNat, by omega⟩
      obtain ⟨q, hq⟩ : ∃ q, q = s.ds.length - n := ⟨_, rfl⟩
      have eq1 : ((s.ds.length : Int) - inOf op) = (q : Int) := by omega
      rw [eq1]
      refine S_lit0 (sz := 1) lit22 (fun v3 w3 hN3 => ?_)
      have hd3 := (hN3.grow.block x (Nat.lt_of_lt_of_le hlt g2.size)).trans hd2
      have hs3 := ((hsees.grow g2).grow hN3.grow).drop (sz := 1) (l := q) (by simp) (by omega)
      repeat' (with_reducible first
        | (apply S_R; first | exact R_nil _ | exact R_f85_0 _ _)
        | refine S_loadB pl22 (by first | assumption | exact heap_old (by assumption) (by assumption)) (by first | assumption | (with_unfolding_all exact rfl)) ?_)
      refine S_R (R_sliceFromG Tryz.underlying22 sz41 (by omega) (by omega) hsc) ?_
      rw [Int.toNat_natCast]
      have hq1 : q ≤ s.ds.length := by omega
      refine S_appN Tryz.underlying22 in41 rfl rfl (by with_unfolding_all decide) hN3 hs3 (by show _ = (s.ds.length - q) * 1; simp) (by rw [← List.map_drop]; exact allC_one _) (by unfold maxLen; omega) (by show (0 + (s.ds.length - q)) * 2 ≤ _; omega) (fun v4 w4 hN4 _ => ?_)
      rw [List.nil_append, Nat.zero_add, Nat.mul_one, ← List.map_drop] at hN4
      obtain ⟨T4, hx4, hv4, h4⟩ := hN4.lay h2
      have hd4 := (hN4.grow.block x (Nat.lt_of_lt_of_le hlt g2.size)).trans hd2
      refine S_lit0 (sz := 1) lit22 (fun v5 w5 hN5 => ?_)
      have hxl : x < w4.heap.size := Nat.lt_of_lt_of_le (Nat.lt_of_lt_of_le hlt g2.size) hN4.grow.size
      have hd5 := (hN5.grow.block x hxl).trans hd4
      have hs5 := (((hsees.grow g2).grow hN4.grow).grow hN5.grow).take (sz := 1) (l := q) (by omega)
      repeat' (with_reducible first
        | (apply S_R; first | exact R_nil _ | exact R_f85_0 _ _ | exact R_sliceTo Tryz.underlying22 sz41 (by omega) (by omega))
        | refine S_loadB pl22 (by first | assumption | exact heap_old (by assumption) (by assumption)) (by first | assumption | (with_unfolding_all exact rfl)) ?_)
      rw [Int.toNat_natCast]
      refine S_appN Tryz.underlying22 in41 rfl rfl (by with_unfolding_all decide) hN5 hs5 (by show _ = q * 1; simp; omega) (by rw [← List.map_take]; exact allC_one _) (by unfold maxLen; omega) (by show (0 + q) * 2 ≤ _; omega) (fun v6 w6 hN6 _ => ?_)
      rw [List.nil_append, Nat.zero_add, Nat.mul_one, ← List.map_take] at hN6
      obtain ⟨cs, hd6, hcs, hrep⟩ := h4.pileNew (hx4 _ _ D.lX) hN6
      repeat' (with_reducible (apply S_R; first | exact R_nil _ | exact R_f85_0 _ _))
      refine S_storeB sz22 hd6 (by omega) (own_row_one hN6.own) ?_
      rw [show cs.setIfInBounds 0 v6 = #[v6] by obtain ⟨l⟩ := cs; match l, hcs with | [e], _ => rfl]
      have hqn : s.ds.length - q = n := by omega
      rw [hqn] at hv4
      have hln : (s.ds.drop q).length = n := by rw [List.length_drop]; exact hqn
      have hltk : (s.ds.take q).length = q := by rw [List.length_take]; omega
      have hvx : ∀ b, v4.ownBlock = some b → b ≠ x := fun b hb => by
        have := hN4.fresh b hb
        have := g2.size
        omega
      have hvy : ∀ b, v4.ownBlock = some b → b ≠ y := fun b hb => by
        have := hN4.fresh b hb
        have := (h2.lt D.lY).2
        omega
      have hvz : ∀ b, v4.ownBlock = some b → b ≠ z := fun b hb => by
        have := hN4.fresh b hb
        have := (h2.lt D.lZ).2
        omega
      have hv7 := hv4.upd (o' := pile 41 1 tx ((s.ds.take q).map u16) q) (hx4 _ _ D.lX) hvx
      have hsp : s.ds = s.ds.take q ++ s.ds.drop q := (List.take_append_drop _ _).symm
      have hin : (inOf op).toNat = (s.ds.drop q).length := by rw [hln, hn]; rfl
      have hout := puts_len (s := s) hop hin
      rw [act_eq hsp hin] at K1
      obtain ⟨out, ho⟩ : ∃ out, out = puts op (s.ds.drop q) s := ⟨_, rfl⟩
      rw [← ho] at hout K1
      have hx7 : Ext (upR T tx ty x y z { s with ds := s.ds.take q }) (upT T4 x (pile 41 1 tx ((s.ds.take q).map u16) q)) := by
        rw [← D.setX]
        have := hx4.up x (datas tx (s.ds.take q))
        unfold datas at this ⊢
        rw [hltk] at this ⊢; exact this
      have fin : ∀ {v8 : Value} {T8 : Store} {wa wb : World}, Rep B w0 T8 wa → New wa wb 41 1 out.length (out.map u16) v8 → Ext (upR T tx ty x y z ⟨s.ds.take q, retsOf op (s.ds.drop q) s.rs, memOf op (s.ds.drop q) s.mem⟩) T8 →
          Calls P 27 #[ptr x 0, v8] wb (EndsS Kp fun _ w' => K (i64 0) w') := by
        intro v8 T8 wa wb h8 hN8 hx8
        have hT8 : T8 x = some (pile 41 1 tx ((s.ds.take q).map u16) (s.ds.take q).length) := hx8 _ _ D.lX
        refine rpush_spec (h8.grow hN8.grow) hT8 (by omega) (allC_one _) hN8.sees (by simp) (by omega) (allC_one _) (fun _ w9 h9 => K1 w9 ?_) (fun h' => by omega)
        have e9 := hx8.up x (datas tx (s.ds.take q ++ out))
        rw [D.setX] at e9
        unfold datas at e9
        rw [List.map_append, List.length_append] at e9
        exact h9.ext e9
      unfold J
      have hy7 : upT T4 x (pile 41 1 tx ((s.ds.take q).map u16) q) y = some (rets ty s.rs) := hx7 _ _ D.lY
      have hz7 : upT T4 x (pile 41 1 tx ((s.ds.take q).map u16) q) z = some (refmem s.mem) := hx7 _ _ D.lZ
      have hxc : ∀ a ∈ s.ds.drop q, isC a := fun a ha => ok.ds a (List.mem_of_mem_drop ha)
      by_cases k1 : 12 ≤ op ∧ op ≤ 20
      · obtain ⟨ps, hs⟩ : ∃ ps, shufT op = some (n, ps) := by
          rcases (by omega : op = 12 ∨ op = 13 ∨ op = 14 ∨ op = 15 ∨ op = 16 ∨ op = 17 ∨ op = 18 ∨ op = 19 ∨ op = 20) with rfl | rfl | rfl | rfl | rfl | rfl | rfl | rfl | rfl
          all_goals (obtain rfl := Int.ofNat.inj hn; exact ⟨_, rfl⟩)
        obtain ⟨i1, i2, i3, i4, i5, i6⟩ := shuf_fits hs
        rw [i4 _ _ hln] at ho
        rw [i5 _ _ hln, i6 _ _ hln] at fin
        repeat' (with_reducible first
          | refine C_t ?_
          | refine GS_t ?_
          | refine S_geq_t (by omega) ?_
          | refine S_leq_t (by omega) ?_
          | (apply S_R; first | exact R_move _ | exact R_pick_t _ _))
        refine S_c66 (shuffles_spec hrep hs hln hv7 (fun v8 w8 hN8 => ?_))
        try simp (decide := true) only [upd_hit, upd_miss]
        refine S_c27 (fin hrep ?_ hx7)
        rw [ho]; simpa using hN8
      by_cases k2 : op = 6 ∨ (55 ≤ op ∧ op ≤ 59)
      · have e3 : memOf op (s.ds.drop q) s.mem = s.mem := by
          rcases (by omega : op = 6 ∨ op = 55 ∨ op = 56 ∨ op = 57 ∨ op = 58 ∨ op = 59) with rfl | rfl | rfl | rfl | rfl | rfl
          all_goals (
            revert hln; generalize s.ds.drop q = a; intro hln; obtain rfl := Int.ofNat.inj hn
            rcases a with _ | ⟨b, _ | ⟨c, _ | ⟨e, _ | ⟨f, a⟩⟩⟩⟩
            all_goals (first | rfl | (exact absurd hln (fun h => by cases h))))
        have e7 := hx7.up y (rets ty (retsOf op (s.ds.drop q) s.rs))
        rw [D.setY] at e7
        rw [e3] at fin
        by_cases e6 : op = 6
        · subst e6
          repeat' (with_reducible first
            | refine C_t ?_
            | refine C_f ?_
            | refine GS_f ?_
            | refine GS_t' ?_
            | refine GS_u ?_
            | refine S_eql_t (by omega) ?_
            | refine S_geq_f (by omega) ?_
            | (apply S_R; first | exact R_pick_t _ _ | exact R_pick_f _ _))
          refine S_c67 (returns_spec (s := s) (x := s.ds.drop q) hrep k2 (by rw [hn]; rfl) hln hv7 hy7 hvy hrl f4 (fun _ => f3) (fun v8 w8 w9 h8 hN8 => ?_))
          rw [← ho] at hN8
          try simp (decide := true) only [upd_hit, upd_miss]
          exact S_c27 (fin h8 hN8 e7)
        · repeat' (with_reducible first
   | refine C_t ?_
   | refine C_f ?_
   | refine GS_t ?_
   | refine GS_f' ?_
   | refine S_eql_f (by omega) ?_
   | refine S_geq_t (by omega) ?_
   | refine S_leq_t (by omega) ?_
   | refine S_leq_f (by omega) ?_
   | (apply S_R; first | exact R_move _ | exact R_pick_t _ _ | exact R_pick_f _ _))
          refine S_c67 (returns_spec (s := s) (x := s.ds.drop q) hrep k2 (by rw [hn]; rfl) hln hv7 hy7 hvy hrl f4 (fun _ => f3) (fun v8 w8 w9 h8 hN8 => ?_))
          rw [← ho] at hN8
          try simp (decide := true) only [upd_hit, upd_miss]
          exact S_c27 (fin h8 hN8 e7)
      by_cases k3 : 50 ≤ op
      · have e3 : retsOf op (s.ds.drop q) s.rs = s.rs := by
          rcases (by omega : op = 50 ∨ op = 51 ∨ op = 52 ∨ op = 53 ∨ op = 54 ∨ op = 60 ∨ op = 61 ∨ op = 62 ∨ op = 63) with rfl | rfl | rfl | rfl | rfl | rfl | rfl | rfl | rfl
          all_goals (
            revert hln; generalize s.ds.drop q = a; intro hln; obtain rfl := Int.ofNat.inj hn
            rcases a with _ | ⟨b, _ | ⟨c, _ | ⟨e, _ | ⟨f, a⟩⟩⟩⟩
            all_goals (first | rfl | (exact absurd hln (fun h => by cases h))))
        have e7 := hx7.up z (refmem (memOf op (s.ds.drop q) s.mem))
        rw [D.setZ] at e7
        rw [e3] at fin
        rcases (by omega : op ≤ 54 ∨ 60 ≤ op) with k4 | k4
        · repeat' (with_reducible first
   | refine C_t ?_
   | refine C_f ?_
   | refine GS_t ?_
   | refine GS_f ?_
   | refine GS_f' ?_
   | refine S_eql_f (by omega) ?_
   | refine S_geq_t (by omega) ?_
   | refine S_geq_f (by omega) ?_
   | refine S_leq_f (by omega) ?_
   | (apply S_R; first | exact R_move _ | exact R_pick_t _ _ | exact R_pick_f _ _))
          refine S_c68 (memory_spec (s := s) (x := s.ds.drop q) hrep (by omega : (50 ≤ op ∧ op ≤ 54) ∨ (60 ≤ op ∧ op ≤ 63)) (by rw [hn]; rfl) hln hxc hv7 hz7 hvz ok.mem htn (fun v8 w8 w9 h8 hN8 => ?_))
          rw [← ho] at hN8
          try simp (decide := true) only [upd_hit, upd_miss]
          exact S_c27 (fin h8 hN8 e7)
        · repeat' (with_reducible first
   | refine C_t ?_
   | refine C_f ?_
   | refine GS_t ?_
   | refine GS_f' ?_
   | refine S_eql_f (by omega) ?_
   | refine S_geq_t (by omega) ?_
   | refine S_leq_f (by omega) ?_
   | (apply S_R; first | exact R_move _ | exact R_pick_t _ _ | exact R_pick_f _ _))
          refine S_c68 (memory_spec (s := s) (x := s.ds.drop q) hrep (by omega : (50 ≤ op ∧ op ≤ 54) ∨ (60 ≤ op ∧ op ≤ 63)) (by rw [hn]; rfl) hln hxc hv7 hz7 hvz ok.mem htn (fun v8 w8 w9 h8 hN8 => ?_))
          rw [← ho] at hN8
          try simp (decide := true) only [upd_hit, upd_miss]
          exact S_c27 (fin h8 hN8 e7)
      obtain ⟨va, vc, rfl, hvc⟩ : ∃ va vc, v4 = .slice va n vc ∧ n ≤ vc := by
        rcases hv4 with ⟨rfl, rfl, _⟩ | ⟨b, c, rfl, hc, _⟩
        · exact ⟨none, 0, rfl, Nat.le_refl _⟩
        · exact ⟨_, c, rfl, hc⟩
      by_cases k9 : op = 9
      · subst k9
        obtain rfl : 0 = n := Int.ofNat.inj hn
        have hnil : s.ds.drop q = [] := List.eq_nil_of_length_eq_zero hln
        rw [hnil] at ho fin
        repeat' (with_reducible first
          | refine C_f ?_
          | refine GS_f ?_
          | refine GS_f' ?_
          | refine S_eql_f (by omega) ?_
          | refine S_geq_f (by omega) ?_
          | refine S_gtr_f (by omega) ?_
          | (apply S_R; first | exact R_move _ | exact R_pick_f _ _))
        try simp (decide := true) only [upd_hit, upd_miss]
        refine S_c27 (fin hrep ?_ hx7)
        rw [ho]; exact New.nil _ 41 1
      have k20 : 20 < op := by omega
      have h30 : op ≤ 49 := by omega
      by_cases hu : unOp op
      · obtain ⟨i1, i2, i3, i4, i5⟩ := unOp_in hu
        obtain rfl : n = 1 := by omega
        obtain ⟨a, hda⟩ := List.length_eq_one_iff.1 hln
        rw [hda] at hv7 ho fin
        obtain ⟨g, c, e, -, hb⟩ := hv7.at (by simp)
        simp only [Value.slice.injEq, true_and] at e
        obtain ⟨rfl, rfl⟩ := e
        have r0 := row_at (i := 0) hrep hb rfl
        have ha : isC a := hxc a (by rw [hda]; simp)
        have := unary_isSome op a
        rw [decide_eq_true hu] at this
        obtain ⟨zz, hz⟩ := Option.isSome_iff_exists.1 this
        have e1 : out = [zz] := by
          rw [ho]
          have h0 : shufOf op [a] = none := by
            show (if op = 12 then _ else if op = 13 then _ else _) = _
            rw [if_neg i2, if_neg i3]
          unfold puts
          rw [h0]
          show (match unary op a with | some z => [z] | none => _) = _
          rw [hz]
        have e2 : retsOf op [a] s.rs = s.rs := if_neg i4
        have e3 : memOf op [a] s.mem = s.mem := if_neg i5
        rw [e2, e3] at fin
        repeat' (with_reducible first
          | refine C_t ?_
          | refine C_f ?_
          | refine GS_t ?_
          | refine GS_f ?_
          | refine GS_f' ?_
          | refine S_loadC pl41 r0 ?_
          | refine S_eql_t (by omega) ?_
          | refine S_eql_f (by omega) ?_
          | refine S_geq_t (by omega) ?_
          | refine S_geq_f (by omega) ?_
          | refine S_gtr_t (by omega) ?_
          | refine S_leq_f (by omega) ?_
          | (apply S_R; first | exact R_move _ | exact R_pick_t _ _ | exact R_pick_f _ _ | exact R_lenS Tryz.underlying22 | exact R_ixA Tryz.underlying22 sz41 (by omega) (by omega)))
        refine S_c69 (runary_spec ha ?_)
        rw [hz]
        repeat' (with_reducible (apply S_R; first | exact R_ext2_0 | exact R_ext2_1))
        refine S_bs1 (fun v8 w8 hN8 => ?_)
        try simp (decide := true) only [upd_hit, upd_miss]
        refine S_c27 (fin hrep ?_ hx7)
        rw [e1]; exact hN8
      · have hbo : biOp op := by
          by_cases hb : biOp op
          · exact hb
          · unfold biOp at hb; unfold unOp at hu; omega
        have hi2 := biOp_in hbo
        obtain rfl : n = 2 := by omega
        obtain ⟨a, b, hda⟩ := len2 hln
        rw [hda] at hv7 ho fin
        obtain ⟨g, c, e, -, hb⟩ := hv7.at (by simp)
        simp only [Value.slice.injEq, true_and] at e
        obtain ⟨rfl, rfl⟩ := e
        have r0 : ∀ w', w' = drewW (w6.setRow x #[v6]) → w'.cell? ⟨g, 0 + ((0 : Nat) : Int).toNat * 1, none⟩ = some (u16 a) := fun w' e => by subst e; exact row_at (i := 0) (hrep.grow (Grow.drew _)) hb rfl
        have r1 : ∀ w', w' = drewW (w6.setRow x #[v6]) → w'.cell? ⟨g, 0 + ((1 : Nat) : Int).toNat * 1, none⟩ = some (u16 b) := fun w' e => by subst e; exact row_at (i := 1) (hrep.grow (Grow.drew _)) hb rfl
        have ha : isC a := hxc a (by rw [hda]; simp)
        have hb2 : isC b := hxc b (by rw [hda]; simp)
        have := binary_isSome op a b
        rw [decide_eq_true hbo] at this
        obtain ⟨zz, hz⟩ := Option.isSome_iff_exists.1 this
        unfold biOp at hbo
        have e1 : out = [zz] := by
          rw [ho]
          have h0 : shufOf op [a, b] = none := by
            show (if op = 14 then _ else if op = 15 then _ else if op = 17 then _ else if op = 18 then _ else if op = 19 then _ else if op = 20 then _ else _) = _
            rw [if_neg (by omega), if_neg (by omega), if_neg (by omega), if_neg (by omega), if_neg (by omega), if_neg (by omega)]
          unfold puts
          rw [h0]
          show (match binary op a b with | some z => [z] | none => _) = _
          rw [hz]
        have e2 : retsOf op [a, b] s.rs = s.rs := if_neg (by omega)
        have e3 : memOf op [a, b] s.mem = s.mem := by
          show (if op = 51 then _ else if op = 53 then _ else if op = 54 then _ else if op = 62 then _ else _) = _
          rw [if_neg (by omega), if_neg (by omega), if_neg (by omega), if_neg (by omega)]
        rw [e2, e3] at fin
        repeat' (with_reducible first
          | refine C_t ?_
          | refine C_f ?_
          | refine GS_t ?_
          | refine GS_f ?_
          | refine GS_f' ?_
          | refine S_eql_f (by omega) ?_
          | refine S_geq_t (by omega) ?_
          | refine S_geq_f (by omega) ?_
          | refine S_gtr_t (by omega) ?_
          | refine S_leq_f (by omega) ?_
          | (apply S_R; first | exact R_move _ | exact R_pick_t _ _ | exact R_pick_f _ _ | exact R_lenS Tryz.underlying22))
        refine ⟨fun w' => w' = drewW (w6.setRow x #[v6]), rfl, ?_⟩
        repeat' (with_reducible first
          | refine Fl_loadC pl41 r0 ?_
          | refine Fl_loadC pl41 r1 ?_
          | (apply Fl_R; exact R_ixA Tryz.underlying22 sz41 (by omega) (by omega)))
        refine S_c70 (rbinary_spec ha hb2 ?_)
        rw [hz]
        refine ⟨fun _ => True, trivial, ?_⟩
        repeat' (with_reducible (apply Fl_R; first | exact R_ext2_0 | exact R_ext2_1))
        refine S_bs1 (fun v8 w8 hN8 => ?_)
        try simp (decide := true) only [upd_hit, upd_miss]
        refine S_c27 (fin (hrep.grow (Grow.drew _)) ?_ hx7)
        rw [e1]; exact hN8
    · rw [if_neg hf] at K1
      repeat' (with_reducible first
        | refine C_t ?_
        | refine S_neq_t (by omega) ?_)
      exact K1 w1 h1
  · rw [decide_eq_false hop]
    have hf : primFault op s = 6 := by unfold primFault; rw [if_pos hop]
    unfold primDo at K1
    rw [hf] at K1
    repeat' (with_reducible first
      | refine C_t ?_
      | refine GS_t' ?_
      | (apply S_R; first | exact R_not_f | exact R_pick_t _ _))
    exact K1 w h
end
end Go.Proofs.YtebmnfmiphbgdaaGreatDoor
namespace Go.Proofs.YtebmnfmiphbgdaaGreatDoor
open Go.Sh
set_option maxRecDepth 100000
noncomputable def z139 : Array Value := match Tryz.t139.zero with | some (.agg c) => c | _ => #[]
noncomputable def z115 : Array Value := match Tryz.t115.zero with | some (.agg c) => c | _ => #[]
theorem zr139 : (P.info? 139).bind (·.zero) = some (.agg z139) := by kernel_rfl
theorem zr115 : (P.info? 115).bind (·.zero) = some (.agg z115) := by kernel_rfl
theorem eat139 : eats isZ8 14 z139.toList = some [] := by kernel_rfl
theorem z139_eq : z139 = (Sh.bytes 16384 (fun _ => 0)).toArray := by
  apply Array.ext'
  have := eats_zeros eat139
  rw [this, List.append_nil, ← bytes_zero]
def tail1 : List Value → List Value
  | [] => []
  | _ :: l => l
def headIs : List Value → Bool
  | .map none :: _ => true
  | _ => false
def eatAll (l : List Value) : Option (List Value) := match eats isZ8 14 l with
  | some r2 => match eats isZ8 11 r2 with
    | some r3 => eats isZ8 10 r3
    | none => none
  | none => none
theorem head115 : headIs z115.toList = true := by kernel_rfl
theorem eat115 : eatAll (tail1 z115.toList) = some [u8 0, u8 0, u8 0, u16 0, u16 0, i64 0, .slice none 0 0] := by kernel_rfl
def memB (l : List (Int × (Nat → Int))) : Mem := ⟨l, fun _ => 0, fun _ => 0, 0, 0, 0, 0, 0, 0, []⟩
abbrev mem0 : Mem := memB []
theorem z115_eq (mb : Nat) : (z115.toList.set 0 (.map (some mb))) = memCells mb mem0 (.slice none 0 0) := by
  have h1 := head115
  have h2 := eat115
  generalize z115.toList = l at h1 h2
  match l, h1 with
  | .map none :: r1, _ =>
  unfold tail1 eatAll at h2
  cases e2 : eats isZ8 14 r1 with
  | none => simp only [e2] at h2; cases h2
  | some r2 =>
  cases e3 : eats isZ8 11 r2 with
  | none => simp only [e2, e3] at h2; cases h2
  | some r3 =>
  simp only [e2, e3] at h2
  have f1 := eats_zeros e2
  have f2 := eats_zeros e3
  have f3 := eats_zeros h2
  subst f3
  subst f2
  subst f1
  unfold memCells
  rw [show (Sh.bytes 16384 mem0.ram) = List.replicate (2 ^ 14) (u8 0) from (bytes_zero 16384).symm, show (Sh.bytes 3072 mem0.scr) = List.replicate (2 ^ 11) (u8 0) ++ List.replicate (2 ^ 10) (u8 0) by
    rw [List.replicate_append_replicate]; exact (bytes_zero 3072).symm]
  simp only [List.set_cons_zero, List.append_assoc]
  rfl
theorem R_b139 : R P (vbuild 139 #[]) (.agg z139) := ⟨fun w => by kernel_rfl⟩
theorem R_b115 (mb : Nat) : R P (vbuild 115 #[(0, .map (some mb))]) (.agg (z115.setIfInBounds 0 (.map (some mb)))) := ⟨fun w => by kernel_rfl⟩
theorem R_mem115 (mb : Nat) : R P (vbuild 115 #[(0, .map (some mb))]) (.agg (memCells mb mem0 (.slice none 0 0)).toArray) := by
  have h := R_b115 mb
  have e : z115.setIfInBounds 0 (.map (some mb)) = (memCells mb mem0 (.slice none 0 0)).toArray := by
    apply Array.ext'
    rw [Array.toList_setIfInBounds]
    exact z115_eq mb
  rw [e] at h; exact h
theorem R_bank139 : R P (vbuild 139 #[]) (.agg (Sh.bytes 16384 (fun _ => 0)).toArray) := by
  have h := R_b139
  rw [z139_eq] at h; exact h
end Go.Proofs.YtebmnfmiphbgdaaGreatDoor
namespace Go.Proofs.YtebmnfmiphbgdaaGreatDoor
open Go.Sh
section
variable {w w0 : World} {Kp : KP} {K : K0} {B : Nat} {T : Store}
theorem mem0_ok : mem0.Ok := by
  have b : isB 0 := by unfold isB; omega
  have c : isC 0 := by unfold isC; omega
  exact ⟨fun p hp => (by cases hp), List.Pairwise.nil, fun _ => b, fun _ => b, (by decide : (0 : Int) ≤ 0 ∧ (0 : Int) < 16), b, b, c, c, (by decide : (-9223372036854775808 : Int) ≤ 0 ∧ (0 : Int) < 9223372036854775808)⟩
theorem memNew_start (h : Rep B w0 T w) {w2 : World} {mb d : Nat} {cs : Array Value} (hcs : cs = (memCells mb mem0 (.slice none 0 0)).toArray) (e1 : mb = w.heap.size) (e2 : d = w.heap.size + 1)
    (hw : w2 = (w.alloc (mapOb .u8 [])).alloc (.cells cs 115)) : Rep B w0 (upT T d (memory mem0)) w2 ∧ Grow w w2 := by
  have g : Grow w w2 := by rw [hw]; exact (Grow.alloc w _).trans (Grow.alloc _ _)
  have hs2 : w2.heap.size = w.heap.size + 2 := by rw [hw]; simp
  refine ⟨h.new g (fp := [d, mb]) ⟨mb, [], .slice none 0 0, ⟨?_, ?_, trivial, ⟨rfl, .inl ⟨rfl, rfl⟩⟩, ?_, mem0_ok⟩, rfl⟩ (by simp) (fun j hj => ?_), g⟩
  · rw [← hcs, hw, e2]
    have := heap_alloc_new (w.alloc (mapOb .u8 [])) (.cells cs 115)
    rw [show (w.alloc (mapOb .u8 [])).heap.size = w.heap.size + 1 by simp] at this
    exact this
  · rw [hw, heap_alloc_old _ _ _ (by rw [e1]; simp), e1]
    exact heap_alloc_new w _
  · simp [Value.ownBlock]; omega
  · simp at hj; omega
theorem memNew_spec {bs : List Bk} {v : Value} (h : Rep B w0 T w) (hv : BanksIn w v bs) (hn : bs.length ≤ 281474976710656) (hd : ∀ b ∈ bs, ∀ x ∈ b.2, isB x)
    (k1 : mayB (-1) bs = true → ∀ d w', T d = none → w.heap.size ≤ d → Grow w w' → Rep B w0 (upT T d (memory (memB (banksOf bs)))) w' → K (.tuple #[ptr d 0, i64 0]) w')
    (k2 : mayB (-1) bs = false → ∀ w', Grow w w' → Rep B w0 T w' → K (.tuple #[nilp, i64 2]) w') : Calls P 37 #[v] w (EndsS Kp K) := by
  obtain ⟨va, vc, rfl, hvc⟩ : ∃ a c, v = .slice a bs.length c ∧ bs.length ≤ c := by obtain ⟨_, h1, _⟩ := hv; exact h1.size
  refine F37_calls ?_
  unfold F37
  refine S_mkM .u8 ?_
  refine S_R (R_mem115 _) ?_
  generalize hcs : (memCells w.heap.size mem0 (.slice none 0 0)).toArray = cs
  refine S_box ?_
  obtain ⟨h2, g2⟩ := memNew_start (Rep.start w) hcs.symm rfl rfl rfl
  rw [show (w.alloc (mapOb .u8 [])).heap.size = w.heap.size + 1 by simp]
  show S P (vblt _ _ _ _ _) ((w.alloc (mapOb .u8 [])).alloc (.cells cs 115)) Kp _
  generalize hw2 : (w.alloc (mapOb .u8 [])).alloc (.cells cs 115) = w2 at h2 g2
  obtain ⟨d, hdd⟩ : ∃ d, d = w.heap.size + 1 := ⟨_, rfl⟩
  rw [← hdd] at h2 ⊢
  have hTd : T d = none := h.fresh (by omega)
  refine S_R (R_lenS Tryz.underlying65) ?_
  refine loop_count (fun i (s : Int × Value) => upd 2 nilp (upd 3 (i64 0) (upd 4 (ptr d 0) (upd 5 (i64 s.1) (upd 7 s.2 (upd 12 (.slice va bs.length vc) (upd 13 (i64 (bs.length : Int)) (upd 14 (i64 (i : Int)) E0)))))))) 14 .i64 bs.length
    (fun i s w' => Rep w.heap.size w (upT (fun _ => none) d (memory (memB (banksOf (bs.take i))))) w' ∧ Grow w w' ∧ mayB (-1) bs = mayB s.1 (bs.drop i) ∧ (∀ p ∈ banksOf (bs.take i), p.1 ≤ s.1) ∧ -1 ≤ s.1) (-1, undef) (fun _ _ => rfl) rfl ⟨h2, g2, rfl, by simp [banksOf], by omega⟩ ?_
  rintro i ⟨last, v7⟩ w1 KL hi ⟨h1, g1, hmay, hlast, hl1⟩ next
  try simp (decide := true) only [upd_hit, upd_miss]
  refine S_lss (fun hc => C_t ?_) (fun hc => C_f ?_)
  · have hi' : i < bs.length := by omega
    obtain ⟨b, hb⟩ : ∃ b, bs[i]? = some b := ⟨_, List.getElem?_eq_getElem hi'⟩
    have hbm := List.mem_of_getElem? hb
    obtain ⟨num, dat⟩ := b
    have hdrop : bs.drop i = (num, dat) :: bs.drop (i + 1) := by
      have h1 := List.drop_eq_getElem_cons (l := bs) (i := i) hi'
      obtain ⟨_, e⟩ := List.getElem_of_getElem? hb
      rw [h1, e]
    have htake : bs.take (i + 1) = bs.take i ++ [(num, dat)] := by rw [List.take_add_one, hb]; rfl
    obtain ⟨dvs, hs, hda⟩ := hv.grow g1
    obtain ⟨dv, e1, e2, e3, e4⟩ := hda.get hb
    obtain ⟨da, dc, rfl, hdc⟩ := e3.size
    obtain ⟨vg, vo, vc', ev, -, hcell⟩ := hs.at (by intro e; rw [e] at e1; simp at e1)
    simp only [Value.slice.injEq] at ev
    obtain ⟨rfl, -, rfl⟩ := ev
    refine S_R (R_ixA Tryz.underlying65 sz79 (by omega) (by omega)) ?_
    refine S_loadRowC (cs := [i64 num, .slice da dat.length dc]) rw79 sz79 (fun j u hj => ?_) ?_
    · rw [Int.toNat_natCast]
      match j, hj with
      | 0, hj => simp at hj; subst hj; exact hcell _ _ e1
      | 1, hj => simp at hj; subst hj; exact hcell _ _ e2
    refine S_alloc zr79 ?_
    refine S_storeRow sz79 (heap_alloc_new _ _) rfl rfl ?_
    rw [show (Value.agg #[Value.int IntKind.i64 0, Value.slice none 0 0]).cells = #[i64 0, .slice none 0 0] from rfl, setRow_alloc_new]
    have hx : (w1.alloc (.cells #[i64 num, .slice da dat.length dc] 79)).heap[w1.heap.size]? = some (.cells #[i64 num, .slice da dat.length dc] 79 (0, 0)) := heap_alloc_new w1 _
    have g3 := Grow.alloc w1 (.cells #[i64 num, .slice da dat.length dc] 79)
    generalize w1.alloc (.cells #[i64 num, .slice da dat.length dc] 79) = w3 at hx g3
    generalize w1.heap.size = x at hx
    have hm2 : mayB last (bs.drop i) = if num ≤ last ∨ num > 15 ∨ dat.length > 16384 then false else mayB num (bs.drop (i + 1)) := by rw [hdrop]; rfl
    have bad : (num ≤ last ∨ num > 15 ∨ dat.length > 16384) → K (.tuple #[nilp, i64 2]) w3 := fun hb => k2 (by rw [hmay, hm2, if_pos hb]) w3 (g1.trans g3) (h.grow (g1.trans g3))
    by_cases c1 : num ≤ last
    · repeat' (with_reducible first
   | refine C_t ?_
   | refine GS_t' ?_
   | refine S_leq_t (by omega) ?_
   | (apply S_R; first | exact R_f79_0 _ _ | exact R_pick_t _ _)
   | refine S_loadB pl3 (by first | assumption | exact heap_old (by assumption) (by assumption)) (by first | assumption | (with_unfolding_all exact rfl)) ?_)
      exact bad (.inl c1)
    by_cases c2 : num > 15
    · repeat' (with_reducible first
   | refine C_t ?_
   | refine GS_t' ?_
   | refine GS_f' ?_
   | refine S_geq_t (by omega) ?_
   | refine S_leq_f (by omega) ?_
   | (apply S_R; first | exact R_f79_0 _ _ | exact R_pick_t _ _ | exact R_pick_f _ _)
   | refine S_loadB pl3 (by first | assumption | exact heap_old (by assumption) (by assumption)) (by first | assumption | (with_unfolding_all exact rfl)) ?_)
      exact bad (.inr (.inl c2))
    by_cases c3 : dat.length > 16384
    · repeat' (with_reducible first
   | refine C_t ?_
   | refine GS_f' ?_
   | refine S_geq_f (by omega) ?_
   | refine S_gtr_t (by omega) ?_
   | refine S_leq_f (by omega) ?_
   | (apply S_R; first | exact R_f79_0 _ _ | exact R_pick_f _ _ | exact R_f79_1 _ _ | exact R_lenS Tryz.underlying66)
   | refine S_loadB pl3 (by first | assumption | exact heap_old (by assumption) (by assumption)) (by first | assumption | (with_unfolding_all exact rfl)) ?_
   | refine S_loadB pl66 (by first | assumption | exact heap_old (by assumption) (by assumption)) (by first | assumption | (with_unfolding_all exact rfl)) ?_)
      exact bad (.inr (.inr c3))
    rw [if_neg (by omega)] at hm2
    repeat' (with_reducible first
      | refine C_f ?_
      | refine GS_f' ?_
      | refine S_geq_f (by omega) ?_
      | refine S_gtr_f (by omega) ?_
      | refine S_leq_f (by omega) ?_
      | (apply S_R; first | exact R_f79_0 _ _ | exact R_pick_f _ _ | exact R_f79_1 _ _ | exact R_lenS Tryz.underlying66)
      | refine S_loadB pl3 (by first | assumption | exact heap_old (by assumption) (by assumption)) (by first | assumption | (with_unfolding_all exact rfl)) ?_
      | refine S_loadB pl66 (by first | assumption | exact heap_old (by assumption) (by assumption)) (by first | assumption | (with_unfolding_all exact rfl)) ?_)
    have hok := (h1.mem (upT_same ..)).choose_spec.choose_spec.choose_spec.1.ok
    obtain ⟨fp, ⟨mb, bl, tv, hm, rfl⟩, hdf, hlt, hupd⟩ := h1.take (upT_same ..)
    have hdB := hd _ hbm
    have hok2 : Mem.Ok (memB (banksOf (bs.take i) ++ [(num, fillB dat)])) := Mem.Ok.add hok (by omega) (fun p hp => by have := hlast p hp; omega) hdB
    refine S_R R_bank139 ?_
    generalize hz : (Sh.bytes 16384 (fun _ => 0)).toArray = zs
    refine S_box ?_
    have gb := (Grow.alloc w3 (.cells zs 139)).trans (Grow.drew _)
    have hb4 : (drewW (w3.alloc (.cells zs 139))).heap[w3.heap.size]? = some (.cells zs 139 (0, 0)) := heap_alloc_new w3 _
    rw [show (Value.agg zs).cells = zs from rfl]
    generalize drewW (w3.alloc (.cells zs 139)) = w4 at gb hb4
    have hx4 : w4.heap[x]? = some (.cells #[i64 num, .slice da dat.length dc] 79 (0, 0)) := by rw [gb.block x (Array.getElem?_eq_some_iff.1 hx).1]; exact hx
    have hx4' : ∀ w', w' = w4 → w'.heap[x]? = some (.cells #[i64 num, .slice da dat.length dc] 79 (0, 0)) := by rintro _ rfl; exact hx4
    refine ⟨fun w' => w' = w4, rfl, ?_⟩
    repeat' (with_reducible first
      | refine Fl_R (R_arrS Tryz.underlying139 sz5) ?_
      | refine Fl_loadB pl66 hx4' (by with_unfolding_all exact rfl) ?_
      | (apply Fl_R; first | exact R_nil _ | exact R_f79_1 _ _))
    have hsrc := (e3.grow g3).grow gb
    have key : ∀ {K' : K0}, (∀ w5, Grow w3 w5 → w5.heap[w3.heap.size]? = some (.cells (Sh.bytes 16384 (fillB dat)).toArray 139 (0, 0)) → K' (i64 dat.length) w5) → S P (vblt .copy #[66, 66] 3 #[false, false] #[sl w3.heap.size 0 16384 16384, .slice da dat.length dc]) w4 Kp K' := by
      intro K' hK
      cases hdat : dat with
      | nil =>
        subst hdat
        refine S_copyNil Tryz.underlying66 sz5 (hK w4 gb ?_)
        rw [hb4, ← hz]; rfl
      | cons y ys =>
        rw [← hdat]
        obtain ⟨g', o', c', ev2, -, hcell2⟩ := hsrc.at (by rw [hdat]; simp)
        simp only [Value.slice.injEq] at ev2
        obtain ⟨rfl, -, rfl⟩ := ev2
        have hsize : zs.size = 16384 := by rw [← hz]; simp
        refine S_copy (m := dat.length) (cs := dat.map u8) Tryz.underlying66 sz5 hb4 (Nat.min_eq_left (by omega)).symm (by simp) (fun j u hj => by rw [Addr.add_mid]; exact hcell2 j u hj) (by simp; omega) (by simp [Value.oneCell']) (hK _ (Grow.setRow gb (Nat.le_refl _) _) ?_)
        rw [setRow_heap w4 _ _ _ 139 (0, 0) hb4]
        have ec : (zs.toList.take 0 ++ dat.map u8 ++ zs.toList.drop (0 + (dat.map u8).length)) = Sh.bytes 16384 (fillB dat) := by
          rw [← bytes_fill dat (by omega), ← hz, List.length_map, Nat.zero_add, List.take_zero, List.nil_append]
        rw [ec]
    refine key (fun w5 g5 hb5 => ?_)
    have g15 := g3.trans g5
    have hm5 := hm.same (w' := drewW w5) (fun j hj => by rw [(Grow.drew w5).block j (Nat.lt_of_lt_of_le (hlt j hj).2 g15.size)]; exact g15.block j (hlt j hj).2)
    have hd5 := hm5.cells
    have hx5 : (drewW w5).heap[x]? = some (.cells #[i64 num, .slice da dat.length dc] 79 (0, 0)) := (g5.block x (Array.getElem?_eq_some_iff.1 hx).1).trans hx
    have hx5' : ∀ w', w' = drewW w5 → w'.heap[x]? = some (.cells #[i64 num, .slice da dat.length dc] 79 (0, 0)) := by rintro _ rfl; exact hx5
    have hd5' : ∀ w', w' = drewW w5 → w'.heap[d]? = some (.cells (memCells mb (memB (banksOf (bs.take i))) tv).toArray 115 (0, 0)) := by rintro _ rfl; exact hd5
    refine ⟨fun w' => w' = drewW w5, rfl, ?_⟩
    repeat' (with_reducible first
      | refine Fl_loadX pl110 hd5' memF_map ?_
      | refine Fl_loadB pl3 hx5' (by with_unfolding_all exact rfl) ?_
      | (apply Fl_R; first | exact R_nil _ | exact R_f79_0 _ _ | exact R_f115_0 _ _ | exact R_toU8i Tryz.underlying3 Tryz.underlying5 (by omega)))
    have hnone : mfind num (kvs (banksOf (bs.take i)) bl) = none := kvs_none (fun p hp e => by have := hlast p hp; omega)
    refine S_mupdNew Tryz.underlying110 Tryz.underlying5 hnone hm5.map ?_
    repeat' (with_reducible (apply S_R; exact R_addi (by omega)))
    have hadd := hm.add (g15.trans (Grow.drew w5)) (fun j hj => (hlt j hj).2) (show (drewW w5).heap[w3.heap.size]? = _ from hb5) g3.size hok2
    have hbig := gb.size
    have hsz5 : w3.heap.size < w5.heap.size := (Array.getElem?_eq_some_iff.1 hb5).1
    have hfin : Rep w.heap.size w (upT (fun _ => none) d (memory (memB (banksOf (bs.take (i + 1)))))) { drewW w5 with heap := (drewW w5).heap.setIfInBounds mb (mapOb .u8 (kvs (banksOf (bs.take i)) bl ++ [(num, ptr w3.heap.size 0)])) } := by
      rw [htake]
      have := hupd (memory (memB (banksOf (bs.take i) ++ [(num, fillB dat)]))) _ _ ⟨mb, bl ++ [w3.heap.size], tv, hadd, rfl⟩ (by simp) (fun j hj => ?_) (fun j hj => ?_) (g15.os) (g15.tape) (g15.output) ?_ (fun j hj hn => ?_)
      · rw [upT_upT] at this
        unfold banksOf at this ⊢
        rw [List.map_append]; exact this
      · simp only [List.mem_cons, List.mem_append, List.not_mem_nil, or_false] at hj ⊢
        rcases hj with rfl | rfl | (hj | rfl) | hj
        · exact .inl (.inl rfl)
        · exact .inl (.inr (.inl rfl))
        · exact .inl (.inr (.inr (.inl hj)))
        · exact .inr g3.size
        · exact .inl (.inr (.inr (.inr hj)))
      · show j < (w5.heap.setIfInBounds mb _).size
        rw [Array.size_setIfInBounds]
        simp only [List.mem_cons, List.mem_append, List.not_mem_nil, or_false] at hj
        rcases hj with rfl | rfl | (hj | rfl) | hj
        · exact Nat.lt_of_lt_of_le (hlt j (by simp)).2 g15.size
        · exact Nat.lt_of_lt_of_le (hlt j (by simp)).2 g15.size
        · exact Nat.lt_of_lt_of_le (hlt j (by simp [hj])).2 g15.size
        · exact hsz5
        · exact Nat.lt_of_lt_of_le (hlt j (by simp only [List.mem_cons, List.mem_append]; exact .inr (.inr (.inr hj)))).2 g15.size
      · show _ ≤ (w5.heap.setIfInBounds mb _).size
        rw [Array.size_setIfInBounds]; exact g15.size
      · show (w5.heap.setIfInBounds mb _)[j]? = _
        rw [Array.getElem?_setIfInBounds_ne (fun e => hn (by rw [e]; simp))]
        exact g15.block j hj
    refine next hi' (num, ptr x 0) _ ⟨hfin, hfin.toGrow, by rw [hmay, hm2], ?_, by omega⟩
    rw [htake]
    unfold banksOf
    rw [List.map_append]
    intro p hp
    rcases List.mem_append.1 hp with hp | hp
    · have := hlast p hp; omega
    · simp at hp; subst hp; simp
  · have : i = bs.length := by omega
    subst this
    rw [List.take_length] at h1
    rw [List.drop_length] at hmay
    exact k1 hmay d w1 hTd (by omega) g1 (h.frame h1 (upT_same ..))
end
end Go.Proofs.YtebmnfmiphbgdaaGreatDoor
namespace Go.Proofs.YtebmnfmiphbgdaaGreatDoor
open Go.Sh
section
variable {w w0 : World} {Kp : KP} {K : K0} {B : Nat} {T : Store}
theorem fill_step {d : List Int} {i N : Nat} {x : Int} (h : d[i]? = some x) : (Sh.bytes N (fillB (d.take i))).set i (u8 x) = Sh.bytes N (fillB (d.take (i + 1))) := by
  rw [bytes_set]
  congr 1
  funext j
  unfold fset fillB
  rw [List.getD_eq_getElem?_getD, List.getD_eq_getElem?_getD, List.getElem?_take, List.getElem?_take]
  by_cases e : j = i
  · subst e; rw [if_pos rfl, if_pos (by omega), h]; rfl
  · rw [if_neg e]
    by_cases hj : j < i
    · rw [if_pos hj, if_pos (by omega)]
    · rw [if_neg hj, if_neg (by omega)]
theorem full_spec {d : List Int} {v : Value} {N : Nat} (hv : Sees w v d.length (d.map u8)) (hd : d.length ≤ N) (hN : N ≤ 100000)
    (K1 : ∀ b w', Grow w w' → w.heap.size ≤ b → w'.heap[b]? = some (.cells (Sh.bytes N (fillB d)).toArray 5 (0, 0)) → K (sl b 0 N N) w') : Calls P 62 #[v, i64 (N : Int)] w (EndsS Kp K) := by
  obtain ⟨va, vc, rfl, hvc⟩ := hv.size
  refine F62_calls ?_
  unfold F62
  refine S_mkSR Tryz.underlying66 in5 rfl (by show N * 1 ≤ _; omega) (by show 1 * N ≤ _; omega) (by omega) (Rep.start w) (fun b w1 hb h1 => ?_)
  refine S_R (R_lenS Tryz.underlying66) ?_
  have hb1 := (h1.lt (upT_same ..)).1
  refine loop_count (fun i (_ : Unit) => upd 0 (.slice va d.length vc) (upd 4 (.slice none 0 0) (upd 5 (sl b 0 N N) (upd 10 (i64 (d.length : Int)) (upd 11 (i64 (i : Int)) E0))))) 11 .i64 d.length
    (fun i _ w' => Rep w.heap.size w (upT (fun _ => none) b (raw (Sh.bytes N (fillB (d.take i))).toArray 5)) w') () (fun _ _ => rfl) rfl ?_ ?_
  · have e : madeCells (u8 0).cells (N * 1) = (Sh.bytes N (fillB (d.take 0))).toArray := by
      apply Array.ext'; rw [made_one _ _ rfl, bytes_zero]; rfl
    rw [← e]; exact h1
  rintro i - w2 KL hi h2 next
  try simp (decide := true) only [upd_hit, upd_miss]
  refine S_lss (fun hc => C_t ?_) (fun hc => C_f ?_)
  · have hi' : i < d.length := by omega
    obtain ⟨x, hx⟩ : ∃ x, d[i]? = some x := ⟨_, List.getElem?_eq_getElem hi'⟩
    obtain ⟨vg, vo, vc', e1, -, hcell⟩ := (hv.grow h2.toGrow).at (by intro e; rw [List.map_eq_nil_iff] at e; subst e; simp at hx)
    simp only [Value.slice.injEq] at e1
    obtain ⟨rfl, -, rfl⟩ := e1
    have hc0 : w2.cell? ⟨vg, vo + (i : Int).toNat * 1, none⟩ = some (u8 x) := by
      rw [Int.toNat_natCast, Nat.mul_one]
      exact hcell i _ (by rw [List.getElem?_map, hx]; rfl)
    repeat' (with_reducible first
      | refine S_loadC pl5 hc0 ?_
      | (apply S_R; exact R_ixA Tryz.underlying66 sz5 (by omega) (by omega)))
    refine S_storeR sz5 h2 (upT_same ..) (by rw [Nat.blt_eq]; simp; omega) rfl (fun w3 h3 => ?_)
    rw [upT_upT] at h3
    repeat' (with_reducible (apply S_R; exact R_addi (by omega)))
    have e3 : (Sh.bytes N (fillB (d.take i))).toArray.setIfInBounds (0 + (i : Int).toNat * 1) (u8 x) = (Sh.bytes N (fillB (d.take (i + 1)))).toArray := by
      rw [Nat.zero_add, Int.toNat_natCast, Nat.mul_one, ← fill_step hx]
      apply Array.ext'; rw [Array.toList_setIfInBounds]
    rw [e3] at h3
    exact next hi' () w3 h3
  · have : i = d.length := by omega
    subst this
    rw [List.take_length] at h2
    exact K1 b w2 h2.toGrow hb1 (h2.raw (upT_same ..))
theorem mayBanks_spec {bs : List Bk} {v : Value} (hv : BanksIn w v bs) (hn : bs.length ≤ 281474976710656) (K1 : ∀ w', Grow w w' → K (.bool (mayB (-1) bs)) w') : Calls P 61 #[v] w (EndsS Kp K) := by
  obtain ⟨va, vc, rfl, hvc⟩ : ∃ a c, v = .slice a bs.length c ∧ bs.length ≤ c := by obtain ⟨_, h1, _⟩ := hv; exact h1.size
  refine F61_calls ?_
  unfold F61
  refine S_R (R_lenS Tryz.underlying65) ?_
  refine loop_count (fun i (s : Int × Value) => upd 2 (.bool false) (upd 3 (i64 s.1) (upd 5 s.2 (upd 6 (.slice va bs.length vc) (upd 7 (i64 (bs.length : Int)) (upd 8 (i64 (i : Int)) E0)))))) 8 .i64 bs.length
    (fun i s w' => Grow w w' ∧ mayB (-1) bs = mayB s.1 (bs.drop i)) (-1, undef) (fun _ _ => rfl) rfl ⟨Grow.refl _, rfl⟩ ?_
  rintro i ⟨last, v7⟩ w1 KL hi ⟨g1, hmay⟩ next
  try simp (decide := true) only [upd_hit, upd_miss]
  refine S_lss (fun hc => C_t ?_) (fun hc => C_f ?_)
  · have hi' : i < bs.length := by omega
    obtain ⟨b, hb⟩ : ∃ b, bs[i]? = some b := ⟨_, List.getElem?_eq_getElem hi'⟩
    obtain ⟨num, dat⟩ := b
    have hdrop : bs.drop i = (num, dat) :: bs.drop (i + 1) := by
      have h1 := List.drop_eq_getElem_cons (l := bs) (i := i) hi'
      obtain ⟨_, e⟩ := List.getElem_of_getElem? hb
      rw [h1, e]
    obtain ⟨dvs, hs, hda⟩ := hv.grow g1
    obtain ⟨dv, e1, e2, e3, e4⟩ := hda.get hb
    obtain ⟨da, dc, rfl, hdc⟩ := e3.size
    obtain ⟨vg, vo, vc', ev, -, hcell⟩ := hs.at (by intro e; rw [e] at e1; simp at e1)
    simp only [Value.slice.injEq] at ev
    obtain ⟨rfl, -, rfl⟩ := ev
    refine S_R (R_ixA Tryz.underlying65 sz79 (by omega) (by omega)) ?_
    refine S_loadRowC (cs := [i64 num, .slice da dat.length dc]) rw79 sz79 (fun j u hj => ?_) ?_
    · rw [Int.toNat_natCast]
      match j, hj with
      | 0, hj => simp at hj; subst hj; exact hcell _ _ e1
      | 1, hj => simp at hj; subst hj; exact hcell _ _ e2
    refine S_alloc zr79 ?_
    refine S_storeRow sz79 (heap_alloc_new _ _) rfl rfl ?_
    rw [show (Value.agg #[Value.int IntKind.i64 0, Value.slice none 0 0]).cells = #[i64 0, .slice none 0 0] from rfl, setRow_alloc_new]
    have hx : (w1.alloc (.cells #[i64 num, .slice da dat.length dc] 79)).heap[w1.heap.size]? = some (.cells #[i64 num, .slice da dat.length dc] 79 (0, 0)) := heap_alloc_new w1 _
    have g3 := Grow.alloc w1 (.cells #[i64 num, .slice da dat.length dc] 79)
    generalize w1.alloc (.cells #[i64 num, .slice da dat.length dc] 79) = w3 at hx g3
    generalize w1.heap.size = x at hx
    have hm2 : mayB last (bs.drop i) = if num ≤ last ∨ num > 15 ∨ dat.length > 16384 then false else mayB num (bs.drop (i + 1)) := by rw [hdrop]; rfl
    have bad : (num ≤ last ∨ num > 15 ∨ dat.length > 16384) → K (.bool false) w3 := fun hb => by
      have := K1 w3 (g1.trans g3)
      rw [hmay, hm2, if_pos hb] at this; exact this
    by_cases c1 : num ≤ last
    · repeat' (with_reducible first
   | refine C_t ?_
   | refine GS_t' ?_
   | refine S_leq_t (by omega) ?_
   | (apply S_R; first | exact R_f79_0 _ _ | exact R_pick_t _ _)
   | refine S_loadB pl3 (by first | assumption | exact heap_old (by assumption) (by assumption)) (by first | assumption | (with_unfolding_all exact rfl)) ?_)
      exact bad (.inl c1)
    by_cases c2 : num > 15
    · repeat' (with_reducible first
   | refine C_t ?_
   | refine GS_t' ?_
   | refine GS_f' ?_
   | refine S_gtr_t (by omega) ?_
   | refine S_leq_f (by omega) ?_
   | (apply S_R; first | exact R_f79_0 _ _ | exact R_pick_t _ _ | exact R_pick_f _ _)
   | refine S_loadB pl3 (by first | assumption | exact heap_old (by assumption) (by assumption)) (by first | assumption | (with_unfolding_all exact rfl)) ?_)
      exact bad (.inr (.inl c2))
    by_cases c3 : dat.length > 16384
    · repeat' (with_reducible first
   | refine C_t ?_
   | refine GS_f' ?_
   | refine S_gtr_t (by omega) ?_
   | refine S_gtr_f (by omega) ?_
   | refine S_leq_f (by omega) ?_
   | (apply S_R; first | exact R_f79_0 _ _ | exact R_pick_f _ _ | exact R_f79_1 _ _ | exact R_lenS Tryz.underlying66)
   | refine S_loadB pl3 (by first | assumption | exact heap_old (by assumption) (by assumption)) (by first | assumption | (with_unfolding_all exact rfl)) ?_
   | refine S_loadB pl66 (by first | assumption | exact heap_old (by assumption) (by assumption)) (by first | assumption | (with_unfolding_all exact rfl)) ?_)
      exact bad (.inr (.inr c3))
    rw [if_neg (by omega)] at hm2
    repeat' (with_reducible first
      | refine C_f ?_
      | refine GS_f' ?_
      | refine S_gtr_f (by omega) ?_
      | refine S_leq_f (by omega) ?_
      | (apply S_R; first | exact R_f79_0 _ _ | exact R_pick_f _ _ | exact R_f79_1 _ _ | exact R_lenS Tryz.underlying66 | exact R_addi (by omega))
      | refine S_loadB pl3 (by first | assumption | exact heap_old (by assumption) (by assumption)) (by first | assumption | (with_unfolding_all exact rfl)) ?_
      | refine S_loadB pl66 (by first | assumption | exact heap_old (by assumption) (by assumption)) (by first | assumption | (with_unfolding_all exact rfl)) ?_)
    exact next hi' (num, ptr x 0) _ ⟨g1.trans g3, hmay.trans hm2⟩
  · have : i = bs.length := by omega
    subst this
    rw [List.drop_length] at hmay
    have := K1 w1 g1
    rw [hmay] at this; exact this
end
end Go.Proofs.YtebmnfmiphbgdaaGreatDoor
