/- A part of the proof of a law: texts of this claim, joined by a program of the prover (Rn2, We1, We2, We3, We4, Pk, We5). Conditions: those that each law names. -/
import Derived.Test.YtebmnfmiphbgdaaGreatDoorEachD
set_option linter.unusedVariables false
set_option linter.unusedSimpArgs false
set_option linter.unusedSectionVars false
set_option linter.unnecessarySimpa false
namespace Go.Proofs.YtebmnfmiphbgdaaGreatDoor
open Go.Sh
section
variable {w w0 : World} {Kp : KP} {K : K0} {B : Nat} {T : Store}
theorem R_b69 (r q : Nat) : R P (vbuild 69 #[(1, sl r 0 16384 16384), (2, sl q 0 3072 3072)]) (.agg (refCells (.slice none 0 0) r q mem0 (.slice none 0 0)).toArray) := ⟨fun w => by kernel_rfl⟩
theorem R_b79 (n : Int) (b : Nat) : R P (vbuild 79 #[(0, i64 n), (1, sl b 0 16384 16384)]) (.agg #[i64 n, sl b 0 16384 16384]) := ⟨fun w => by kernel_rfl⟩
theorem S_bs65 {n : Int} {b : Nat} (K1 : ∀ v w', New w w' 79 2 1 [i64 n, sl b 0 16384 16384] v → K v w') : S P (vbuildS 65 1 #[(0, .agg #[i64 n, sl b 0 16384 16384])]) w Kp K := by
  have hrun : (vbuildS 65 1 #[(0, .agg #[i64 n, sl b 0 16384 16384])]).run P w = .ok (.value (sl w.heap.size 0 1 1)) (w.alloc (.cells #[i64 n, sl b 0 16384 16384] 79)) := by kernel_rfl
  exact S_run hrun (K1 _ _ (New.block (xs := [i64 n, sl b 0 16384 16384]) rfl (by unfold maxLen; omega)))
theorem refNew_start {w4 : World} {z r q : Nat} (g : Grow w w4) (hz : w.heap.size ≤ z) (hr : w.heap.size ≤ r) (hq : w.heap.size ≤ q) (n1 : z ≠ r) (n2 : z ≠ q) (n3 : r ≠ q)
    (cz : w4.heap[z]? = some (.cells (refCells (.slice none 0 0) r q mem0 (.slice none 0 0)).toArray 69 (0, 0))) (cr : w4.heap[r]? = some (.cells (Sh.bytes 16384 fun _ => 0).toArray 5 (0, 0))) (cq : w4.heap[q]? = some (.cells (Sh.bytes 3072 fun _ => 0).toArray 5 (0, 0))) :
    Rep w.heap.size w (upT (fun _ => none) z (refmem mem0)) w4 := by
  refine (Rep.start w).new g (fp := [z, r, q]) ⟨.slice none 0 0, r, q, [], .slice none 0 0, ⟨cz, ⟨rfl, .inl ⟨rfl, rfl⟩⟩, trivial, cr, cq, ⟨rfl, .inl ⟨rfl, rfl⟩⟩, ?_, mem0_ok⟩, rfl⟩ (by simp) (fun j hj => ?_)
  · simp [Value.ownBlock, n1, n2, n3]
  · simp at hj
    rcases hj with rfl | rfl | rfl
    · exact ⟨hz, (Array.getElem?_eq_some_iff.1 cz).1⟩
    · exact ⟨hr, (Array.getElem?_eq_some_iff.1 cr).1⟩
    · exact ⟨hq, (Array.getElem?_eq_some_iff.1 cq).1⟩
theorem tri_alloc (w : World) (a b c : Obj) : Grow w (((w.alloc a).alloc b).alloc c) ∧ (w.alloc a).heap.size = w.heap.size + 1 ∧ ((w.alloc a).alloc b).heap.size = w.heap.size + 2 ∧
    (((w.alloc a).alloc b).alloc c).heap[w.heap.size]? = some a ∧ (((w.alloc a).alloc b).alloc c).heap[w.heap.size + 1]? = some b ∧ (((w.alloc a).alloc b).alloc c).heap[w.heap.size + 2]? = some c := by
  have s1 : (w.alloc a).heap.size = w.heap.size + 1 := by simp
  have s2 : ((w.alloc a).alloc b).heap.size = w.heap.size + 2 := by simp
  refine ⟨((Grow.alloc w a).trans (Grow.alloc _ b)).trans (Grow.alloc _ c), s1, s2, ?_, ?_, ?_⟩
  · rw [heap_alloc_old _ _ _ (by omega), heap_alloc_old _ _ _ (by omega)]; exact heap_alloc_new w a
  · rw [heap_alloc_old _ _ _ (by omega), ← s1]; exact heap_alloc_new _ b
  · rw [← s2]; exact heap_alloc_new _ c
theorem mayB_at : ∀ {bs : List Bk} {last : Int} {i : Nat} {b : Bk}, mayB last bs = true → bs[i]? = some b → (last < b.1 ∧ b.1 ≤ 15) ∧ b.2.length ≤ 16384 ∧ ∀ p ∈ bs.take i, p.1 < b.1
  | [], _, i, b, _, h => by simp at h
  | (n, d) :: l, last, i, b, hm, h => by
    unfold mayB at hm
    split at hm
    · cases hm
    · rename_i hc
      cases i with
      | zero => simp at h; subst h; exact ⟨(by show last < n ∧ n ≤ 15; omega), (by show d.length ≤ 16384; omega), by simp⟩
      | succ i =>
        obtain ⟨h1, h2, h3⟩ := mayB_at hm (by simpa using h)
        refine ⟨by omega, h2, fun p hp => ?_⟩
        rw [List.take_succ_cons] at hp
        rcases List.mem_cons.1 hp with rfl | hp
        · exact h1.1
        · exact h3 p hp
theorem mayB_len : ∀ {bs : List Bk} {last : Int}, mayB last bs = true → last ≤ 15 → (bs.length : Int) ≤ 15 - last
  | [], last, _, h => by simp; omega
  | (n, d) :: l, last, hm, _ => by
    unfold mayB at hm
    split at hm
    · cases hm
    · have := mayB_len hm (by omega)
      simp only [List.length_cons]; omega
theorem made_bytes (n : Nat) : madeCells (u8 0).cells (n * 1) = (Sh.bytes n fun _ => 0).toArray := by apply Array.ext'; rw [made_one _ _ rfl, bytes_zero]
set_option maxHeartbeats 4000000 in
theorem refNew_spec {bs : List Bk} {v : Value} (h : Rep B w0 T w) (hv : BanksIn w v bs) (hn : bs.length ≤ 281474976710656) (hd : ∀ b ∈ bs, ∀ x ∈ b.2, isB x)
    (k1 : mayB (-1) bs = true → ∀ z w', T z = none → w.heap.size ≤ z → Grow w w' → Rep B w0 (upT T z (refmem (memB (banksOf bs)))) w' → K (.tuple #[ptr z 0, i64 0]) w')
    (k2 : mayB (-1) bs = false → ∀ w', Grow w w' → Rep B w0 T w' → K (.tuple #[nilp, i64 2]) w') : Calls P 38 #[v] w (EndsS Kp K) := by
  obtain ⟨va, vc, rfl, hvc⟩ : ∃ a c, v = .slice a bs.length c ∧ bs.length ≤ c := by obtain ⟨_, h1, _⟩ := hv; exact h1.size
  refine F38_calls ?_
  unfold F38
  refine S_c61 (mayBanks_spec hv hn (fun w1 g1 => ?_))
  by_cases hm : mayB (-1) bs = true
  · rw [hm]
    refine S_R R_not_t (C_f ⟨fun _ => True, trivial, ?_⟩)
    have hmk : ∀ {w : World} {K : K0} {n : Int}, 0 ≤ n → n ≤ 16384 → K (sl w.heap.size 0 n.toNat n.toNat) (w.alloc (.cells (Sh.bytes n.toNat fun _ => 0).toArray 5)) → S P (vmkS 66 (i64 n) (i64 n)) w Kp K := fun h0 h1 hk => by
      refine S_mkS Tryz.underlying66 in5 rfl h0 (by omega) (by show _ * 1 ≤ _; omega) (by show (1 : Int) * _ ≤ _; omega) (by omega) ?_
      rw [show ∀ n : Nat, n * Tryz.t5.size = n * 1 from fun _ => rfl, made_bytes]; exact hk
    have start : ∀ (w4 : World) (z r q : Nat), Grow w w4 → w.heap.size ≤ z → w.heap.size ≤ r → w.heap.size ≤ q → z ≠ r → z ≠ q → r ≠ q →
        w4.heap[z]? = some (.cells (refCells (.slice none 0 0) r q mem0 (.slice none 0 0)).toArray 69 (0, 0)) → w4.heap[r]? = some (.cells (Sh.bytes 16384 fun _ => 0).toArray 5 (0, 0)) → w4.heap[q]? = some (.cells (Sh.bytes 3072 fun _ => 0).toArray 5 (0, 0)) →
        Rep w.heap.size w (upT (fun _ => none) z (refmem mem0)) w4 := fun w4 z r q => refNew_start
    have sd : w.heap.size ≤ (drewW w1).heap.size := (g1.trans (Grow.drew w1)).size
    have gd : Grow w (drewW w1) := g1.trans (Grow.drew w1)
    generalize drewW w1 = w2 at sd gd
    refine ⟨?_, ?_⟩
    refine hmk (by omega) (by omega) ⟨fun _ => True, trivial, ?_⟩
    refine hmk (by omega) (by omega) ⟨trivial, ?_⟩
    refine Fl_R (R_b69 _ _) ?_
    refine S_box ?_
    obtain ⟨g4, s1, s2, c1, c2, c3⟩ := tri_alloc w2 (.cells (Sh.bytes (16384 : Int).toNat fun _ => 0).toArray 5) (.cells (Sh.bytes (3072 : Int).toNat fun _ => 0).toArray 5) (.cells (Value.agg (refCells (.slice none 0 0) (w2.heap.size + 0) (w2.heap.size + 1) mem0 (.slice none 0 0)).toArray).cells 69)
    rw [s1, s2]
    have h4 := start _ (w2.heap.size + 2) (w2.heap.size + 0) (w2.heap.size + 1) (gd.trans g4) (by omega) (by omega) (by omega) (by omega) (by omega) (by omega) c3 c1 c2
    generalize ((w2.alloc _).alloc _).alloc _ = w4 at h4
    have hzz : w.heap.size ≤ w2.heap.size + 2 := by omega
    generalize w2.heap.size + 2 = z at h4 hzz
    refine ⟨fun _ => True, trivial, ?_⟩
    rotate_left
    refine hmk (by omega) (by omega) ⟨fun _ => True, trivial, ?_⟩
    refine hmk (by omega) (by omega) ⟨trivial, ?_⟩
    refine Fl_R (R_b69 _ _) ?_
    refine S_box ?_
    obtain ⟨g4, s1, s2, c1, c2, c3⟩ := tri_alloc w2 (.cells (Sh.bytes (3072 : Int).toNat fun _ => 0).toArray 5) (.cells (Sh.bytes (16384 : Int).toNat fun _ => 0).toArray 5) (.cells (Value.agg (refCells (.slice none 0 0) (w2.heap.size + 1) (w2.heap.size + 0) mem0 (.slice none 0 0)).toArray).cells 69)
    rw [s1, s2]
    have h4 := start _ (w2.heap.size + 2) (w2.heap.size + 1) (w2.heap.size + 0) (gd.trans g4) (by omega) (by omega) (by omega) (by omega) (by omega) (by omega) c3 c2 c1
    generalize ((w2.alloc _).alloc _).alloc _ = w4 at h4
    have hzz : w.heap.size ≤ w2.heap.size + 2 := by omega
    generalize w2.heap.size + 2 = z at h4 hzz
    refine ⟨fun _ => True, trivial, ?_⟩
    all_goals
      refine S_R (R_lenS Tryz.underlying65) ?_
      refine loop_count (fun i (_ : Unit) => upd 0 (.slice va bs.length vc) (upd 2 nilp (upd 3 (i64 0) (upd 4 (ptr z 0) (upd 14 (.slice va bs.length vc) (upd 15 (i64 (bs.length : Int)) (upd 16 (i64 (i : Int)) E0))))))) 16 .i64 bs.length
        (fun i _ w' => Rep w.heap.size w (upT (fun _ => none) z (refmem (memB (banksOf (bs.take i))))) w') () (fun _ _ => rfl) rfl h4 ?_
      rintro i - w5 KL hi h5 next
      try simp (decide := true) only [upd_hit, upd_miss]
      refine S_lss (fun hc => C_t ?_) (fun hc => C_f ?_)
      · have hi' : i < bs.length := by omega
        obtain ⟨b, hb⟩ : ∃ b, bs[i]? = some b := ⟨_, List.getElem?_eq_getElem hi'⟩
        have hbm := List.mem_of_getElem? hb
        obtain ⟨num, dat⟩ := b
        have hdrop : bs.drop i = (num, dat) :: bs.drop (i + 1) := by
          have h1 := List.drop_eq_getElem_cons (l := bs) (i := i) hi'
          obtain ⟨_, e⟩ := List.getElem_of_getElem? hb
          rw [h1, e]
        have htake : bs.take (i + 1) = bs.take i ++ [(num, dat)] := by rw [List.take_add_one, hb]; rfl
        obtain ⟨hnum, hdat, hprev⟩ := mayB_at hm hb
        obtain ⟨dvs, hs, hda⟩ := hv.grow h5.toGrow
        obtain ⟨dv, e1, e2, e3, e4⟩ := hda.get hb
        obtain ⟨da, dc, rfl, hdc⟩ := e3.size
        obtain ⟨vg, vo, vc', ev, -, hcell⟩ := hs.at (by intro e; rw [e] at e1; simp at e1)
        simp only [Value.slice.injEq] at ev
        obtain ⟨rfl, -, rfl⟩ := ev
        refine S_R (R_ixA Tryz.underlying65 sz79 (by omega) (by omega)) ?_
        refine S_loadRowC (cs := [i64 num, .slice da dat.length dc]) rw79 sz79 (fun j u hj => ?_) ?_
        · rw [Int.toNat_natCast]
          match j, hj with
          | 0, hj => simp at hj; subst hj; exact hcell _ _ e1
          | 1, hj => simp at hj; subst hj; exact hcell _ _ e2
        refine S_alloc zr79 ?_
        refine S_storeRow sz79 (heap_alloc_new _ _) rfl rfl ?_
        rw [show (Value.agg #[Value.int IntKind.i64 0, Value.slice none 0 0]).cells = #[i64 0, .slice none 0 0] from rfl, setRow_alloc_new]
        have hx : (w5.alloc (.cells #[i64 num, .slice da dat.length dc] 79)).heap[w5.heap.size]? = some (.cells #[i64 num, .slice da dat.length dc] 79 (0, 0)) := heap_alloc_new w5 _
        have g6 := (Grow.alloc w5 (.cells #[i64 num, .slice da dat.length dc] 79)).trans (Grow.drew _)
        have hx6 : (drewW (w5.alloc (.cells #[i64 num, .slice da dat.length dc] 79))).heap[w5.heap.size]? = some (.cells #[i64 num, .slice da dat.length dc] 79 (0, 0)) := hx
        generalize drewW (w5.alloc (.cells #[i64 num, .slice da dat.length dc] 79)) = w6 at hx6 g6
        obtain ⟨bv, rb, sb, bl, tv, hmr, hlt, hadd⟩ := h5.refAdd (upT_same ..)
        have hz6 : w6.heap[z]? = some (.cells (refCells bv rb sb (memB (banksOf (bs.take i))) tv).toArray 69 (0, 0)) := by rw [g6.block z (hlt z (by simp))]; exact hmr.cells
        refine ⟨fun w' => w'.heap[z]? = some (.cells (refCells bv rb sb (memB (banksOf (bs.take i))) tv).toArray 69 (0, 0)) ∧ w'.heap[w5.heap.size]? = some (.cells #[i64 num, .slice da dat.length dc] 79 (0, 0)), ⟨hz6, hx6⟩, ?_⟩
        repeat' (with_reducible first
          | (apply Fl_R; first | exact R_nil _ | exact R_f69_0 _ _ | exact R_f79_0 _ _ | exact R_f79_1 _ _)
          | refine Fl_loadB pl65 (fun w hw => (by first | assumption | exact hw | exact hw.1 | exact hw.2 | exact hw.2.1 | exact hw.2.2)) (by first | assumption | (with_unfolding_all exact rfl)) ?_
          | refine Fl_loadB pl3 (fun w hw => (by first | assumption | exact hw | exact hw.1 | exact hw.2 | exact hw.2.1 | exact hw.2.2)) (by first | assumption | (with_unfolding_all exact rfl)) ?_
          | refine Fl_loadB pl66 (fun w hw => (by first | assumption | exact hw | exact hw.1 | exact hw.2 | exact hw.2.1 | exact hw.2.2)) (by first | assumption | (with_unfolding_all exact rfl)) ?_)
        refine S_c62 (full_spec (d := dat) (N := 16384) (e3.grow g6) hdat (by omega) (fun fb w7 g7 hfb hfc => ?_))
        have hz7 := (g7.block z (Nat.lt_of_lt_of_le (hlt z (by simp)) g6.size)).trans hz6
        have hx7 := (g7.block _ (Array.getElem?_eq_some_iff.1 hx6).1).trans hx6
        refine ⟨⟨hz7, hx7⟩, ?_⟩
        refine Fl_R (R_b79 _ _) ?_
        refine S_bs65 (fun v8 w8 hN8 => ?_)
        have hz8 := (hN8.grow.block z (Array.getElem?_eq_some_iff.1 hz7).1).trans hz7
        have hx8 := (hN8.grow.block _ (Array.getElem?_eq_some_iff.1 hx7).1).trans hx7
        refine ⟨⟨hz8, hx8⟩, ?_⟩
        have g58 := (g6.trans g7).trans hN8.grow
        have hown8 : w8.ownsRow 0 79 2 bv (memB (banksOf (bs.take i))).banks.length (bankCells (memB (banksOf (bs.take i))).banks bl) := ownsRow_same hmr.row (fun g hg => g58.block g (hlt g (by simp [hg])))
        obtain ⟨ng, no, nc, rfl, hnc, hncell⟩ := hN8.sees.at (by simp)
        have hlen16 := mayB_len hm (by omega)
        have hlen : (memB (banksOf (bs.take i))).banks.length ≤ bs.length := by show (banksOf (bs.take i)).length ≤ _; unfold banksOf; simp; omega
        refine S_append (base := 0) Tryz.underlying65 in79 rfl rfl (by with_unfolding_all decide) hown8 (m := 1) (news := [i64 num, sl fb 0 16384 16384]) rfl (fun j u hj => by rw [Addr.add_mid]; exact hncell j u hj) (fun u hu => by simp at hu; rcases hu with rfl | rfl <;> rfl) (by unfold maxLen; omega) (by show (_ + 1) * 32 ≤ _; omega) (Nat.zero_le _) (fun bv' w9 hown9 hg9 _ hblk => ?_)
        have hz9 := (hg9.block z (Array.getElem?_eq_some_iff.1 hz8).1 (fun e => hmr.ne.dbv e.symm)).trans hz8
        have hx9 := (hg9.block _ (Array.getElem?_eq_some_iff.1 hx8).1 (fun e => by have := hlt _ (show w5.heap.size ∈ _ from (by simp [e])); omega)).trans hx8
        refine ⟨⟨hz9, hx9⟩, ?_⟩
        repeat' (with_reducible (apply Fl_R; first | exact R_nil _ | exact R_f69_0 _ _))
        have hok5 := hmr.ok
        have hprev' : ∀ p ∈ banksOf (bs.take i), p.1 < num := fun p hp => by
          unfold banksOf at hp
          obtain ⟨q, hq, rfl⟩ := List.mem_map.1 hp
          exact hprev q hq
        have hrep := hadd num (fillB dat) fb w8 w9 bv' g58 ((hN8.grow.block fb (Array.getElem?_eq_some_iff.1 hfc).1).trans hfc) (Nat.le_trans g6.size hfb) hown9 hg9 hblk (Mem.Ok.add hok5 (by have : (num, dat).1 = num := rfl; omega) hprev' (hd _ hbm))
        refine S_storeB sz65 hz9 (by simp [refCells]) (own_row_one hown9) ?_
        rw [show (refCells bv rb sb (memB (banksOf (bs.take i))) tv).toArray.setIfInBounds 0 bv' = (refCells bv' rb sb (memB (banksOf (bs.take i))) tv).toArray from rfl]
        repeat' (with_reducible (apply S_R; exact R_addi (by omega)))
        refine next hi' () _ ?_
        rw [upT_upT] at hrep
        rw [htake]
        unfold banksOf at hrep ⊢
        rw [List.map_append]
        exact hrep
      · have : i = bs.length := by omega
        subst this
        rw [List.take_length] at h5
        exact k1 hm z w5 (h.fresh hzz) hzz h5.toGrow (h.frame h5 (upT_same ..))
  · have hm : mayB (-1) bs = false := by simpa using hm
    rw [hm]
    refine S_R R_not_f (C_t ?_)
    exact k2 hm w1 g1 (h.grow g1)
end
end Go.Proofs.YtebmnfmiphbgdaaGreatDoor
namespace Go.Proofs.YtebmnfmiphbgdaaGreatDoor
open Go.Sh
section
variable {w w0 : World} {Kp : KP} {K : K0} {B : Nat} {T : Store}
theorem sees_none {n sz : Nat} {c : Nat} {xs : List Value} (h : Sees w (.slice none n c) n xs) (hl : xs.length = n * sz) (hsz : 0 < sz) : n = 0 ∧ xs = [] := by
  obtain ⟨a, c', e, _, hx⟩ := h.sees
  simp only [Value.slice.injEq] at e
  obtain ⟨rfl, -, rfl⟩ := e
  have : xs = [] := by
    cases xs with
    | nil => rfl
    | cons u xs => obtain ⟨g, o, e, _⟩ := hx 0 u rfl; cases e
  subst this
  rcases Nat.eq_zero_or_pos n with h | h
  · exact ⟨h, rfl⟩
  · have := Nat.mul_pos h hsz; rw [← hl] at this; simp at this
theorem put_none {b o : Nat} {lim : Int} {a : Option Addr} {c : Nat} (k : K (.bool true) w) : Calls P 57 #[ptr b o, i64 lim, .slice a 0 c] w (EndsS Kp K) := by
  refine F57_calls ?_
  unfold F57
  repeat' (with_reducible first
    | refine C_t ?_
    | refine S_eql_t (by omega) ?_
    | (apply S_R; exact R_lenS Tryz.underlying22))
  exact k
theorem putR_none {b o : Nat} {lim : Int} {a : Option Addr} {c : Nat} (k : K (.bool true) w) : Calls P 58 #[ptr b o, i64 lim, .slice a 0 c] w (EndsS Kp K) := by
  refine F58_calls ?_
  unfold F58
  repeat' (with_reducible first
    | refine C_t ?_
    | refine S_eql_t (by omega) ?_
    | (apply S_R; exact R_lenS Tryz.underlying23))
  exact k
theorem push_any {d t n m : Nat} {xs ys : List Value} {v : Value} (h : Rep B w0 T w) (hT : T d = some (pile 41 1 t xs n)) (hn : n ≤ 256) (hs : Sees w v m ys) (hy : ys.length = m) (hm : m ≤ 100000) (h1 : ys.all (·.oneCell') = true)
    (k1 : n + m ≤ 256 → ∀ w', Rep B w0 (upT T d (pile 41 1 t (xs ++ ys) (n + m))) w' → K (i64 0) w') (k2 : ¬ n + m ≤ 256 → K (i64 2) w) : Calls P 26 #[ptr d 0, v] w (EndsS Kp K) := by
  obtain ⟨a, c, rfl, hc, hx⟩ := hs.sees
  cases a with
  | none =>
    obtain ⟨rfl, rfl⟩ := sees_none hs (sz := 1) (by omega) (by omega)
    refine F26_calls ?_
    unfold F26
    refine S_c53 (inner_spec (S_c57 (put_none ?_)))
    repeat' (with_reducible first
      | refine C_f ?_
      | (apply S_R; exact R_not_t))
    have := k1 (by omega) w
    rw [List.append_nil, Nat.add_zero, upT_eq hT] at this
    exact this h
  | some a =>
    refine push_spec h hT hn hy hm (fun j u hj => ?_) (List.all_eq_true.1 h1) k1 k2
    obtain ⟨g, o, e, h2⟩ := hx j u hj
    simp only [Option.some.injEq] at e
    subst e
    rw [Addr.add_mid]; exact h2
theorem pushR_any {d t m : Nat} {xs ys : List RC2} {v : Value} (h : Rep B w0 T w) (hT : T d = some (rets t xs)) (hn : xs.length ≤ 128) (hs : Sees w v m (enc ys)) (hy : ys.length = m) (hm : m ≤ 100000)
    (k1 : xs.length + m ≤ 128 → ∀ w', Rep B w0 (upT T d (rets t (xs ++ ys))) w' → K (i64 0) w') (k2 : ¬ xs.length + m ≤ 128 → K (i64 4) w) : Calls P 28 #[ptr d 0, v] w (EndsS Kp K) := by
  obtain ⟨a, c, rfl, hc, hx⟩ := hs.sees
  cases a with
  | none =>
    obtain ⟨rfl, e⟩ := sees_none hs (sz := 2) (by rw [enc_len]; omega) (by omega)
    have e := enc_nil e
    subst e
    refine F28_calls ?_
    unfold F28
    refine S_c55 (innerR_spec (S_c58 (putR_none ?_)))
    repeat' (with_reducible first
      | refine C_f ?_
      | (apply S_R; exact R_not_t))
    have := k1 (by omega) w
    rw [List.append_nil, upT_eq hT] at this
    exact this h
  | some a =>
    refine pushR_spec h hT hn hy hm (fun j u hj => ?_) k1 k2
    obtain ⟨g, o, e, h2⟩ := hx j u hj
    simp only [Option.some.injEq] at e
    subst e
    rw [Addr.add_mid]; exact h2
theorem R_b134 : R P (vbuild 134 #[]) (.agg #[.slice none 0 0]) := ⟨fun w => by kernel_rfl⟩
theorem R_b138 : R P (vbuild 138 #[]) (.agg #[.slice none 0 0]) := ⟨fun w => by kernel_rfl⟩
theorem pile_nil (e sz t : Nat) {b : Nat} {fp : List Nat} {w : World} (h : (raw #[.slice none 0 0] t).rep b fp w) : (pile e sz t [] 0).rep b fp w :=
  ⟨.slice none 0 0, h.2, ⟨by simp, .inl ⟨rfl, rfl⟩⟩, by simp [Value.ownBlock], by simpa [Value.ownBlock] using h.1⟩
theorem Stacks_spec {xs : List Int} {cs : List RC2} {v u : Value} (h : Rep B w0 T w) (hv : Sees w v xs.length (xs.map u16)) (hu : Sees w u cs.length (enc cs)) (hx : xs.length ≤ 256) (hc : cs.length ≤ 128) (hk : ∀ c ∈ cs, 1 ≤ c.1 ∧ c.1 ≤ 4)
    (k1 : ∀ d r w', T d = none → T r = none → d ≠ r → Grow w w' → Rep B w0 (upT (upT T d (datas 134 xs)) r (rets 138 cs)) w' → K (.tuple #[ptr d 0, ptr r 0, i64 0]) w') : Calls P 36 #[v, u] w (EndsS Kp K) := by
  refine F36_calls ?_
  unfold F36
  refine S_R R_b134 (S_box ?_)
  refine S_R R_b138 (S_box ?_)
  have h0 := Rep.start w
  have h1 : Rep w.heap.size w (upT (fun _ => none) w.heap.size (pile 41 1 134 [] 0)) (w.alloc (.cells #[.slice none 0 0] 134)) := (h0.newRaw #[.slice none 0 0] 134).weaken (fun fp w' h' => pile_nil 41 1 134 h')
  have h2 : Rep w.heap.size w (upT (upT (fun _ => none) w.heap.size (pile 41 1 134 [] 0)) (w.heap.size + 1) (pile 75 2 138 [] 0)) ((w.alloc (.cells #[.slice none 0 0] 134)).alloc (.cells #[.slice none 0 0] 138)) := by
    have := (h1.newRaw #[.slice none 0 0] 138).weaken (fun fp w' h' => pile_nil 75 2 138 h')
    rw [show (w.alloc (.cells #[.slice none 0 0] 134)).heap.size = w.heap.size + 1 by simp] at this
    exact this
  rw [show (w.alloc (.cells (Value.agg #[.slice none 0 0]).cells 134)).heap.size = w.heap.size + 1 by simp]
  rw [show ((w.alloc (.cells (Value.agg #[.slice none 0 0]).cells 134)).alloc (.cells (Value.agg #[.slice none 0 0]).cells 138)) = ((w.alloc (.cells #[.slice none 0 0] 134)).alloc (.cells #[.slice none 0 0] 138)) from rfl]
  generalize ((w.alloc (.cells #[.slice none 0 0] 134)).alloc (.cells #[.slice none 0 0] 138)) = w2 at h2
  obtain ⟨d, hd⟩ : ∃ d, d = w.heap.size := ⟨_, rfl⟩
  obtain ⟨r, hr⟩ : ∃ r, r = w.heap.size + 1 := ⟨_, rfl⟩
  rw [← hr] at h2 ⊢
  rw [show upT (upT (fun _ => none) w.heap.size (pile 41 1 134 [] 0)) r (pile 75 2 138 [] 0) = upT (upT (fun _ => none) d (pile 41 1 134 [] 0)) r (pile 75 2 138 [] 0) by rw [hd]] at h2
  rw [show ptr w.heap.size 0 = ptr d 0 by rw [hd]]
  have hdr : d ≠ r := by omega
  refine S_c26 (push_any h2 (by rw [upT_ne hdr]; exact upT_same ..) (by omega) (hv.grow h2.toGrow) (by simp) (by omega) (allC_one _) (fun _ w3 h3 => ?_) (fun h' => by omega))
  rw [upT_comm _ hdr.symm, upT_upT, Nat.zero_add, List.nil_append] at h3
  have h3' : Rep w.heap.size w (upT (upT (fun _ => none) d (datas 134 xs)) r (rets 138 [])) w3 := h3
  repeat' (with_reducible first
    | refine GS_f' ?_
    | refine S_neq_f (by omega) ?_
    | (apply S_R; exact R_move _))
  refine (S_c28 (pushR_any h3' (upT_same ..) (by simp) (hu.grow h3.toGrow) rfl (by omega) (fun _ w4 h4 => ?_) (fun h' => by simp at h'; omega)))
  rw [upT_upT, List.nil_append] at h4
  obtain ⟨ua, uc, rfl, huc⟩ := hu.size
  repeat' (with_reducible first
    | refine C_f ?_
    | refine GS_f' ?_
    | refine S_neq_f (by omega) ?_
    | (apply S_R; first | exact R_pick_f _ _ | exact R_lenS Tryz.underlying23))
  refine loop_count (fun i (_ : Unit) => upd 1 (.slice ua cs.length uc) (upd 4 nilp (upd 5 nilp (upd 6 (i64 0) (upd 7 (ptr d 0) (upd 8 (ptr r 0) (upd 25 (.slice ua cs.length uc) (upd 26 (i64 (cs.length : Int)) (upd 27 (i64 (i : Int)) E0))))))))) 27 .i64 cs.length
    (fun i _ w' => Rep w.heap.size w (upT (upT (fun _ => none) d (datas 134 xs)) r (rets 138 cs)) w') () (fun _ _ => rfl) rfl h4 ?_
  rintro i - w5 KL hi h5 next
  try simp (decide := true) only [upd_hit, upd_miss]
  refine S_lss (fun hc => C_t ?_) (fun hc => C_f ?_)
  · have hi' : i < cs.length := by omega
    obtain ⟨c, hci⟩ : ∃ c, cs[i]? = some c := ⟨_, List.getElem?_eq_getElem hi'⟩
    have hkc := hk c (List.mem_of_getElem? hci)
    obtain ⟨ug, uo, uc', e1, -, hcell⟩ := (hu.grow h5.toGrow).at (by intro e; have e := enc_nil e; subst e; simp at hci)
    simp only [Value.slice.injEq] at e1
    obtain ⟨rfl, -, rfl⟩ := e1
    obtain ⟨e1, e2⟩ := enc_get cs i c hci
    refine S_R (R_ixA Tryz.underlying23 sz75 (by omega) (by omega)) ?_
    refine S_loadRowC (cs := [i64 c.1, u16 c.2]) rw75 sz75 (fun j u hj => ?_) ?_
    · rw [Int.toNat_natCast]
      match j, hj with
      | 0, hj => simp at hj; subst hj; exact hcell _ _ e1
      | 1, hj => simp at hj; subst hj; exact hcell _ _ e2
    refine S_alloc zr75 ?_
    refine S_storeRow sz75 (heap_alloc_new _ _) rfl rfl ?_
    rw [show (Value.agg #[Value.int IntKind.i64 0, Value.int IntKind.u16 0]).cells = #[i64 0, u16 0] from rfl, setRow_alloc_new]
    have hx : (w5.alloc (.cells #[i64 c.1, u16 c.2] 75)).heap[w5.heap.size]? = some (.cells #[i64 c.1, u16 c.2] 75 (0, 0)) := heap_alloc_new w5 _
    have g3 := Grow.alloc w5 (.cells #[i64 c.1, u16 c.2] 75)
    generalize w5.alloc (.cells #[i64 c.1, u16 c.2] 75) = w6 at hx g3
    generalize w5.heap.size = x at hx
    repeat' (with_reducible first
      | refine C_f ?_
      | refine GS_f' ?_
      | refine S_gtr_f (by omega) ?_
      | refine S_lss_f (by omega) ?_
      | (apply S_R; first | exact R_pick_f _ _ | exact R_f75_0 _ _ | exact R_addi (by omega))
      | refine S_loadB pl3 (by first | assumption | exact heap_old (by assumption) (by assumption)) (by first | assumption | (with_unfolding_all exact rfl)) ?_)
    exact next hi' () w6 (h5.grow g3)
  · have g5 := h5.toGrow
    refine k1 d r w5 (h.fresh (by omega)) (h.fresh (by omega)) hdr g5 ?_
    exact h.frame2 h5 hdr (by rw [upT_ne hdr]; exact upT_same ..) (upT_same ..)
end
end Go.Proofs.YtebmnfmiphbgdaaGreatDoor
namespace Go.Proofs.YtebmnfmiphbgdaaGreatDoor
open Go.Sh
def nk (k : Int) : Int := 1 + ((k.tmod 4 + 4).tmod 4)
def fx (c : RC2) : RC2 := (nk c.1, c.2)
def fixK (i : Nat) (l : List RC2) : List RC2 := (l.take i).map fx ++ l.drop i
structure WI where
  k : Nat
  d : Nat
  r : Nat
  m : Nat
  x : Nat
  y : Nat
  z : Nat
def WI.cells (W : WI) : Array Value := #[ptr W.d 0, ptr W.r 0, ptr W.m 0, ptr W.x 0, ptr W.y 0, ptr W.z 0]
def upWd (W : WI) (s : PS) : Store := upT (upR (upS (fun _ => none) 134 138 W.d W.r W.m s) 85 87 W.x W.y W.z s) W.k (raw W.cells 39)
def bank0 : List Bk := [(0, [1, 2, 3]), (9, [4])]
def born (ds : List Int) (cs : List RC2) : PS := ⟨ds.take 256, (cs.take 128).map fx, memB (banksOf bank0)⟩
section
variable {w w0 : World} {Kp : KP} {K : K0} {B : Nat} {T : Store}
theorem nk_in (k : Int) : 1 ≤ nk k ∧ nk k ≤ 4 := by
  unfold nk
  have h1 := Int.tmod_lt_of_pos k (show (0 : Int) < 4 by omega)
  have h2 : -4 < k.tmod 4 := by have := Int.lt_tmod_of_pos k (show (0 : Int) < 4 by omega); omega
  rw [Int.tmod_eq_emod_of_nonneg (by omega)]
  omega
theorem fixK_len (i : Nat) (l : List RC2) : (fixK i l).length = l.length := by unfold fixK; simp; omega
theorem fixK_get {i : Nat} {l : List RC2} {c : RC2} (h : l[i]? = some c) : (fixK i l)[i]? = some c := by
  have hlt := (List.getElem?_eq_some_iff.1 h).1
  unfold fixK
  rw [List.getElem?_append_right (by simp; omega), List.getElem?_drop]
  simp only [List.length_map, List.length_take]
  rw [Nat.min_eq_left (by omega), Nat.sub_self, Nat.add_zero]; exact h
theorem enc_set : ∀ (l : List RC2) (i : Nat) (c : RC2) (k : Int), l[i]? = some c → (enc l).set (i * 2) (i64 k) = enc (l.set i (k, c.2))
  | [], i, c, k, h => by simp at h
  | a :: l, 0, c, k, h => by simp at h; subst h; rfl
  | a :: l, i + 1, c, k, h => by
    rw [show (i + 1) * 2 = i * 2 + 1 + 1 by omega]
    show _ :: _ :: (enc l).set (i * 2) _ = _ :: _ :: enc (l.set i _)
    rw [enc_set l i c k (by simpa using h)]
theorem fixK_set {i : Nat} {l : List RC2} {c : RC2} (h : l[i]? = some c) : (fixK i l).set i (nk c.1, c.2) = fixK (i + 1) l := by
  have hlt := (List.getElem?_eq_some_iff.1 h).1
  unfold fixK
  rw [List.set_append_right _ _ (by simp; omega)]
  simp only [List.length_map, List.length_take]
  rw [Nat.min_eq_left (by omega), Nat.sub_self, List.take_add_one, h]
  have hd : l.drop i = c :: l.drop (i + 1) := by
    have h1 := List.drop_eq_getElem_cons (l := l) (i := i) hlt
    obtain ⟨_, e⟩ := List.getElem_of_getElem? h
    rw [h1, e]
  rw [hd]
  simp [fx]
theorem S_bs66_3 (K1 : ∀ v w', New w w' 5 1 3 ([1, 2, 3].map u8) v → K v w') : S P (vbuildS 66 3 #[(0, u8 1), (1, u8 2), (2, u8 3)]) w Kp K := by
  have hrun : (vbuildS 66 3 #[(0, u8 1), (1, u8 2), (2, u8 3)]).run P w = .ok (.value (sl w.heap.size 0 3 3)) (w.alloc (.cells #[u8 1, u8 2, u8 3] 5)) := by kernel_rfl
  exact S_run hrun (K1 _ _ (New.block (xs := [1, 2, 3].map u8) rfl (by unfold maxLen; omega)))
theorem S_bs66_1 (K1 : ∀ v w', New w w' 5 1 1 ([4].map u8) v → K v w') : S P (vbuildS 66 1 #[(0, u8 4)]) w Kp K := by
  have hrun : (vbuildS 66 1 #[(0, u8 4)]).run P w = .ok (.value (sl w.heap.size 0 1 1)) (w.alloc (.cells #[u8 4] 5)) := by kernel_rfl
  exact S_run hrun (K1 _ _ (New.block (xs := [4].map u8) rfl (by unfold maxLen; omega)))
theorem R_b79v (n : Int) {v : Value} (hv : ∃ a c n', v = .slice a n' c) : R P (vbuild 79 #[(0, i64 n), (1, v)]) (.agg #[i64 n, v]) := by
  obtain ⟨a, c, n', rfl⟩ := hv
  exact ⟨fun w => by kernel_rfl⟩
theorem S_bs65_2 {n m : Int} {u v : Value} (hu : ∃ a c n', u = .slice a n' c) (hv : ∃ a c n', v = .slice a n' c) (K1 : ∀ q w', New w w' 79 2 2 [i64 n, u, i64 m, v] q → K q w') : S P (vbuildS 65 2 #[(0, .agg #[i64 n, u]), (1, .agg #[i64 m, v])]) w Kp K := by
  obtain ⟨a, c, n', rfl⟩ := hu
  obtain ⟨a', c', n'', rfl⟩ := hv
  have hrun : (vbuildS 65 2 #[(0, .agg #[i64 n, .slice a n' c]), (1, .agg #[i64 m, .slice a' n'' c'])]).run P w = .ok (.value (sl w.heap.size 0 2 2)) (w.alloc (.cells #[i64 n, .slice a n' c, i64 m, .slice a' n'' c'] 79)) := by kernel_rfl
  exact S_run hrun (K1 _ _ (New.block (xs := [i64 n, .slice a n' c, i64 m, .slice a' n'' c']) rfl (by unfold maxLen; omega)))
theorem R_b85 (b n c : Nat) : R P (vbuild 85 #[(0, sl b 0 n c)]) (.agg #[sl b 0 n c]) := ⟨fun w => by kernel_rfl⟩
theorem R_b87 (b n c : Nat) : R P (vbuild 87 #[(0, sl b 0 n c)]) (.agg #[sl b 0 n c]) := ⟨fun w => by kernel_rfl⟩
theorem R_b39 (a b c d e f : Nat) : R P (vbuild 39 #[(0, ptr a 0), (1, ptr b 0), (2, ptr c 0), (3, ptr d 0), (4, ptr e 0), (5, ptr f 0)]) (.agg #[ptr a 0, ptr b 0, ptr c 0, ptr d 0, ptr e 0, ptr f 0]) := ⟨fun w => by kernel_rfl⟩
theorem fixK_all {cs : List RC2} {m : Nat} (h : cs.length = m) : fixK m cs = cs.map fx := by
  unfold fixK
  rw [List.take_of_length_le (by omega), List.drop_of_length_le (by omega), List.append_nil]
theorem bank0_ok : mayB (-1) bank0 = true := by decide
theorem born_fin {b2 b4 d r m x y z k n i c2 c4 : Nat} {xs : List Int} {rs : List RC2} {M : Mem} (h : Rep B w0 T w) (hxl : xs.length = n) (hrl : rs.length = i) (h42 : b4 ≠ b2)
    (n2 : b2 ≠ d ∧ b2 ≠ r ∧ b2 ≠ m ∧ b2 ≠ z ∧ b2 ≠ x ∧ b2 ≠ y ∧ b2 ≠ k) (n4 : b4 ≠ d ∧ b4 ≠ r ∧ b4 ≠ m ∧ b4 ≠ z ∧ b4 ≠ x ∧ b4 ≠ y ∧ b4 ≠ k) (nxy : x ≠ y) (nx : x ≠ d ∧ x ≠ r ∧ x ≠ m ∧ x ≠ z ∧ x ≠ k) (ny : y ≠ d ∧ y ≠ r ∧ y ≠ m ∧ y ≠ z ∧ y ≠ k) (l2 : T b2 = some (ownO 41 1 n c2 (xs.map u16))) (l4 : T b4 = some (ownO 75 2 i c4 (enc rs)))
    (ld : T d = some (datas 134 xs)) (lr : T r = some (rets 138 rs)) (lm : T m = some (memory M)) (lz : T z = some (refmem M)) (lx : T x = some (raw #[sl b2 0 n c2] 85)) (ly : T y = some (raw #[sl b4 0 i c4] 87)) (lk : T k = some (raw #[ptr d 0, ptr r 0, ptr m 0, ptr x 0, ptr y 0, ptr z 0] 39)) :
    Rep B w0 (upWd ⟨k, d, r, m, x, y, z⟩ ⟨xs, rs, M⟩) w := by
  obtain ⟨a1, a2, a3, a4, a5, a6, a7⟩ := n2
  obtain ⟨e1, e2, e3, e4, e5, e6, e7⟩ := n4
  have hm1 := h.toPile l2 lx a5
  have hm2 := hm1.toPile (b := b4) (x := y) (by simp only [if_neg h42, if_neg e5]; exact l4) (by simp only [if_neg a6.symm, if_neg nxy.symm]; exact ly) e6
  have f2 : ∀ j, j ≠ b2 → j ≠ b4 → j ≠ x → j ≠ y → (if j = b4 then none else if j = y then some (pile 75 2 87 (enc rs) i) else if j = b2 then none else if j = x then some (pile 41 1 85 (xs.map u16) n) else T j) = T j := fun j h1 h2 h3 h4 => by
    rw [if_neg h2, if_neg h4, if_neg h1, if_neg h3]
  obtain ⟨x1, x2, x3, x4, x5⟩ := nx
  obtain ⟨y1, y2, y3, y4, y5⟩ := ny
  refine hm2.drop (fun j o hj => ?_)
  show (if j = b4 then none else if j = y then some (pile 75 2 87 (enc rs) i) else if j = b2 then none else if j = x then some (pile 41 1 85 (xs.map u16) n) else T j) = some o
  unfold upWd upR upS at hj
  dsimp only at hj
  by_cases c_k : j = k
  · subst c_k
    rw [upT_same] at hj
    rw [f2 j a7.symm e7.symm x5.symm y5.symm, lk]; exact hj
  rw [upT_ne c_k] at hj
  by_cases c_z : j = z
  · subst c_z
    rw [upT_same] at hj
    rw [f2 j a4.symm e4.symm x4.symm y4.symm, lz]; exact hj
  rw [upT_ne c_z] at hj
  by_cases c_y : j = y
  · subst c_y
    rw [upT_same] at hj
    rw [if_neg e6.symm, if_pos rfl, ← hj]
    unfold rets; rw [hrl]
  rw [upT_ne c_y] at hj
  by_cases c_x : j = x
  · subst c_x
    rw [upT_same] at hj
    rw [if_neg e5.symm, if_neg nxy, if_neg a5.symm, if_pos rfl, ← hj]
    unfold datas; rw [hxl]
  rw [upT_ne c_x] at hj
  by_cases c_m : j = m
  · subst c_m
    rw [upT_same] at hj
    rw [f2 j a3.symm e3.symm x3.symm y3.symm, lm]; exact hj
  rw [upT_ne c_m] at hj
  by_cases c_r : j = r
  · subst c_r
    rw [upT_same] at hj
    rw [f2 j a2.symm e2.symm x2.symm y2.symm, lr]; exact hj
  rw [upT_ne c_r] at hj
  by_cases c_d : j = d
  · subst c_d
    rw [upT_same] at hj
    rw [f2 j a1.symm e1.symm x1.symm y1.symm, ld]; exact hj
  rw [upT_ne c_d] at hj
  cases hj
set_option maxHeartbeats 4000000 in
theorem born_spec {ds : List Int} {cs : List RC2} {v u : Value} (hv : Sees w v ds.length (ds.map u16)) (hu : Sees w u cs.length (enc cs)) (hdl : ds.length ≤ 281474976710656) (hcl : cs.length ≤ 281474976710656)
    (K1 : ∀ W w', [W.k, W.d, W.r, W.m, W.x, W.y, W.z].Nodup → Rep w.heap.size w (upWd W (born ds cs)) w' → K (ptr W.k 0) w') : Calls P 8 #[v, u] w (EndsS Kp K) := by
  obtain ⟨va, vc, rfl, hvc⟩ := hv.size
  obtain ⟨ua, uc, rfl, huc⟩ := hu.size
  refine F8_calls ?_
  unfold F8
  refine S_lit0' (sz := 1) lit22 (fun v1 w1 hN1 hn1 => ?_)
  have hmin : ∀ {w : World} {K : K0} (a b : Nat), K (i64 ((min a b : Nat) : Int)) w → S P (vblt .min #[3, 3] 3 #[false, true] #[i64 (a : Int), i64 (b : Int)]) w Kp K := fun a b hk => by
    refine S_R R_min ?_
    rw [show (if (b : Int) < a then (b : Int) else a) = ((min a b : Nat) : Int) by split <;> omega]; exact hk
  refine S_R (R_lenS Tryz.underlying22) (hmin ds.length 256 ?_)
  obtain ⟨n, hn⟩ : ∃ n, n = min ds.length 256 := ⟨_, rfl⟩
  rw [← hn]
  refine S_R (R_sliceTo Tryz.underlying22 sz41 (by omega) (by omega)) ?_
  rw [Int.toNat_natCast]
  have hs1 := (hv.grow hN1.grow).take (sz := 1) (l := n) (by omega)
  have hlt : (ds.take 256).length = n := by rw [List.length_take]; omega
  have etk : (ds.map u16).take (n * 1) = (ds.take 256).map u16 := by
    rw [Nat.mul_one, ← List.map_take]
    congr 1
    by_cases h : ds.length ≤ 256
    · rw [List.take_of_length_le (by omega), List.take_of_length_le h]
    · rw [show n = 256 by omega]
  rw [etk] at hs1
  refine S_appN' Tryz.underlying22 in41 rfl rfl (by with_unfolding_all decide) hN1 hn1 hs1 (by show _ = n * 1; simp [hlt]; omega) (allC_one _) (by unfold maxLen; omega) (by show (0 + n) * 2 ≤ _; omega) (fun v2 w2 hN2 _ hn2 => ?_)
  rw [List.nil_append, Nat.zero_add] at hN2
  obtain ⟨b2, c2, rfl⟩ := own_cases hN2.own hn2
  obtain ⟨hT2, h2⟩ := hN2.layO (Rep.start w)
  refine S_lit0' (sz := 2) lit23 (fun v3 w3 hN3 hn3 => ?_)
  refine S_R (R_lenS Tryz.underlying23) (hmin cs.length 128 ?_)
  obtain ⟨m, hm⟩ : ∃ m, m = min cs.length 128 := ⟨_, rfl⟩
  rw [← hm]
  refine S_R (R_sliceTo Tryz.underlying23 sz75 (by omega) (by omega)) ?_
  rw [Int.toNat_natCast]
  have hs3 := ((hu.grow hN2.grow).grow hN3.grow).take (sz := 2) (l := m) (by omega)
  have hltc : (cs.take 128).length = m := by rw [List.length_take]; omega
  have etk2 : (enc cs).take (m * 2) = enc (cs.take 128) := by
    have := enc_take (cs.take m) (cs.drop m)
    rw [List.take_append_drop, List.length_take, Nat.min_eq_left (by omega)] at this
    rw [this]
    congr 1
    by_cases h : cs.length ≤ 128
    · rw [List.take_of_length_le (by omega), List.take_of_length_le h]
    · rw [show m = 128 by omega]
  rw [etk2] at hs3
  refine S_appN' Tryz.underlying23 in75 rfl rfl (by with_unfolding_all decide) hN3 hn3 hs3 (by show _ = m * 2; rw [enc_len, hltc]) (by rw [List.all_eq_true]; exact fun u hu => enc_one _ u hu) (by unfold maxLen; omega) (by show (0 + m) * 16 ≤ _; omega) (fun v4 w4 hN4 _ hn4 => ?_)
  rw [List.nil_append, Nat.zero_add] at hN4
  obtain ⟨b4, c4, rfl⟩ := own_cases hN4.own hn4
  obtain ⟨hT4, h4⟩ := hN4.layO h2
  have hne42 : b4 ≠ b2 := fun e => by rw [e, upT_same] at hT4; cases hT4
  generalize hcs0 : cs.take 128 = cs0 at *
  refine loop_count (fun i (_ : Unit) => upd 0 (sl b2 0 n c2) (upd 1 (sl b4 0 m c4) (upd 4 nilp (upd 5 (i64 (i : Int)) (upd 6 undef (upd 7 undef (upd 10 undef (upd 12 undef E0)))))))) 5 .i64 m
    (fun i _ w' => Rep w.heap.size w (upT (upT (fun _ => none) b2 (ownO 41 1 n c2 ((ds.take 256).map u16))) b4 (ownO 75 2 m c4 (enc (fixK i cs0)))) w') () (fun _ _ => rfl) rfl h4 ?_
  rintro i - w5 KL hi h5 next
  try simp (decide := true) only [upd_hit, upd_miss]
  refine S_R (R_lenS Tryz.underlying23) (S_lss (fun hc => C_t ?_) (fun hc => C_f ?_))
  · have hi' : i < cs0.length := by omega
    obtain ⟨c, hci⟩ : ∃ c, cs0[i]? = some c := ⟨_, List.getElem?_eq_getElem hi'⟩
    have hown := h5.own (upT_same ..)
    obtain ⟨g1, o1, c1', e1, -, hcell⟩ := (Sees.own hown).at (by intro e; have e := enc_nil e; have := fixK_len i cs0; rw [e] at this; simp at this; omega)
    simp only [Value.slice.injEq, Option.some.injEq, Addr.mk.injEq, and_true, true_and] at e1
    obtain ⟨⟨rfl, rfl⟩, rfl⟩ := e1
    obtain ⟨e1, e2⟩ := enc_get _ i c (fixK_get hci)
    have hc1 : w5.cell? ⟨b4, 0 + (i : Int).toNat * 2, none⟩ = some (i64 c.1) := by rw [Int.toNat_natCast]; exact hcell _ _ e1
    have hb1 := Int.tmod_lt_of_pos c.1 (show (0 : Int) < 4 by omega)
    have hb2 : -4 < c.1.tmod 4 := by have := Int.lt_tmod_of_pos c.1 (show (0 : Int) < 4 by omega); omega
    have hb3 := nk_in c.1
    unfold nk at hb3
    repeat' (with_reducible first
      | refine S_loadC pl3 hc1 ?_
      | (apply S_R; first | exact R_ixA Tryz.underlying23 sz75 (by omega) (by omega) | exact R_f75_0 _ _ | exact R_addi (by omega) | exact R_rem _ _ _ _ _ _ (by omega)))
    refine S_storeO sz3 h5 (upT_same ..) (by rw [enc_len, fixK_len, Int.toNat_natCast]; omega) rfl (fun w6 h6 => ?_)
    rw [upT_upT] at h6
    repeat' (with_reducible (apply S_R; exact R_addi (by omega)))
    refine next (by omega) () w6 ?_
    rw [show (enc (fixK i cs0)).set (0 + (i : Int).toNat * 2) (i64 (1 + (c.1.tmod 4 + 4).tmod 4)) = enc (fixK (i + 1) cs0) by
      rw [Nat.zero_add, Int.toNat_natCast, enc_set _ _ _ _ (fixK_get hci)]
      congr 1
      exact fixK_set hci] at h6
    exact h6
  · have : i = m := by omega
    subst this
    rw [fixK_all hltc] at h5
    obtain ⟨rs, hrs⟩ : ∃ rs, rs = cs0.map fx := ⟨_, rfl⟩
    obtain ⟨xs, hxs⟩ : ∃ xs, xs = ds.take 256 := ⟨_, rfl⟩
    rw [← hrs, ← hxs] at h5
    have hxl : xs.length = n := by rw [hxs]; exact hlt
    have hrl : rs.length = i := by rw [hrs, List.length_map]; exact hltc
    have hn256 : n ≤ 256 := by omega
    have hi128 : i ≤ 128 := by omega
    have hT2' : upT (upT (fun _ => none) b2 (ownO 41 1 n c2 (xs.map u16))) b4 (ownO 75 2 i c4 (enc rs)) b2 = some (ownO 41 1 n c2 (xs.map u16)) := by rw [upT_ne hne42.symm]; exact upT_same ..
    have hT4' : upT (upT (fun _ => none) b2 (ownO 41 1 n c2 (xs.map u16))) b4 (ownO 75 2 i c4 (enc rs)) b4 = some (ownO 75 2 i c4 (enc rs)) := upT_same ..
    generalize upT (upT (fun _ => none) b2 (ownO 41 1 n c2 (xs.map u16))) b4 (ownO 75 2 i c4 (enc rs)) = T5 at h5 hT2' hT4'
    have s2 := Sees.own (h5.own hT2')
    have s4 := Sees.own (h5.own hT4')
    refine S_lit0 (sz := 1) lit22 (fun v6 w6 hN6 => ?_)
    refine S_appN Tryz.underlying22 in41 rfl rfl (by with_unfolding_all decide) hN6 (s2.grow hN6.grow) (by show _ = n * 1; simp [hxl]) (allC_one _) (by unfold maxLen; omega) (by show (0 + n) * 2 ≤ _; omega) (fun v7 w7 hN7 _ => ?_)
    rw [List.nil_append, Nat.zero_add] at hN7
    refine S_lit0 (sz := 2) lit23 (fun v8 w8 hN8 => ?_)
    refine S_appN Tryz.underlying23 in75 rfl rfl (by with_unfolding_all decide) hN8 ((s4.grow hN7.grow).grow hN8.grow) (by show _ = i * 2; rw [enc_len, hrl]) (by rw [List.all_eq_true]; exact fun u hu => enc_one _ u hu) (by unfold maxLen; omega) (by show (0 + i) * 16 ≤ _; omega) (fun v9 w9 hN9 _ => ?_)
    rw [List.nil_append, Nat.zero_add] at hN9
    have h9 := (h5.grow hN7.grow).grow hN9.grow
    refine S_c36 (Stacks_spec h9 (by rw [hxl]; exact hN7.sees.grow hN9.grow) (by rw [hrl]; exact hN9.sees) (by omega) (by omega) (fun c hc => by rw [hrs] at hc; obtain ⟨q, _, rfl⟩ := List.mem_map.1 hc; exact nk_in q.1) (fun d r w10 hTd hTr hdr g10 h10 => ?_))
    refine S_R (R_ext30 _ _ _) (S_R (R_ext31 _ _ _) (S_R (R_ext32 _ _ _) ?_))
    refine S_bs66_3 (fun q1 w11 hq1 => ?_)
    obtain ⟨qa, qc, eq1, hqc⟩ := hq1.sees.size
    refine S_R (R_b79v 0 ⟨qa, qc, 3, eq1⟩) ?_
    refine S_bs66_1 (fun q2 w12 hq2 => ?_)
    obtain ⟨qa2, qc2, eq2, hqc2⟩ := hq2.sees.size
    refine S_R (R_b79v 9 ⟨qa2, qc2, 1, eq2⟩) ?_
    refine S_bs65_2 ⟨qa, qc, 3, eq1⟩ ⟨qa2, qc2, 1, eq2⟩ (fun q3 w13 hq3 => ?_)
    have hB : BanksIn w13 q3 bank0 := ⟨[q1, q2], hq3.sees, (hq1.sees.grow hq2.grow).grow hq3.grow, by rw [eq1]; rfl, hq2.sees.grow hq3.grow, by rw [eq2]; rfl, trivial⟩
    have hbB : ∀ b ∈ bank0, ∀ x ∈ b.2, isB x := by unfold bank0 isB; decide
    have h13 := ((h10.grow hq1.grow).grow hq2.grow).grow hq3.grow
    refine S_c37 (memNew_spec h13 hB (by decide) hbB (fun _ m w14 hTm _ g14 h14 => ?_) (fun e => by rw [bank0_ok] at e; cases e))
    refine S_R (R_ext20 _ _) (S_R (R_ext21 _ _) ?_)
    refine S_c38 (refNew_spec h14 (hB.grow g14) (by decide) hbB (fun _ z w15 hTz _ g15 h15 => ?_) (fun e => by rw [bank0_ok] at e; cases e))
    refine S_R (R_ext20 _ _) (S_R (R_ext21 _ _) ?_)
    repeat' (with_reducible first
      | refine C_f ?_
      | refine GS_f' ?_
      | refine S_neq_f (by omega) ?_
      | (apply S_R; first | exact R_move _ | exact R_eqlp32 _ _ _ _ | exact R_eqlp33 _ _ _ _ | exact R_pick_f _ _ | exact R_eqlp34 _ _ _ _ | exact R_eqlp37 _ _ _ _))
    refine S_R (R_b85 _ _ _) (S_boxR h15 (fun x w16 hTx h16 => ?_))
    refine S_R (R_b87 _ _ _) (S_boxR h16 (fun y w17 hTy h17 => ?_))
    refine S_R (R_b39 _ _ _ _ _ _) (S_boxR h17 (fun k w18 hTk h18 => ?_))
    have n_b2_d : b2 ≠ d := ne_new hT2' hTd
    have l_b2_d := look_new (o' := datas 134 xs) hT2' hTd
    have n_b4_d : b4 ≠ d := ne_new hT4' hTd
    have l_b4_d := look_new (o' := datas 134 xs) hT4' hTd
    have n_b2_r : b2 ≠ r := ne_new l_b2_d (look_none (o' := datas 134 xs) hTr hdr.symm)
    have l_b2_r := look_new (o' := rets 138 rs) l_b2_d (look_none (o' := datas 134 xs) hTr hdr.symm)
    have n_b4_r : b4 ≠ r := ne_new l_b4_d (look_none (o' := datas 134 xs) hTr hdr.symm)
    have l_b4_r := look_new (o' := rets 138 rs) l_b4_d (look_none (o' := datas 134 xs) hTr hdr.symm)
    have n_d_r : d ≠ r := ne_new (upT_same _ d (datas 134 xs)) (look_none (o' := datas 134 xs) hTr hdr.symm)
    have l_d_r := look_new (o' := rets 138 rs) (upT_same _ d (datas 134 xs)) (look_none (o' := datas 134 xs) hTr hdr.symm)
    have n_b2_m : b2 ≠ m := ne_new l_b2_r hTm
    have l_b2_m := look_new (o' := memory (memB (banksOf bank0))) l_b2_r hTm
    have n_b4_m : b4 ≠ m := ne_new l_b4_r hTm
    have l_b4_m := look_new (o' := memory (memB (banksOf bank0))) l_b4_r hTm
    have n_d_m : d ≠ m := ne_new l_d_r hTm
    have l_d_m := look_new (o' := memory (memB (banksOf bank0))) l_d_r hTm
    have n_r_m : r ≠ m := ne_new (upT_same _ r (rets 138 rs)) hTm
    have l_r_m := look_new (o' := memory (memB (banksOf bank0))) (upT_same _ r (rets 138 rs)) hTm
    have n_b2_z : b2 ≠ z := ne_new l_b2_m hTz
    have l_b2_z := look_new (o' := refmem (memB (banksOf bank0))) l_b2_m hTz
    have n_b4_z : b4 ≠ z := ne_new l_b4_m hTz
    have l_b4_z := look_new (o' := refmem (memB (banksOf bank0))) l_b4_m hTz
    have n_d_z : d ≠ z := ne_new l_d_m hTz
    have l_d_z := look_new (o' := refmem (memB (banksOf bank0))) l_d_m hTz
    have n_r_z : r ≠ z := ne_new l_r_m hTz
    have l_r_z := look_new (o' := refmem (memB (banksOf bank0))) l_r_m hTz
    have n_m_z : m ≠ z := ne_new (upT_same _ m (memory (memB (banksOf bank0)))) hTz
    have l_m_z := look_new (o' := refmem (memB (banksOf bank0))) (upT_same _ m (memory (memB (banksOf bank0)))) hTz
    have n_b2_x : b2 ≠ x := ne_new l_b2_z hTx
    have l_b2_x := look_new (o' := raw (Value.agg #[sl b2 0 n c2]).cells 85) l_b2_z hTx
    have n_b4_x : b4 ≠ x := ne_new l_b4_z hTx
    have l_b4_x := look_new (o' := raw (Value.agg #[sl b2 0 n c2]).cells 85) l_b4_z hTx
    have n_d_x : d ≠ x := ne_new l_d_z hTx
    have l_d_x := look_new (o' := raw (Value.agg #[sl b2 0 n c2]).cells 85) l_d_z hTx
    have n_r_x : r ≠ x := ne_new l_r_z hTx
    have l_r_x := look_new (o' := raw (Value.agg #[sl b2 0 n c2]).cells 85) l_r_z hTx
    have n_m_x : m ≠ x := ne_new l_m_z hTx
    have l_m_x := look_new (o' := raw (Value.agg #[sl b2 0 n c2]).cells 85) l_m_z hTx
    have n_z_x : z ≠ x := ne_new (upT_same _ z (refmem (memB (banksOf bank0)))) hTx
    have l_z_x := look_new (o' := raw (Value.agg #[sl b2 0 n c2]).cells 85) (upT_same _ z (refmem (memB (banksOf bank0)))) hTx
    have n_b2_y : b2 ≠ y := ne_new l_b2_x hTy
    have l_b2_y := look_new (o' := raw (Value.agg #[sl b4 0 i c4]).cells 87) l_b2_x hTy
    have n_b4_y : b4 ≠ y := ne_new l_b4_x hTy
    have l_b4_y := look_new (o' := raw (Value.agg #[sl b4 0 i c4]).cells 87) l_b4_x hTy
    have n_d_y : d ≠ y := ne_new l_d_x hTy
    have l_d_y := look_new (o' := raw (Value.agg #[sl b4 0 i c4]).cells 87) l_d_x hTy
    have n_r_y : r ≠ y := ne_new l_r_x hTy
    have l_r_y := look_new (o' := raw (Value.agg #[sl b4 0 i c4]).cells 87) l_r_x hTy
    have n_m_y : m ≠ y := ne_new l_m_x hTy
    have l_m_y := look_new (o' := raw (Value.agg #[sl b4 0 i c4]).cells 87) l_m_x hTy
    have n_z_y : z ≠ y := ne_new l_z_x hTy
    have l_z_y := look_new (o' := raw (Value.agg #[sl b4 0 i c4]).cells 87) l_z_x hTy
    have n_x_y : x ≠ y := ne_new (upT_same _ x (raw (Value.agg #[sl b2 0 n c2]).cells 85)) hTy
    have l_x_y := look_new (o' := raw (Value.agg #[sl b4 0 i c4]).cells 87) (upT_same _ x (raw (Value.agg #[sl b2 0 n c2]).cells 85)) hTy
    have n_b2_k : b2 ≠ k := ne_new l_b2_y hTk
    have l_b2_k := look_new (o' := raw (Value.agg #[ptr d 0, ptr r 0, ptr m 0, ptr x 0, ptr y 0, ptr z 0]).cells 39) l_b2_y hTk
    have n_b4_k : b4 ≠ k := ne_new l_b4_y hTk
    have l_b4_k := look_new (o' := raw (Value.agg #[ptr d 0, ptr r 0, ptr m 0, ptr x 0, ptr y 0, ptr z 0]).cells 39) l_b4_y hTk
    have n_d_k : d ≠ k := ne_new l_d_y hTk
    have l_d_k := look_new (o' := raw (Value.agg #[ptr d 0, ptr r 0, ptr m 0, ptr x 0, ptr y 0, ptr z 0]).cells 39) l_d_y hTk
    have n_r_k : r ≠ k := ne_new l_r_y hTk
    have l_r_k := look_new (o' := raw (Value.agg #[ptr d 0, ptr r 0, ptr m 0, ptr x 0, ptr y 0, ptr z 0]).cells 39) l_r_y hTk
    have n_m_k : m ≠ k := ne_new l_m_y hTk
    have l_m_k := look_new (o' := raw (Value.agg #[ptr d 0, ptr r 0, ptr m 0, ptr x 0, ptr y 0, ptr z 0]).cells 39) l_m_y hTk
    have n_z_k : z ≠ k := ne_new l_z_y hTk
    have l_z_k := look_new (o' := raw (Value.agg #[ptr d 0, ptr r 0, ptr m 0, ptr x 0, ptr y 0, ptr z 0]).cells 39) l_z_y hTk
    have n_x_k : x ≠ k := ne_new l_x_y hTk
    have l_x_k := look_new (o' := raw (Value.agg #[ptr d 0, ptr r 0, ptr m 0, ptr x 0, ptr y 0, ptr z 0]).cells 39) l_x_y hTk
    have n_y_k : y ≠ k := ne_new (upT_same _ y (raw (Value.agg #[sl b4 0 i c4]).cells 87)) hTk
    have l_y_k := look_new (o' := raw (Value.agg #[ptr d 0, ptr r 0, ptr m 0, ptr x 0, ptr y 0, ptr z 0]).cells 39) (upT_same _ y (raw (Value.agg #[sl b4 0 i c4]).cells 87)) hTk
    have nd : [k, d, r, m, x, y, z].Nodup := by
      simp only [List.nodup_cons, List.mem_cons, List.not_mem_nil, or_false, not_or, List.nodup_nil, and_true, not_false_eq_true]
      exact ⟨⟨n_d_k.symm, n_r_k.symm, n_m_k.symm, n_x_k.symm, n_y_k.symm, n_z_k.symm⟩, ⟨n_d_r, n_d_m, n_d_x, n_d_y, n_d_z⟩, ⟨n_r_m, n_r_x, n_r_y, n_r_z⟩, ⟨n_m_x, n_m_y, n_m_z⟩, ⟨n_x_y, n_z_x.symm⟩, n_z_y.symm⟩
    refine K1 ⟨k, d, r, m, x, y, z⟩ w18 nd ?_
    have e : born ds cs = ⟨xs, rs, memB (banksOf bank0)⟩ := by unfold born; rw [hxs, hrs, hcs0]
    rw [e]
    exact born_fin h18 hxl hrl hne42 ⟨n_b2_d, n_b2_r, n_b2_m, n_b2_z, n_b2_x, n_b2_y, n_b2_k⟩ ⟨n_b4_d, n_b4_r, n_b4_m, n_b4_z, n_b4_x, n_b4_y, n_b4_k⟩ n_x_y ⟨n_d_x.symm, n_r_x.symm, n_m_x.symm, n_z_x.symm, n_x_k⟩ ⟨n_d_y.symm, n_r_y.symm, n_m_y.symm, n_z_y.symm, n_y_k⟩ l_b2_k l_b4_k l_d_k l_r_k l_m_k l_z_k l_x_k l_y_k (upT_same ..)
end
end Go.Proofs.YtebmnfmiphbgdaaGreatDoor
namespace Go.Proofs.YtebmnfmiphbgdaaGreatDoor
open Go.Sh
def upM (W : WI) (s s' : PS) : Store := upT (upR (upS (fun _ => none) 134 138 W.d W.r W.m s) 85 87 W.x W.y W.z s') W.k (raw W.cells 39)
structure WI.Ne (W : WI) : Prop where
  kd : W.k ≠ W.d
  kr : W.k ≠ W.r
  km : W.k ≠ W.m
  kx : W.k ≠ W.x
  ky : W.k ≠ W.y
  kz : W.k ≠ W.z
  dr : W.d ≠ W.r
  dm : W.d ≠ W.m
  dx : W.d ≠ W.x
  dy : W.d ≠ W.y
  dz : W.d ≠ W.z
  rm : W.r ≠ W.m
  rx : W.r ≠ W.x
  ry : W.r ≠ W.y
  rz : W.r ≠ W.z
  mx : W.m ≠ W.x
  my : W.m ≠ W.y
  mz : W.m ≠ W.z
  xy : W.x ≠ W.y
  xz : W.x ≠ W.z
  yz : W.y ≠ W.z
theorem WI.ne {W : WI} (h : [W.k, W.d, W.r, W.m, W.x, W.y, W.z].Nodup) : W.Ne := by
  simp only [List.nodup_cons, List.mem_cons, List.not_mem_nil, or_false, not_or, List.nodup_nil, and_true, not_false_eq_true] at h
  obtain ⟨⟨h1, h2, h3, h4, h5, h6⟩, ⟨h7, h8, h9, h10, h11⟩, ⟨h12, h13, h14, h15⟩, ⟨h16, h17, h18⟩, ⟨h19, h20⟩, h21⟩ := h
  exact ⟨h1, h2, h3, h4, h5, h6, h7, h8, h9, h10, h11, h12, h13, h14, h15, h16, h17, h18, h19, h20, h21⟩
section
variable {w w0 : World} {Kp : KP} {K : K0} {B : Nat} {T : Store} {W : WI} {s s' : PS}
theorem WI.Ne.triP (N : W.Ne) : Tri W.d W.r W.m := ⟨N.dr, N.dm, N.rm⟩
theorem WI.Ne.triR (N : W.Ne) : Tri W.x W.y W.z := ⟨N.xy, N.xz, N.yz⟩
theorem upM_S (N : W.Ne) : upM W s s' = upS (upT (upR (fun _ => none) 85 87 W.x W.y W.z s') W.k (raw W.cells 39)) 134 138 W.d W.r W.m s := by
  unfold upM upS upR
  rw [upT_comm _ N.kd, upT_comm _ N.kr, upT_comm _ N.km]
  congr 1
  rw [upT_comm _ N.mx, upT_comm _ N.my, upT_comm _ N.mz, upT_comm _ N.rx, upT_comm _ N.ry, upT_comm _ N.rz, upT_comm _ N.dx, upT_comm _ N.dy, upT_comm _ N.dz]
theorem upM_R (N : W.Ne) : upM W s s' = upR (upT (upS (fun _ => none) 134 138 W.d W.r W.m s) W.k (raw W.cells 39)) 85 87 W.x W.y W.z s' := by
  unfold upM upR
  rw [upT_comm _ N.kx, upT_comm _ N.ky, upT_comm _ N.kz]
theorem upM_k : upM W s s' W.k = some (raw W.cells 39) := upT_same ..
theorem upM_d (N : W.Ne) : upM W s s' W.d = some (datas 134 s.ds) := by rw [upM_S N]; unfold upS; rw [upT_ne N.dm, upT_ne N.dr, upT_same]
theorem upM_r (N : W.Ne) : upM W s s' W.r = some (rets 138 s.rs) := by rw [upM_S N]; unfold upS; rw [upT_ne N.rm, upT_same]
theorem upM_m (N : W.Ne) : upM W s s' W.m = some (memory s.mem) := by rw [upM_S N]; unfold upS; rw [upT_same]
theorem upM_x (N : W.Ne) : upM W s s' W.x = some (datas 85 s'.ds) := by rw [upM_R N]; exact N.triR.lX
theorem upM_y (N : W.Ne) : upM W s s' W.y = some (rets 87 s'.rs) := by rw [upM_R N]; exact N.triR.lY
theorem upM_z (N : W.Ne) : upM W s s' W.z = some (refmem s'.mem) := by rw [upM_R N]; exact N.triR.lZ
theorem toneCells_get : ∀ (l : List (Int × Int × Int)) (i : Nat) (c : Int × Int × Int), l[i]? = some c → (toneCells l)[i * 3]? = some (i64 c.1) ∧ (toneCells l)[i * 3 + 1]? = some (u16 c.2.1) ∧ (toneCells l)[i * 3 + 2]? = some (u8 c.2.2)
  | [], i, c, h => by simp at h
  | (a, b, e) :: l, 0, c, h => by simp at h; subst h; exact ⟨rfl, rfl, rfl⟩
  | (a, b, e) :: l, i + 1, c, h => by
    rw [show (i + 1) * 3 = i * 3 + 1 + 1 + 1 by omega]
    exact toneCells_get l i c (by simpa using h)
theorem R_neq120 (a b c d e f : Int) : R P (vbin .neq 120 false false (.agg #[i64 a, u16 b, u8 c]) (.agg #[i64 d, u16 e, u8 f])) (.bool (!((a == d) && ((b == e) && ((c == f) && true))))) := R_neqV (by kernel_rfl) (by kernel_rfl)
theorem toneCells_nil {l : List (Int × Int × Int)} (h : toneCells l = []) : l = [] := by
  cases l with
  | nil => rfl
  | cons c l => obtain ⟨a, b, e⟩ := c; cases h
theorem sameTones_spec {n m : Nat} {v u : Value} {xs ys : List (Int × Int × Int)} (hv : Sees w v n (toneCells xs)) (hu : Sees w u m (toneCells ys)) (hn : xs.length = n) (hm : ys.length = m) (hn' : n ≤ 100000) (hm' : m ≤ 100000)
    (k : ∀ w', Grow w w' → K (.bool (decide (xs = ys))) w') : Calls P 51 #[v, u] w (EndsS Kp K) := by
  obtain ⟨va, vc, rfl, hvc, -⟩ := hv.sees
  obtain ⟨ua, uc, rfl, huc, -⟩ := hu.sees
  refine F51_calls ?_
  unfold F51
  repeat' (with_reducible first
    | refine C_t ?_
    | refine C_f ?_
    | refine S_neq (fun hc => ?_) (fun hc => ?_)
    | (apply S_R; exact R_lenS Tryz.underlying67))
  · have : xs ≠ ys := by rintro rfl; omega
    have k := k w (Grow.refl _)
    rw [decide_eq_false this] at k; exact k
  have hnm : n = m := by omega
  subst hnm
  refine loop_count (fun i (_ : Unit) => upd 0 (.slice va n vc) (upd 1 (.slice ua n uc) (upd 4 (.bool false) (upd 12 (i64 (n : Int)) (upd 13 (i64 (i : Int)) E0))))) 13 .i64 n (fun i _ w' => Grow w w' ∧ xs.take i = ys.take i) () (fun _ _ => rfl) rfl ⟨Grow.refl _, rfl⟩ ?_
  rintro i - w1 KL hi ⟨hg, heq⟩ next
  try simp (decide := true) only [upd_hit, upd_miss]
  refine (S_lss (fun h => C_t ?_) (fun h => C_f ?_))
  · have h : i < n := by omega
    obtain ⟨x, hxi⟩ : ∃ x, xs[i]? = some x := ⟨_, List.getElem?_eq_getElem (by omega)⟩
    obtain ⟨y, hyi⟩ : ∃ y, ys[i]? = some y := ⟨_, List.getElem?_eq_getElem (by omega)⟩
    obtain ⟨vg, vo, vc', e1, -, hvx⟩ := (hv.grow hg).at (by rintro e; have e := toneCells_nil e; subst e; simp at hxi)
    obtain ⟨ug, uo, uc', e2, -, hux⟩ := (hu.grow hg).at (by rintro e; have e := toneCells_nil e; subst e; simp at hyi)
    simp only [Value.slice.injEq] at e1 e2
    obtain ⟨rfl, -, rfl⟩ := e1
    obtain ⟨rfl, -, rfl⟩ := e2
    have row : ∀ {g o : Nat} {zs : List (Int × Int × Int)} {z : Int × Int × Int}, zs[i]? = some z → (∀ j u, (toneCells zs)[j]? = some u → w1.cell? ⟨g, o + j, none⟩ = some u) → ∀ w', w' = drewW w1 → ∀ j u, [i64 z.1, u16 z.2.1, u8 z.2.2][j]? = some u → w'.cell? ⟨g, o + (i : Int).toNat * 3 + j, none⟩ = some u := by
      rintro g o zs z hz hc _ rfl j u hj
      obtain ⟨e1, e2, e3⟩ := toneCells_get zs i z hz
      rw [Int.toNat_natCast]
      match j, hj with
      | 0, hj => simp at hj; subst hj; exact hc _ _ e1
      | 1, hj => simp at hj; subst hj; exact hc _ _ e2
      | 2, hj => simp at hj; subst hj; exact hc _ _ e3
    have ex := row hxi hvx
    have ey := row hyi hux
    refine ⟨fun w' => w' = drewW w1, rfl, ?_⟩
    repeat' (with_reducible first
      | refine Fl_loadRowC rw120 (by with_unfolding_all exact sz120) ex ?_
      | refine Fl_loadRowC rw120 (by with_unfolding_all exact sz120) ey ?_
      | (apply Fl_R; exact R_ixA Tryz.underlying67 sz120 (by omega) (by omega)))
    refine Fl_R (R_neq120 _ _ _ _ _ _) ?_
    by_cases hxy : x = y
    · subst hxy
      rw [show (!((x.1 == x.1) && ((x.2.1 == x.2.1) && ((x.2.2 == x.2.2) && true)))) = false by simp]
      repeat' (with_reducible first
        | refine C_f ?_
        | (apply S_R; exact R_addi (by omega)))
      exact next h () _ ⟨hg.trans (Grow.drew w1), (take_snoc_iff hxi hyi heq).2 rfl⟩
    · rw [show (!((x.1 == y.1) && ((x.2.1 == y.2.1) && ((x.2.2 == y.2.2) && true)))) = true by
        rw [Bool.not_eq_true']
        rw [Bool.eq_false_iff]
        intro h
        simp only [Bool.and_eq_true, beq_iff_eq, and_true] at h
        exact hxy (Prod.ext h.1 (Prod.ext h.2.1 h.2.2))]
      repeat' (with_reducible refine C_t ?_)
      have k := k _ (hg.trans (Grow.drew w1))
      rw [decide_eq_false (eq_of_take hxi hyi hxy)] at k; exact k
  · have : i = n := by omega
    subst this
    rw [List.take_of_length_le (by omega), List.take_of_length_le (by omega)] at heq
    have k := k _ hg
    rw [decide_eq_true heq] at k; exact k
theorem Copy.sees {e n sz : Nat} {xs : List Value} {v : Value} {T' : Store} (h : Copy T e n xs v T') (hr : Rep B w0 T' w) (hl : xs.length = n * sz) : Sees w v n xs ∧ Ext T T' := by
  rcases h with ⟨rfl, rfl, rfl⟩ | ⟨b, rfl, h0, hb, rfl⟩
  · have : xs = [] := List.eq_nil_of_length_eq_zero (by simpa using hl)
    subst this
    exact ⟨Sees.nil w, Ext.refl _⟩
  · have hg := hr.raw (upT_same ..)
    refine ⟨⟨_, n, rfl, Nat.le_refl _, fun j u hj => ⟨b, 0, rfl, ?_⟩⟩, Ext.new hb⟩
    rw [Nat.zero_add, cell_of_row w b j _ _ _ hg, List.getElem?_toArray]; exact hj
theorem Wd.cells (h : Rep B w0 T w) (hk : T W.k = some (raw W.cells 39)) : w.heap[W.k]? = some (.cells #[ptr W.d 0, ptr W.r 0, ptr W.m 0, ptr W.x 0, ptr W.y 0, ptr W.z 0] 39 (0, 0)) := h.raw hk
/-- the two stacks are the same -/
theorem stacks_spec (N : W.Ne) (hx : Ext (upM W s s) T) (h : Rep B w0 T w) (ok : PS.Ok s) (K1 : ∀ w', Rep B w0 T w' → K (.bool true) w') : Calls P 12 #[ptr W.k 0] w (EndsS Kp K) := by
  have hdl := ok.dl
  have hrl := ok.rl
  refine F12_calls ?_
  unfold F12
  have hg := h.grow (Grow.drew w)
  refine ⟨fun w' => w'.heap[W.k]? = some (.cells #[ptr W.d 0, ptr W.r 0, ptr W.m 0, ptr W.x 0, ptr W.y 0, ptr W.z 0] 39 (0, 0)), Wd.cells hg (hx _ _ upM_k), ?_⟩
  repeat' (with_reducible first
    | (apply Fl_R; first | exact R_nil _ | exact R_f39_0 _ _ | exact R_f39_1 _ _)
    | refine Fl_loadB pl32 (fun w hw => (by first | assumption | exact hw | exact hw.1 | exact hw.2 | exact hw.2.1 | exact hw.2.2)) (by first | assumption | (with_unfolding_all exact rfl)) ?_
    | refine Fl_loadB pl33 (fun w hw => (by first | assumption | exact hw | exact hw.1 | exact hw.2 | exact hw.2.1 | exact hw.2.2)) (by first | assumption | (with_unfolding_all exact rfl)) ?_)
  refine S_c17 (cells_spec hg (hx _ _ (upM_d N)) (by omega) (fun v1 T1 w1 hc1 h1 => ⟨?_, ?_⟩))
  · exact Wd.cells (h1.ext (hc1.sees h1 (sz := 1) (by simp)).2) (hx _ _ upM_k)
  have x1 := hc1.sees h1 (sz := 1) (by simp)
  refine S_c18 (cellsR_spec h1 (x1.2 _ _ (hx _ _ (upM_r N))) (by omega) (fun v2 T2 w2 hc2 h2 => ⟨?_, ?_⟩))
  · exact Wd.cells (h2.ext (x1.2.trans (hc2.sees h2 (sz := 2) (by rw [enc_len])).2)) (hx _ _ upM_k)
  have x2 := hc2.sees h2 (sz := 2) (by rw [enc_len])
  have hv1 : Sees w2 v1 s.ds.length (s.ds.map u16) := by
    rcases hc1 with ⟨rfl, e, _⟩ | ⟨b, rfl, h0, hb, rfl⟩
    · rw [e]
      have : s.ds = [] := List.eq_nil_of_length_eq_zero e
      rw [this]; exact Sees.nil w2
    · have hg2 := h2.raw (x2.2 _ _ (upT_same ..))
      refine ⟨_, s.ds.length, rfl, Nat.le_refl _, fun j u hj => ⟨b, 0, rfl, ?_⟩⟩
      rw [Nat.zero_add, cell_of_row w2 b j _ _ _ hg2, List.getElem?_toArray]; exact hj
  have h2' := h2.ext (x1.2.trans x2.2)
  have hk := Wd.cells h2' (hx _ _ upM_k)
  obtain ⟨sx, hxx, hox, -, hltx, -⟩ := h2'.pile (hx _ _ (upM_x N))
  have sees1 := Sees.own hox
  obtain ⟨sxa, sxc, rfl, -⟩ := own_slice hox
  repeat' (with_reducible first
    | (apply S_R; first | exact R_nil _ | exact R_f39_3 _ _ | exact R_f85_0 _ _)
    | refine S_loadB pl35 (by first | assumption | exact heap_old (by assumption) (by assumption)) (by first | assumption | (with_unfolding_all exact rfl)) ?_
    | refine S_loadB pl22 (by first | assumption | exact heap_old (by assumption) (by assumption)) (by first | assumption | (with_unfolding_all exact rfl)) ?_)
  refine S_c35 (sameCells_spec hv1 sees1 rfl rfl (by omega) (by omega) (fun w3 g3 => ?_))
  rw [decide_eq_true rfl]
  have h3 := h2'.grow g3
  have hk3 := Wd.cells h3 (hx _ _ upM_k)
  obtain ⟨sy, hy, hoy, -, hlty, -⟩ := h3.pile (hx _ _ (upM_y N))
  have sees2 := Sees.own hoy
  obtain ⟨sya, syc, rfl, -⟩ := own_slice hoy
  repeat' (with_reducible first
    | refine GS_t ?_
    | (apply S_R; first | exact R_move _ | exact R_nil _ | exact R_f39_4 _ _ | exact R_f87_0 _ _)
    | refine S_loadB pl36 (by first | assumption | exact heap_old (by assumption) (by assumption)) (by first | assumption | (with_unfolding_all exact rfl)) ?_
    | refine S_loadB pl23 (by first | assumption | exact heap_old (by assumption) (by assumption)) (by first | assumption | (with_unfolding_all exact rfl)) ?_)
  refine S_c46 (sameReturn_spec (x2.1.grow g3) sees2 rfl rfl (by omega) (by omega) (fun w4 g4 => ?_))
  rw [decide_eq_true rfl]
  repeat' (with_reducible (apply S_R; exact R_pick_t _ _))
  exact K1 w4 (h3.grow g4)
end
end Go.Proofs.YtebmnfmiphbgdaaGreatDoor
namespace Go.Proofs.YtebmnfmiphbgdaaGreatDoor
open Go.Sh
section
variable {w w0 : World} {Kp : KP} {K : K0} {B : Nat} {T : Store} {W : WI} {s s' : PS}
theorem ownAt_at {n i : Nat} {y : Int} {x : List Int} {va : Option Addr} {vc : Nat} (hv : OwnAt T 41 n (x.map u16) (.slice va n vc)) (hi : x[i]? = some y) : ∃ g, va = some ⟨g, 0, none⟩ ∧ ∀ w', Rep B w0 T w' → w'.cell? ⟨g, 0 + (i : Int).toNat * 1, none⟩ = some (u16 y) := by
  obtain ⟨g, c, e, hc, hb⟩ := hv.at (by intro e; rw [List.map_eq_nil_iff] at e; subst e; simp at hi)
  simp only [Value.slice.injEq, true_and] at e
  obtain ⟨rfl, rfl⟩ := e
  exact ⟨g, rfl, fun w' h' => row_at h' hb hi⟩
theorem S_bs5 {a b c d e : Int} (K1 : ∀ v w', New w w' 41 1 5 ([a, b, c, d, e].map u16) v → K v w') : S P (vbuildS 22 5 #[(0, u16 a), (1, u16 b), (2, u16 c), (3, u16 d), (4, u16 e)]) w Kp K := by
  have hrun : (vbuildS 22 5 #[(0, u16 a), (1, u16 b), (2, u16 c), (3, u16 d), (4, u16 e)]).run P w = .ok (.value (sl w.heap.size 0 5 5)) (w.alloc (.cells #[u16 a, u16 b, u16 c, u16 d, u16 e] 41)) := by kernel_rfl
  exact S_run hrun (K1 _ _ (New.block (xs := [a, b, c, d, e].map u16) rfl (by unfold maxLen; omega)))
set_option maxHeartbeats 4000000 in
theorem near_spec {n : Nat} {top : List Int} {v : Value} (N : W.Ne) (hx : Ext (upM W s s) T) (h : Rep B w0 T w) (hv : OwnAt T 41 n (top.map u16) v) (hn : top.length = n) (hn3 : n ≤ 3) (htop : ∀ a ∈ top, isC a) (ok : s.mem.Ok) (ht : s.mem.tones.length ≤ 100000)
    (K1 : ∀ w', Rep B w0 T w' → K (.bool true) w') : Calls P 40 #[ptr W.k 0, v] w (EndsS Kp K) := by
  obtain ⟨va, vc, rfl⟩ : ∃ va vc, v = .slice va n vc := by
    rcases hv with ⟨rfl, rfl, _⟩ | ⟨b, c, rfl, _, _⟩
    · exact ⟨none, 0, rfl⟩
    · exact ⟨_, c, rfl⟩
  have hkc : ∀ {T : Store}, Ext (upM W s s) T → ∀ w', Rep B w0 T w' → w'.heap[W.k]? = some (.cells #[ptr W.d 0, ptr W.r 0, ptr W.m 0, ptr W.x 0, ptr W.y 0, ptr W.z 0] 39 (0, 0)) := fun hx w' h' => h'.raw (hx _ _ upM_k)
  refine F40_calls ?_
  unfold F40
  refine loop_count (fun i (_ : Unit) => upd 0 (ptr W.k 0) (upd 1 (.slice va n vc) (upd 4 (.bool false) (upd 5 (i64 (i : Int)) (upd 6 undef (upd 7 undef E0)))))) 5 .i64 n (fun i _ w' => Rep B w0 T w') () (fun _ _ => rfl) rfl h ?_
  rintro i - w1 KL hi h1 next
  try simp (decide := true) only [upd_hit, upd_miss]
  by_cases hi' : i < n
  · obtain ⟨a, ha⟩ : ∃ a, top[i]? = some a := ⟨_, List.getElem?_eq_getElem (by omega)⟩
    have hac := htop a (List.mem_of_getElem? ha)
    obtain ⟨g, rfl, hcell⟩ := ownAt_at (B := B) (w0 := w0) hv ha
    have hkk := hkc hx
    have hg := h1.grow (Grow.drew w1)
    repeat' (with_reducible first
      | refine C_t ?_
      | refine GS_t ?_
      | refine S_lss_t (by omega) ?_
      | (apply S_R; first | exact R_move _ | exact R_lenS Tryz.underlying22 | exact R_pick_t _ _))
    refine ⟨fun w' => Rep B w0 T w', hg, ?_⟩
    repeat' (with_reducible first
      | refine Fl_loadB pl34 hkk (by with_unfolding_all exact rfl) ?_
      | refine Fl_loadB pl37 hkk (by with_unfolding_all exact rfl) ?_
      | refine Fl_loadC pl41 hcell ?_
      | (apply Fl_R; first | exact R_nil _ | exact R_f39_2 _ _ | exact R_ixA Tryz.underlying22 sz41 (by omega) (by omega) | exact R_f39_5 _ _))
    refine S_c71 (cell_spec hg (hx _ _ (upM_m N)) hac (fun w2 h2 => ⟨h2, ?_⟩))
    refine S_c72 (rcell_spec h2 (hx _ _ (upM_z N)) hac (fun w3 h3 => ⟨h3, ?_⟩))
    unfold isC at hac
    repeat' (with_reducible first
      | refine GS_f' ?_
      | refine GF_f' ?_
      | refine Fl_loadB pl34 hkk (by with_unfolding_all exact rfl) ?_
      | refine Fl_loadB pl37 hkk (by with_unfolding_all exact rfl) ?_
      | refine Fl_loadC pl41 hcell ?_
      | refine Fl_R R_add16 ?_
      | refine Fl_neq_f (by omega) ?_
      | (apply Fl_R; first | exact R_move _ | exact R_nil _ | exact R_f39_2 _ _ | exact R_ixA Tryz.underlying22 sz41 (by omega) (by omega) | exact R_f39_5 _ _))
    refine S_c71 (cell_spec h3 (hx _ _ (upM_m N)) (by unfold isC; omega) (fun w4 h4 => ⟨h4, ?_⟩))
    repeat' (with_reducible refine GS_f' ?_)
    refine S_c72 (rcell_spec h4 (hx _ _ (upM_z N)) (by unfold isC; omega) (fun w5 h5 => ⟨h5, ?_⟩))
    repeat' (with_reducible first
      | refine C_f ?_
      | refine GF_f' ?_
      | refine Fl_neq_f (by omega) ?_
      | (apply S_R; exact R_addi (by omega))
      | (apply Fl_R; exact R_pick_f _ _))
    exact next hi' () w5 h5
  · repeat' (with_reducible first
   | refine C_f ?_
   | refine GS_f ?_
   | refine S_lss_f (by omega) ?_
   | (apply S_R; first | exact R_lenS Tryz.underlying22 | exact R_pick_f _ _))
    refine S_bs5 (fun v2 w2 hN => ?_)
    obtain ⟨T2, hx2, hv2, h2⟩ := hN.lay h1
    have hxx := hx.trans hx2
    have hkk := hkc hxx
    obtain ⟨va2, vc2, rfl⟩ : ∃ va vc, v2 = .slice va 5 vc := by
      rcases hv2 with ⟨_, e, _⟩ | ⟨b, c, rfl, _, _⟩
      · cases e
      · exact ⟨_, c, rfl⟩
    refine loop_count (fun j (_ : Unit) => upd 0 (ptr W.k 0) (upd 1 (.slice va n vc) (upd 4 (.bool false) (upd 5 (i64 (i : Int)) (upd 6 (.slice va2 5 vc2) (upd 7 (i64 (j : Int)) E0)))))) 7 .i64 5 (fun j _ w' => Rep B w0 T2 w') () (fun _ _ => rfl) rfl h2 ?_
    rintro j - w3 KL2 hj h3 next2
    try simp (decide := true) only [upd_hit, upd_miss]
    by_cases hj' : j < 5
    · obtain ⟨a, ha⟩ : ∃ a, ([65280, 65282, 65284, 65286, 65288] : List Int)[j]? = some a := ⟨_, List.getElem?_eq_getElem (by simpa using hj')⟩
      have hac : isC a := by
        have := List.mem_of_getElem? ha
        unfold isC
        simp at this
        omega
      obtain ⟨g, rfl, hcell⟩ := ownAt_at (B := B) (w0 := w0) hv2 ha
      have hg := h3.grow (Grow.drew w3)
      repeat' (with_reducible first
        | refine C_t ?_
        | refine S_lss_t (by omega) ?_
        | (apply S_R; exact R_lenS Tryz.underlying22))
      refine ⟨fun w' => Rep B w0 T2 w', hg, ?_⟩
      repeat' (with_reducible first
        | refine Fl_loadB pl34 hkk (by with_unfolding_all exact rfl) ?_
        | refine Fl_loadB pl37 hkk (by with_unfolding_all exact rfl) ?_
        | refine Fl_loadC pl41 hcell ?_
        | (apply Fl_R; first | exact R_nil _ | exact R_f39_2 _ _ | exact R_ixA Tryz.underlying22 sz41 (by omega) (by omega) | exact R_f39_5 _ _))
      refine S_c71 (cell_spec hg (hxx _ _ (upM_m N)) hac (fun w4 h4 => ⟨h4, ?_⟩))
      refine S_c72 (rcell_spec h4 (hxx _ _ (upM_z N)) hac (fun w5 h5 => ⟨h5, ?_⟩))
      repeat' (with_reducible first
        | refine C_f ?_
        | refine Fl_neq_f (by omega) ?_
        | (apply S_R; exact R_addi (by omega)))
      exact next2 hj' () w5 h5
    · have hk3 := hkk w3 h3
      repeat' (with_reducible first
        | refine C_f ?_
        | refine S_lss_f (by omega) ?_
        | (apply S_R; first | exact R_nil _ | exact R_lenS Tryz.underlying22 | exact R_f39_2 _ _)
        | refine S_loadB pl34 (by first | assumption | exact heap_old (by assumption) (by assumption)) (by first | assumption | (with_unfolding_all exact rfl)) ?_)
      refine S_c50 (tones_spec h3 (hxx _ _ (upM_m N)) ht (fun v5 T5 w5 hx5 hv5 h5 => ?_))
      have hx3 := hxx.trans hx5
      have hk5 := hkc hx3 w5 h5
      obtain ⟨bv, rb, sb, bl, tv, hm, -⟩ := h5.ref (hx3 _ _ (upM_z N))
      have hcl := hm.cells
      have hst := Sees.own hm.own
      repeat' (with_reducible first
        | (apply S_R; first | exact R_nil _ | exact R_f39_5 _ _ | exact R_f69_9 _ _)
        | refine S_loadB pl37 (by first | assumption | exact heap_old (by assumption) (by assumption)) (by first | assumption | (with_unfolding_all exact rfl)) ?_
        | refine S_loadB pl67 (by first | assumption | exact heap_old (by assumption) (by assumption)) (by first | assumption | (with_unfolding_all exact rfl)) ?_)
      refine S_c51 (sameTones_spec (hv5.sees h5) hst rfl rfl ht ht (fun w6 g6 => ?_))
      rw [decide_eq_true rfl]
      exact K1 w6 ((h5.grow g6).ext (hx2.trans hx5))
end
end Go.Proofs.YtebmnfmiphbgdaaGreatDoor
namespace Go.Proofs.YtebmnfmiphbgdaaGreatDoor
open Go.Sh
theorem flag_isC (b : Bool) : isC (flag b) := by unfold flag isC; split <;> omega
theorem binary_isC {op x y z : Int} (hx : isC x) (hy : isC y) (h : binary op x y = some z) : isC z := by
  have hx' := hx
  have hy' := hy
  unfold isC at hx' hy'
  have m : ∀ a : Int, isC (a % 65536) := fun a => by unfold isC; omega
  unfold binary at h
  by_cases h1 : op = 21; · simp [h1] at h; rw [← h]; exact m _
  by_cases h2 : op = 22; · simp [h2] at h; rw [← h]; exact m _
  by_cases h3 : op = 23; · simp [h3] at h; rw [← h]; exact m _
  rw [if_neg h1, if_neg h2, if_neg h3] at h
  by_cases h4 : op = 24 ∨ op = 25 ∨ op = 26 ∨ op = 27
  · rw [if_pos h4] at h
    simp only [Option.some.injEq] at h
    rw [← h]
    unfold divided
    split
    · unfold isC; omega
    split; · exact m _
    split; · exact m _
    split
    · have h1 := Int.ediv_nonneg hx'.1 hy'.1
      have h2 := Int.ediv_le_self y hx'.1
      unfold isC; omega
    · have h1 := Int.emod_nonneg x (b := y) (by omega)
      have h2 := Int.emod_lt_of_pos x (b := y) (by omega)
      unfold isC; omega
  rw [if_neg h4] at h
  by_cases q1 : op = 30; · rw [if_pos q1, Option.some.injEq] at h; rw [← h]; split <;> assumption
  rw [if_neg q1] at h
  by_cases q2 : op = 31; · rw [if_pos q2, Option.some.injEq] at h; rw [← h]; split <;> assumption
  rw [if_neg q2] at h
  by_cases q3 : op = 36
  · rw [if_pos q3, Option.some.injEq] at h
    have := Nat.and_lt_two_pow (n := 16) x.toNat (show y.toNat < 2 ^ 16 by omega)
    rw [← h]; unfold isC; omega
  rw [if_neg q3] at h
  by_cases q4 : op = 37
  · rw [if_pos q4, Option.some.injEq] at h
    have := Nat.or_lt_two_pow (n := 16) (show x.toNat < 2 ^ 16 by omega) (show y.toNat < 2 ^ 16 by omega)
    rw [← h]; unfold isC; omega
  rw [if_neg q4] at h
  by_cases q5 : op = 38
  · rw [if_pos q5, Option.some.injEq] at h
    have := Nat.xor_lt_two_pow (n := 16) (show x.toNat < 2 ^ 16 by omega) (show y.toNat < 2 ^ 16 by omega)
    rw [← h]; unfold isC; omega
  rw [if_neg q5] at h
  by_cases q6 : op = 40
  · rw [if_pos q6, Option.some.injEq] at h
    rw [← h]
    split
    · unfold isC; omega
    · exact m _
  rw [if_neg q6] at h
  by_cases q7 : op = 41
  · rw [if_pos q7, Option.some.injEq] at h
    rw [← h]
    split
    · unfold isC; omega
    · have hp : (0 : Int) ≤ 2 ^ y.toNat := Int.pow_nonneg (by omega)
      have h1 := Int.ediv_nonneg hx'.1 hp
      have h2 := Int.ediv_le_self (2 ^ y.toNat) hx'.1
      unfold isC; omega
  rw [if_neg q7] at h
  repeat' split at h
  all_goals (first | (cases h; done) | (simp only [Option.some.injEq] at h; rw [← h]; exact flag_isC _))
theorem retAt_isC {rs : List RC2} (h : ∀ c ∈ rs, isC c.2) (j kind : Int) : isC (retAt rs j kind).1 := by
  have z : isC 0 := by unfold isC; omega
  unfold retAt
  split; · exact z
  split
  · rename_i c hc
    split
    · exact h c (List.mem_of_getElem? hc)
    · exact z
  · exact z
theorem seen_isC {rs : List RC2} (h : ∀ c ∈ rs, isC c.2) (op : Int) : isC (Sh.seen op rs).1 := by
  unfold Sh.seen
  split; · exact retAt_isC h _ _
  split; · exact retAt_isC h _ _
  split; · exact retAt_isC h _ _
  unfold isC; decide
theorem isB_isC {x : Int} (h : isB x) : isC x := by unfold isB at h; unfold isC; omega
theorem puts_isC {op : Int} {x : List Int} {s : PS} (ok : PS.Ok s) (hx : ∀ a ∈ x, isC a) : ∀ z ∈ puts op x s, isC z := by
  intro z hz
  unfold puts at hz
  cases hs : shufOf op x with
  | some l =>
    rw [hs] at hz
    unfold shufOf at hs
    repeat' split at hs
    all_goals (first | (cases hs; done) | skip)
    all_goals (
      simp only [Option.some.injEq] at hs
      subst hs
      refine hx z ?_
      first | (simp only [List.mem_cons, List.not_mem_nil, or_false] at hz ⊢; omega) | (simp at hz))
  | none =>
    rw [hs] at hz
    dsimp only at hz
    match x, hx, hz with
    | [], _, hz =>
      dsimp only at hz
      split at hz
      · simp at hz; subst hz; exact seen_isC ok.rs op
      split at hz
      · simp at hz; subst hz; exact isB_isC ok.mem.pad
      · simp at hz
    | [a], hx, hz =>
      have ha := hx a (by simp)
      dsimp only at hz
      cases hu : unary op a with
      | some y => rw [hu] at hz; simp at hz; subst hz; exact unary_isC ha hu
      | none =>
        rw [hu] at hz
        dsimp only at hz
        split at hz
        · simp at hz; subst hz; exact ok.mem.cellC a
        split at hz
        · simp at hz; subst hz; exact isB_isC (ok.mem.loadB a)
        · simp at hz
    | [a, b], hx, hz =>
      dsimp only at hz
      cases hb : binary op a b with
      | some y => rw [hb] at hz; simp at hz; subst hz; exact binary_isC (hx a (by simp)) (hx b (by simp)) hb
      | none => rw [hb] at hz; simp at hz
    | a :: b :: c :: l, _, hz => simp at hz
theorem rets_isC {op : Int} {x : List Int} {rs : List RC2} (h : ∀ c ∈ rs, isC c.2) (hx : ∀ a ∈ x, isC a) : ∀ c ∈ retsOf op x rs, isC c.2 := by
  intro c hc
  unfold retsOf at hc
  repeat' split at hc
  all_goals (first | exact h c hc | skip)
  · simp only [List.mem_append, List.mem_cons, List.not_mem_nil, or_false] at hc
    rcases hc with hc | rfl | rfl
    · exact h c hc
    · exact hx _ (by simp)
    · exact hx _ (by simp)
  · simp only [List.mem_append, List.mem_cons, List.not_mem_nil, or_false] at hc
    rcases hc with hc | rfl
    · exact h c hc
    · exact hx _ (by simp)
  · rw [List.dropLast_eq_take] at hc; exact h c (List.mem_of_mem_take hc)
theorem rets_len {op : Int} {x : List Int} {rs : List RC2} (h : rs.length + addsOf op ≤ 128) : (retsOf op x rs).length ≤ 128 := by
  have ha : 0 ≤ addsOf op := by
    unfold addsOf
    repeat' split
    all_goals omega
  unfold retsOf
  split
  · split
    · rename_i e; subst e; have : addsOf 6 = 2 := rfl; simp; omega
    · omega
  · split
    · rename_i e; subst e; have : addsOf 55 = 1 := rfl; simp; omega
    · omega
  · split
    · simp; omega
    · omega
  · omega
theorem mem_keeps {op : Int} {x : List Int} {M : Mem} (h : M.Ok) (hx : ∀ a ∈ x, isC a) : (memOf op x M).Ok ∧ (memOf op x M).tones.length ≤ M.tones.length + 3 := by
  have same : M.Ok ∧ M.tones.length ≤ M.tones.length + 3 := ⟨h, by omega⟩
  have t := fun (N : Mem) (a b : Int) => Mem.tones_store N a b
  have set : ∀ (a b : Int), isC b → (M.setCell a b).Ok ∧ (M.setCell a b).tones.length ≤ M.tones.length + 2 := fun a b hb => ⟨h.setCell hb, by
    unfold Mem.setCell
    have h1 := t (M.store a (b % 256)) ((a + 1) % 65536) (b / 256)
    have h2 := t M a (b % 256)
    omega⟩
  have m8 : ∀ a : Int, isB (a % 256) := fun a => by unfold isB; omega
  unfold memOf
  split
  · rename_i a b
    have ha := hx a (by simp)
    split
    · have := set b a ha; exact ⟨this.1, by omega⟩
    split
    · exact ⟨h.store (m8 _), by have := t M b (a % 256); omega⟩
    split
    · have := set b ((M.cell b + a) % 65536) (by unfold isC; omega); exact ⟨this.1, by omega⟩
    split
    · unfold Mem.play
      have := set 65284 a ha
      exact ⟨this.1.store (m8 _), by have h3 := t (M.setCell 65284 a) 65286 (b % 256); omega⟩
    · exact same
  · rename_i a
    split
    · unfold Mem.choose; exact ⟨h.store (m8 _), by have := t M 65280 (a % 256); omega⟩
    · exact same
  · rename_i a b c
    split
    · unfold Mem.plot
      split
      · exact ⟨h.store (m8 _), by have := t M (49152 + 64 * b + a) (c % 256); omega⟩
      · exact same
    · exact same
  · exact same
/-- what a primitive leaves is as it may be -/
theorem primDo_ok {op : Int} {s : PS} (ok : PS.Ok s) : PS.Ok (primDo op s) ∧ (primDo op s).mem.tones.length ≤ s.mem.tones.length + 3 := by
  unfold primDo
  split
  · rename_i hf
    by_cases hop : plainOp op
    · obtain ⟨f1, f2, f3, f4⟩ := fault0 hop hf
      have hsm := small_tab (op := op)
      obtain ⟨n, hn⟩ : ∃ n : Nat, inOf op = n := ⟨(inOf op).toNat, by omega⟩
      have hsp : s.ds = s.ds.take (s.ds.length - n) ++ s.ds.drop (s.ds.length - n) := (List.take_append_drop _ _).symm
      have hln : (inOf op).toNat = (s.ds.drop (s.ds.length - n)).length := by rw [List.length_drop]; omega
      have hxc : ∀ a ∈ s.ds.drop (s.ds.length - n), isC a := fun a ha => ok.ds a (List.mem_of_mem_drop ha)
      rw [act_eq hsp hln]
      have hout := puts_len (s := s) hop hln
      have hmk := mem_keeps (op := op) ok.mem hxc
      refine ⟨⟨fun z hz => ?_, ?_, rets_isC ok.rs hxc, rets_len f4, hmk.1⟩, hmk.2⟩
      · rcases List.mem_append.1 hz with hz | hz
        · exact ok.ds z (List.mem_of_mem_take hz)
        · exact puts_isC ok hxc z hz
      · show (s.ds.take _ ++ puts op _ s).length ≤ 256
        rw [List.length_append, List.length_take]
        omega
    · unfold primFault at hf; rw [if_pos hop] at hf; cases hf
  · exact ⟨ok, by omega⟩
end Go.Proofs.YtebmnfmiphbgdaaGreatDoor
namespace Go.Proofs.YtebmnfmiphbgdaaGreatDoor
open Go.Sh
section
variable {w w0 : World} {Kp : KP} {K : K0} {B : Nat} {T : Store} {W : WI} {s s' : PS}
theorem upS_upS {d r m td tr : Nat} {s1 : PS} (D : Tri d r m) : upS (upS T td tr d r m s) td tr d r m s1 = upS T td tr d r m s1 := by
  unfold upS
  rw [upT_comm _ D.dm.symm, upT_comm _ D.dr.symm, upT_upT, upT_comm _ D.rm.symm, upT_upT, upT_upT]
theorem upR_upR {x y z tx ty : Nat} {s1 : PS} (D : Tri x y z) : upR (upR T tx ty x y z s) tx ty x y z s1 = upR T tx ty x y z s1 := by
  unfold upR
  rw [upT_comm _ D.dm.symm, upT_comm _ D.dr.symm, upT_upT, upT_comm _ D.rm.symm, upT_upT, upT_upT]
theorem upM_upS {s1 : PS} (N : W.Ne) : upS (upM W s s') 134 138 W.d W.r W.m s1 = upM W s1 s' := by rw [upM_S N, upM_S N, upS_upS N.triP]
theorem upM_upR {s1 : PS} (N : W.Ne) : upR (upM W s s') 85 87 W.x W.y W.z s1 = upM W s s1 := by rw [upM_R N, upM_R N, upR_upR N.triR]
theorem upS_self {d r m td tr : Nat} (D : Tri d r m) (h1 : T d = some (datas td s.ds)) (h2 : T r = some (rets tr s.rs)) (h3 : T m = some (memory s.mem)) : upS T td tr d r m s = T := by
  unfold upS
  rw [upT_eq h1, upT_eq h2, upT_eq h3]
theorem upR_self {d r m td tr : Nat} (D : Tri d r m) (h1 : T d = some (datas td s.ds)) (h2 : T r = some (rets tr s.rs)) (h3 : T m = some (refmem s.mem)) : upR T td tr d r m s = T := by
  unfold upR
  rw [upT_eq h1, upT_eq h2, upT_eq h3]
theorem upS_extU {A A' : Store} {d r m td tr : Nat} (h : Ext A A') : Ext (upS A td tr d r m s) (upS A' td tr d r m s) := ((h.up _ _).up _ _).up _ _
theorem upR_extU {A A' : Store} {d r m td tr : Nat} (h : Ext A A') : Ext (upR A td tr d r m s) (upR A' td tr d r m s) := ((h.up _ _).up _ _).up _ _
theorem does_spec9 {op : Int} (N : W.Ne) (h : Rep B w0 (upM W s s) w) (ok : PS.Ok s) (ht : s.mem.tones.length ≤ 80000) (hB : 4 ≤ B) (htab : Tabs w0)
    (K1 : ∀ w', Rep B w0 (upM W (primDo op s) (primDo op s)) w' → K (.bool true) w') : Calls P 9 #[ptr W.k 0, i64 op] w (EndsS Kp K) := by
  have hdl := ok.dl
  have hrl := ok.rl
  refine F9_calls ?_
  unfold F9
  have hk := Wd.cells h upM_k
  obtain ⟨sx, hx, hox, -, hltx, -⟩ := h.pile (upM_x N)
  have sees1 := Sees.own hox
  obtain ⟨sxa, sxc, rfl, hsxc⟩ := own_slice hox
  repeat' (with_reducible first
    | (apply S_R; first | exact R_nil _ | exact R_f39_3 _ _ | exact R_f85_0 _ _ | exact R_lenS Tryz.underlying22)
    | refine S_loadB pl35 (by first | assumption | exact heap_old (by assumption) (by assumption)) (by first | assumption | (with_unfolding_all exact rfl)) ?_
    | refine S_loadB pl22 (by first | assumption | exact heap_old (by assumption) (by assumption)) (by first | assumption | (with_unfolding_all exact rfl)) ?_)
  refine S_lit0 (sz := 1) lit22 (fun v1 w1 hN1 => ?_)
  have hk1 := (hN1.grow.block W.k (Array.getElem?_eq_some_iff.1 hk).1).trans hk
  have hx1 := (hN1.grow.block W.x (Array.getElem?_eq_some_iff.1 hx).1).trans hx
  repeat' (with_reducible first
    | (apply S_R; first | exact R_nil _ | exact R_f39_3 _ _ | exact R_f85_0 _ _ | exact R_subi (by omega) | exact R_max)
    | refine S_loadB pl35 (by first | assumption | exact heap_old (by assumption) (by assumption)) (by first | assumption | (with_unfolding_all exact rfl)) ?_
    | refine S_loadB pl22 (by first | assumption | exact heap_old (by assumption) (by assumption)) (by first | assumption | (with_unfolding_all exact rfl)) ?_)
  obtain ⟨q, hq⟩ : ∃ q, q = s.ds.length - 3 := ⟨_, rfl⟩
  rw [show (if (s.ds.length : Int) - 3 > 0 then (s.ds.length : Int) - 3 else 0) = (q : Int) by split <;> omega]
  refine S_R (R_sliceFromG Tryz.underlying22 sz41 (by omega) (by omega) hsxc) ?_
  rw [Int.toNat_natCast]
  have hs3 := (sees1.grow hN1.grow).drop (sz := 1) (l := q) (by simp) (by omega)
  refine S_appN Tryz.underlying22 in41 rfl rfl (by with_unfolding_all decide) hN1 hs3 (by show _ = (s.ds.length - q) * 1; simp) (by rw [← List.map_drop]; exact allC_one _) (by unfold maxLen; omega) (by show (0 + (s.ds.length - q)) * 2 ≤ _; omega) (fun v4 w4 hN4 _ => ?_)
  rw [List.nil_append, Nat.zero_add, Nat.mul_one, ← List.map_drop] at hN4
  obtain ⟨T4, hx4, hv4, h4⟩ := hN4.lay h
  have hself : upS T4 134 138 W.d W.r W.m s = T4 := upS_self N.triP (hx4 _ _ (upM_d N)) (hx4 _ _ (upM_r N)) (hx4 _ _ (upM_m N))
  have hg := h4.grow (Grow.drew w4)
  rw [← hself] at hg
  obtain ⟨s1, hs1⟩ : ∃ s1, s1 = primDo op s := ⟨_, rfl⟩
  obtain ⟨ok1, ht1⟩ := primDo_ok (op := op) ok
  rw [← hs1] at ok1 ht1 K1
  have hx5 : Ext (upM W s1 s) (upS T4 134 138 W.d W.r W.m s1) := by rw [← upM_upS (s := s) N]; exact upS_extU hx4
  have hkg := Wd.cells hg (by rw [hself]; exact hx4 _ _ upM_k)
  refine ⟨fun w' => w'.heap[W.k]? = some (.cells #[ptr W.d 0, ptr W.r 0, ptr W.m 0, ptr W.x 0, ptr W.y 0, ptr W.z 0] 39 (0, 0)), hkg, ?_⟩
  repeat' (with_reducible first
    | (apply Fl_R; first | exact R_nil _ | exact R_f39_0 _ _ | exact R_f39_1 _ _ | exact R_f39_2 _ _)
    | refine Fl_loadB pl32 (fun w hw => (by first | assumption | exact hw | exact hw.1 | exact hw.2 | exact hw.2.1 | exact hw.2.2)) (by first | assumption | (with_unfolding_all exact rfl)) ?_
    | refine Fl_loadB pl33 (fun w hw => (by first | assumption | exact hw | exact hw.1 | exact hw.2 | exact hw.2.1 | exact hw.2.2)) (by first | assumption | (with_unfolding_all exact rfl)) ?_
    | refine Fl_loadB pl34 (fun w hw => (by first | assumption | exact hw | exact hw.1 | exact hw.2 | exact hw.2.1 | exact hw.2.2)) (by first | assumption | (with_unfolding_all exact rfl)) ?_)
  refine S_c10 (do_spec N.triP hg hB htab ok (by omega) (fun w5 h5 => ?_))
  rw [← hs1] at h5
  refine ⟨Wd.cells h5 (hx5 _ _ upM_k), ?_⟩
  have hself5 : upR (upS T4 134 138 W.d W.r W.m s1) 85 87 W.x W.y W.z s = upS T4 134 138 W.d W.r W.m s1 := upR_self N.triR (hx5 _ _ (upM_x N)) (hx5 _ _ (upM_y N)) (hx5 _ _ (upM_z N))
  have hg5 := h5.grow (Grow.drew w5)
  have hkg5 := Wd.cells hg5 (hx5 _ _ upM_k)
  rw [← hself5] at hg5
  have hx6 : Ext (upM W s1 s1) (upR (upS T4 134 138 W.d W.r W.m s1) 85 87 W.x W.y W.z s1) := by rw [← upM_upR (s' := s) N]; exact upR_extU hx5
  refine ⟨fun w' => w'.heap[W.k]? = some (.cells #[ptr W.d 0, ptr W.r 0, ptr W.m 0, ptr W.x 0, ptr W.y 0, ptr W.z 0] 39 (0, 0)), hkg5, ?_⟩
  repeat' (with_reducible first
    | (apply Fl_R; first | exact R_nil _ | exact R_f39_3 _ _ | exact R_f39_4 _ _ | exact R_f39_5 _ _)
    | refine Fl_loadB pl35 (fun w hw => (by first | assumption | exact hw | exact hw.1 | exact hw.2 | exact hw.2.1 | exact hw.2.2)) (by first | assumption | (with_unfolding_all exact rfl)) ?_
    | refine Fl_loadB pl36 (fun w hw => (by first | assumption | exact hw | exact hw.1 | exact hw.2 | exact hw.2.1 | exact hw.2.2)) (by first | assumption | (with_unfolding_all exact rfl)) ?_
    | refine Fl_loadB pl37 (fun w hw => (by first | assumption | exact hw | exact hw.1 | exact hw.2 | exact hw.2.1 | exact hw.2.2)) (by first | assumption | (with_unfolding_all exact rfl)) ?_)
  refine S_c39 (rdo_spec N.triR hg5 ok (by omega) (fun w6 h6 => ?_))
  rw [← hs1] at h6
  refine ⟨Wd.cells h6 (hx6 _ _ upM_k), ?_⟩
  repeat' (with_reducible first
    | refine GS_t ?_
    | refine S_eql_t (by omega) ?_
    | (apply S_R; exact R_move _))
  have hv6 : OwnAt (upR (upS T4 134 138 W.d W.r W.m s1) 85 87 W.x W.y W.z s1) 41 (s.ds.length - q) ((s.ds.drop q).map u16) v4 := by
    rcases hv4 with hv4 | ⟨b, c, e1, e2, e3⟩
    · exact .inl hv4
    · refine .inr ⟨b, c, e1, e2, ?_⟩
      have hb := hN4.fresh b (by rw [e1]; rfl)
      have ld := (h.lt (upM_d N)).2
      have lr := (h.lt (upM_r N)).2
      have lm := (h.lt (upM_m N)).2
      have lx := (h.lt (upM_x N)).2
      have ly := (h.lt (upM_y N)).2
      have lz := (h.lt (upM_z N)).2
      unfold upR
      rw [upT_ne (by omega), upT_ne (by omega), upT_ne (by omega), upS_other (by omega) (by omega) (by omega)]
      exact e3
  refine S_c12 (stacks_spec N hx6 h6 ok1 (fun w7 h7 => ?_))
  repeat' (with_reducible first
    | refine GS_t ?_
    | (apply S_R; first | exact R_move _ | exact R_pick_t _ _))
  refine S_c40 (near_spec N hx6 h7 hv6 (by simp) (by omega) (fun a ha => ok.ds a (List.mem_of_mem_drop ha)) ok1.mem (by omega) (fun w8 h8 => ?_))
  repeat' (with_reducible (apply S_R; exact R_pick_t _ _))
  exact K1 w8 (h8.ext hx6)
end
end Go.Proofs.YtebmnfmiphbgdaaGreatDoor
