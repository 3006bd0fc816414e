/- The texts I0, W1, W2, W3, O2, O3, I1, I2, W4, one behind the other. -/
import Derived.Test.YtmgkeippepeggaaGreatDoorZZ4
import Derived.Lib.AtoiTie
import Derived.Shelf.Bytes.SlIndexAt
import Derived.Lib.ItoaLen
import Derived.Lib.AtoiBound
set_option linter.unusedVariables false
set_option linter.unusedSimpArgs false
/- Chapter 09: the library's readers of numbers, as contracts. -/
namespace Go.Proofs.YtmgkeippepeggaaGreatDoor
open Go Go.SL Go.Lib Go.RowKit
theorem bytesOf_self (l : List UInt8) : bytesOf (l.map fun b => (b.toNat : Int)) = l := by
  unfold bytesOf
  rw [List.map_map]
  conv => rhs; rw [← List.map_id l]
  exact List.map_congr_left fun b _ => by simp
section
open Go.Shelf
set_option maxHeartbeats 1000000 in
set_option maxRecDepth 100000 in
/-- bytes.IndexByte of no bytes, whatever room there is said to be. -/
theorem indexByte_nilc {P : Program} {ρ : Ren} (L : Lays.n187 P ρ) (c : Nat) (cv : Int) (w : World) :
    Calls P (ρ.f 187) #[.slice none 0 c, .int .u8 cv] w fun e w' => e = .returned (.int .i64 (-1)) ∧ w' = w := by
  have t3 := L.t3; have t5 := L.t5; have t37 := L.t37
  have a3 := L.a3; have a5 := L.a5; have a37 := L.a37
  have mixed := L.mixed; have z3 := L.z3; have v3 := L.v3; have z5 := L.z5; have v5 := L.v5; have z37 := L.z37; have v37 := L.v37
  go_enter L.f187, Body.n187_ntmps ρ
  go_wp2
  rw [run_callFunc_extern L.f255 (by kernel_rfl) (by kernel_rfl) (by kernel_rfl) (e := Extern.BytealgIndexByte.indexByte) (by kernel_rfl), Lib.run_indexByteNil w 0 c cv]
  simp only [Result.andThen]
  rw [Oper.upon_value]
  go_wp2
  go_ret
  exact ⟨rfl, rfl⟩
end
theorem indexByte_con (v : Value) (l : List UInt8) (e : UInt8) : Con Tryz.prog 85 [v, .int .u8 e.toNat] [Sl eByte v l] (γ := Unit) (fun _ => .int .i64 (indexByte l e)) (fun _ => True) (fun _ => []) :=
  con_pure fun w O hs => by
    obtain ⟨O1, _, _, h, _⟩ := hs
    have hcv : (((e.toNat : Nat) : Int)).toNat.toUInt8 = e := by simp
    obtain ⟨a, cap, rfl, h1, h2, h3⟩ := h
    have some_case : ∀ p : Addr, (∀ i, i < l.length → w.cell? (p.add i) = some (.int .u8 ((l.map fun b => (b.toNat : Int)).getD i 0))) → Calls Tryz.prog 85 [Value.slice (some p) l.length cap, .int .u8 e.toNat].toArray w fun r w' => r = .returned (.int .i64 (indexByte l e)) ∧ w' = w := fun p hc => by
      have := Go.Proofs.Any.bytes_IndexByte_at Tryz.lays187 p l.length cap (l.map fun b => (b.toNat : Int)) e.toNat w (by simp) hc
      rwa [bytesOf_self, hcv] at this
    rcases h3 with ⟨hn, rfl⟩ | ⟨b, off, cs, rfl, _, hr, hc⟩
    · cases a with
      | none => exact indexByte_nilc Tryz.lays187 cap e.toNat w
      | some p => exact some_case p fun i hi => absurd hi (Nat.not_lt_zero _)
    · rw [eByte_rows] at hr
      subst hr
      refine some_case ⟨b, off, none⟩ fun i hi => ?_
      rw [add_plain]
      refine hc i _ ?_
      rw [List.getElem?_map, List.getElem?_eq_getElem hi]; simp [List.getD_eq_getElem?_getD, List.getElem?_eq_getElem hi]
theorem itoa_con (n : Int) (h : -9223372036854775808 ≤ n ∧ n ≤ 9223372036854775807) : Con Tryz.prog 87 [.int .i64 n] [G3] (γ := Unit) (fun _ => .string (sB (itoa n))) (fun _ => True) (fun _ => []) :=
  con_below fun w _ hs => (Tryz.strconv_Itoa n h.1 h.2 w (tab_is Has.here hs)).mono fun e w' ⟨he, k, os, hw⟩ => ⟨⟨(), he, trivial⟩, by
    subst hw
    exact ⟨rfl, rfl, rfl, by simp [Go.Sort.grow, World.drewN], fun j hj => by
      simp only [Go.Sort.grow, World.drewN]
      rw [Array.getElem?_append_left hj]⟩⟩
/-- What the variable of syntax errors holds. -/
abbrev G1 (te : TypeId) (pe : Value) : A := BlkR 1 129 [.iface te pe]
theorem below_bytes (w : World) (e : TypeId) (t : ByteArray) : Below w.heap.size w (bytesWorld w e t) := by
  have h1 : Below w.heap.size w (w.drew.alloc (.cells (bytesCells w e t) e)) := ((Below.refl _ _).drew).alloc (Nat.le_refl _) _
  unfold bytesWorld World.freeze
  split
  · exact h1
  · exact h1.trans ⟨rfl, rfl, rfl, by simp, fun k hk => by
      show (Array.modify _ _ _)[k]? = _
      rw [Array.getElem?_modify, if_neg (show ¬ (w.heap.size = k) from by omega)]⟩
theorem atoi_con (s : List UInt8) (te : TypeId) (pe : Value) (hs : s.length ≤ 18) : Con Tryz.prog 86 [.string (sB s)] [G1 te pe] (γ := Int × Value) (fun g => .tuple #[.int .i64 g.1, g.2]) (fun g => (atoi s = some g.1 ∧ g.2 = .nilIface) ∨ (atoi s = none ∧ ∃ tp p, g.2 = .iface tp p)) (fun _ => []) :=
  con_below fun w _ hst => by
    have hsz := sB_size s
    have hl := sB_list s
    cases ha : atoi s with
    | some n =>
      exact (Tryz.strconv_Atoi (sB s) n (by omega) (by rw [hl]; exact ha) w).mono fun e w' ⟨he, t, hw⟩ => ⟨⟨(n, .nilIface), he, .inl ⟨rfl, rfl⟩⟩, by subst hw; exact below_bytes w 5 t⟩
    | none =>
      have hc : w.cell? ⟨1, 0, none⟩ = some (.iface te pe) := has_cell (T := 129) (cs := [.iface te pe]) (off := 0) Has.here rfl hst
      exact (Tryz.strconv_Atoi_syntax (sB s) (by omega) (by rw [hl, atoiAll_short s hs, ha]; rfl) (.iface te pe) w hc (.inr ⟨te, pe, rfl⟩)).mono fun e w' ⟨N, he, _, _, hb⟩ => ⟨⟨(0, .iface 158 (.pointer (some ⟨N, 0, none⟩))), he, .inr ⟨rfl, _, _, rfl⟩⟩, hb⟩
end Go.Proofs.YtmgkeippepeggaaGreatDoor
/- Chapter 09: the document's numerals, numbers, flags and texts. -/
namespace Go.Proofs.YtmgkeippepeggaaGreatDoor
open Go Go.SL Go.Lib
theorem nDig_le (u : Nat) : nDigits u ≤ u + 1 := by
  induction u using Nat.strongRecOn with
  | _ u ih =>
    by_cases h : u < 10
    · rw [nDigits_small h]; omega
    · rw [nDigits_big h]
      have := ih (u / 10) (by omega)
      omega
theorem itoa_le (n : Int) : (itoa n).length ≤ n.natAbs + 2 := by
  unfold itoa
  split
  · rw [List.length_cons, decDigits_length]
    have := nDig_le n.natAbs
    omega
  · rw [decDigits_length]
    have := nDig_le n.toNat
    omega
attribute [local irreducible] Cfg Kont StepK Val Con Qops Any Sl Own Blk BlkR Rd Pu ExA AllA Has Pick Ent Elem Beside Callable TI Lone OwnO AndA
set_option maxRecDepth 100000 in
theorem digits_con : ∀ (k : Nat) (n : Int), (if n < 0 then n.natAbs + 1 else n.natAbs) < k → -1152921504606846976 ≤ n → n ≤ 1152921504606846976 →
    Con Tryz.prog 84 [.int .i64 n] [] (γ := Unit) (fun _ => .string (sB (itoa n))) (fun _ => True) (fun _ => []) := by
  intro k
  induction k with
  | zero => intro n h; exact absurd h (Nat.not_lt_zero _)
  | succ k IH0 =>
    intro n hk h1 h2
    refine con_of Tryz.func84 rfl (dd rfl) fun w0 O0 => ?_
    refine c_seq ?_
    refine c_region ?_
    refine o_val (v_assign rfl) (dd rfl) ?_
    refine o_nil ?_
    refine c_seq ?_
    refine c_seq ?_
    refine c_region ?_
    refine o_val (v_move rfl) (dd rfl) ?_
    refine o_val (v_lt rfl rfl) (dd rfl) ?_
    refine o_nil ?_
    refine c_cond_p rfl (fun hn => ?_) (fun hn => ?_)
    · have hl := itoa_le (0 - n)
      have hz := sB_size (itoa (0 - n))
      have h45 : (⟨#[45]⟩ : ByteArray).size = 1 := rfl
      refine c_seq ?_
      refine c_region ?_
      refine o_val (v_move rfl) (dd rfl) ?_
      refine o_val ((by first | exact v_sub64 rfl rfl (by omega) | exact v_sub rfl rfl)) (dd rfl) ?_
      refine o_step (s_callf cl84 (IH0 (0 - n) (by rw [if_neg (by omega)]; rw [if_pos hn] at hk; omega) (by omega) (by omega)) rfl (dd rfl) (pXs (by repeat constructor)) fun _ _ => ?_)
      refine o_val (v_cat rfl rfl (by first | omega | (simp only [ByteArray.size_append]; omega))) (dd rfl) ?_
      refine o_val (v_assign rfl) (dd rfl) ?_
      refine o_nil ?_
      refine c_ret1 Tryz.func84 rfl rfl fun w O hS => ?_
      exact ⟨(), by rw [itoa_neg hn, show (45 :: itoa (0 - n)) = [45] ++ itoa (0 - n) from rfl, ← sB_app]; rfl, trivial, trivial⟩
    · rw [if_neg hn] at hk
      refine c_skip ?_
      refine c_seq ?_
      refine c_seq ?_
      refine c_region ?_
      refine o_val (v_move rfl) (dd rfl) ?_
      refine o_val (v_gt rfl rfl) (dd rfl) ?_
      refine o_nil ?_
      refine c_cond_p rfl (fun hg => ?_) (fun hg => ?_)
      · have hq : IntKind.i64.wrap (n.tdiv 10) = n / 10 := by
          rw [Int.tdiv_eq_ediv_of_nonneg (by omega), IntKind.wrap_i64]; omega
        have hm : n.tmod 10 = n % 10 := Int.tmod_eq_emod_of_nonneg (by omega)
        have hl1 := itoa_le (n / 10)
        have hl2 := itoa_le (n % 10)
        have hz1 := sB_size (itoa (n / 10))
        have hz2 := sB_size (itoa (n % 10))
        refine c_seq ?_
        refine c_region ?_
        refine o_val (v_move rfl) (dd rfl) ?_
        refine o_val (v_quo rfl rfl (by omega)) (dd rfl) ?_
        rw [hq]
        refine o_step (s_callf cl84 (IH0 (n / 10) (by rw [if_neg (by omega)]; omega) (by omega) (by omega)) rfl (dd rfl) (pXs (by repeat constructor)) fun _ _ => ?_)
        refine o_val (v_move rfl) (dd rfl) ?_
        refine o_val (v_rem rfl rfl (by omega)) (dd rfl) ?_
        rw [hm]
        refine o_step (s_callf cl84 (IH0 (n % 10) (by rw [if_neg (by omega)]; omega) (by omega) (by omega)) rfl (dd rfl) (pXs (by repeat constructor)) fun _ _ => ?_)
        refine o_val (v_cat rfl rfl (by first | omega | (simp only [ByteArray.size_append]; omega))) (dd rfl) ?_
        refine o_val (v_assign rfl) (dd rfl) ?_
        refine o_nil ?_
        refine c_ret1 Tryz.func84 rfl rfl fun w O hS => ?_
        exact ⟨(), by rw [itoa_more hg, ← sB_app], trivial, trivial⟩
      · have hb : IntKind.u8.wrap (48 + n) = ((UInt8.ofNat (48 + n.toNat)).toNat : Int) := by
          rw [ofNat_dig (by omega), IntKind.wrap_u8]; omega
        refine c_skip ?_
        refine c_seq ?_
        refine c_region ?_
        refine o_val (v_move rfl) (dd rfl) ?_
        refine o_val ((by first | exact v_add64 rfl rfl (by omega) | exact v_add rfl rfl)) (dd rfl) ?_
        refine o_val (v_conv_int Tryz.underlying3 Tryz.underlying5 rfl) (dd rfl) ?_
        rw [hb]
        refine o_step (s_buildSlice Tryz.underlying25 ti5 rfl rfl rfl (by decide) (by decide) (beside_byte [UInt8.ofNat (48 + n.toNat)]) rfl rfl (dd rfl) fun v1 => ?_)
        refine o_val (v_conv_bytes Tryz.underlying25 Tryz.underlying5 Tryz.underlying9 rfl (hX (by repeat constructor))) (dd rfl) ?_
        refine o_val (v_assign rfl) (dd rfl) ?_
        refine o_nil ?_
        refine c_ret1 Tryz.func84 rfl rfl fun w O hS => ?_
        exact ⟨(), by rw [itoa_one (by omega) (by omega)]; rfl, trivial, trivial⟩
theorem numB_eq {n c : Int} (h : clamp9 n = c) : sB (itoa c) ++ ⟨#[59]⟩ = sB (numB n) := by
  unfold numB
  rw [h, ← sB_app]; rfl
set_option maxRecDepth 100000 in
theorem numRef_con (n : Int) : Con Tryz.prog 43 [.int .i64 n] [] (γ := Unit) (fun _ => .string (sB (numB n))) (fun _ => True) (fun _ => []) := by
  refine con_of Tryz.func43 rfl (dd rfl) fun w0 O0 => ?_
  refine c_seq ?_
  refine c_region ?_
  refine o_val (v_assign rfl) (dd rfl) ?_
  refine o_nil ?_
  refine c_seq ?_
  refine c_seq ?_
  refine c_region ?_
  refine o_val (v_move rfl) (dd rfl) ?_
  refine o_val (v_gt rfl rfl) (dd rfl) ?_
  refine o_nil ?_
  refine c_cond_p rfl (fun h1 => ?_) (fun h1 => ?_)
  · refine c_region ?_
    refine o_val (v_assign rfl) (dd rfl) ?_
    refine o_nil ?_
    refine c_seq ?_
    refine c_seq ?_
    refine c_region ?_
    refine o_val (v_move rfl) (dd rfl) ?_
    refine o_val (v_lt rfl rfl) (dd rfl) ?_
    refine o_nil ?_
    refine c_cond_f rfl ?_
    refine c_skip ?_
    refine c_seq ?_
    refine c_region ?_
    refine o_val (v_move rfl) (dd rfl) ?_
    have hl := itoa_le (1099511627776 : Int)
    have hz := sB_size (itoa (1099511627776 : Int))
    have h59 : (⟨#[59]⟩ : ByteArray).size = 1 := rfl
    refine o_step (s_callf cl84 (digits_con (((1099511627776 : Int)).natAbs + 2) (1099511627776 : Int) (by split <;> omega) (by omega) (by omega)) rfl (dd rfl) (pXs (by repeat constructor)) fun _ _ => ?_)
    refine o_val (v_cat rfl rfl (by first | omega | (simp only [ByteArray.size_append]; omega))) (dd rfl) ?_
    refine o_val (v_assign rfl) (dd rfl) ?_
    refine o_nil ?_
    refine c_ret1 Tryz.func43 rfl rfl fun w O hS => ?_
    exact ⟨(), congrArg Value.string (numB_eq (by unfold clamp9 far9; omega)), trivial, trivial⟩
  · refine c_skip ?_
    refine c_seq ?_
    refine c_seq ?_
    refine c_region ?_
    refine o_val (v_move rfl) (dd rfl) ?_
    refine o_val (v_lt rfl rfl) (dd rfl) ?_
    refine o_nil ?_
    refine c_cond_p rfl (fun h2 => ?_) (fun h2 => ?_)
    · refine c_region ?_
      refine o_val (v_assign rfl) (dd rfl) ?_
      refine o_nil ?_
      refine c_seq ?_
      refine c_region ?_
      refine o_val (v_move rfl) (dd rfl) ?_
      have hl := itoa_le (-1099511627776 : Int)
      have hz := sB_size (itoa (-1099511627776 : Int))
      have h59 : (⟨#[59]⟩ : ByteArray).size = 1 := rfl
      refine o_step (s_callf cl84 (digits_con (((-1099511627776 : Int)).natAbs + 2) (-1099511627776 : Int) (by split <;> omega) (by omega) (by omega)) rfl (dd rfl) (pXs (by repeat constructor)) fun _ _ => ?_)
      refine o_val (v_cat rfl rfl (by first | omega | (simp only [ByteArray.size_append]; omega))) (dd rfl) ?_
      refine o_val (v_assign rfl) (dd rfl) ?_
      refine o_nil ?_
      refine c_ret1 Tryz.func43 rfl rfl fun w O hS => ?_
      exact ⟨(), congrArg Value.string (numB_eq (by unfold clamp9 far9; omega)), trivial, trivial⟩
    · refine c_skip ?_
      refine c_seq ?_
      refine c_region ?_
      refine o_val (v_move rfl) (dd rfl) ?_
      have hl := itoa_le n
      have hz := sB_size (itoa n)
      have h59 : (⟨#[59]⟩ : ByteArray).size = 1 := rfl
      refine o_step (s_callf cl84 (digits_con ((n).natAbs + 2) n (by split <;> omega) (by omega) (by omega)) rfl (dd rfl) (pXs (by repeat constructor)) fun _ _ => ?_)
      refine o_val (v_cat rfl rfl (by first | omega | (simp only [ByteArray.size_append]; omega))) (dd rfl) ?_
      refine o_val (v_assign rfl) (dd rfl) ?_
      refine o_nil ?_
      refine c_ret1 Tryz.func43 rfl rfl fun w O hS => ?_
      exact ⟨(), congrArg Value.string (numB_eq (by unfold clamp9 far9; omega)), trivial, trivial⟩
set_option maxRecDepth 100000 in
theorem flagRef_con (b : Bool) : Con Tryz.prog 44 [.bool b] [] (γ := Unit) (fun _ => .string (sB (flagB b))) (fun _ => True) (fun _ => []) := by
  rw [flag_eq]
  refine con_of Tryz.func44 rfl (dd rfl) fun w0 O0 => ?_
  refine c_seq ?_
  refine c_region ?_
  refine o_val (v_assign rfl) (dd rfl) ?_
  refine o_nil ?_
  refine c_seq ?_
  refine c_seq ?_
  refine c_region ?_
  refine o_val (v_move rfl) (dd rfl) ?_
  refine o_nil ?_
  refine c_cond rfl (fun h => ?_) (fun h => ?_)
  · subst h
    refine c_seq ?_
    refine c_region ?_
    refine o_val (v_assign rfl) (dd rfl) ?_
    refine o_nil ?_
    refine c_ret1 Tryz.func44 rfl rfl fun w O hS => ?_
    exact ⟨(), rfl, trivial, trivial⟩
  · subst h
    refine c_skip ?_
    refine c_seq ?_
    refine c_region ?_
    refine o_val (v_assign rfl) (dd rfl) ?_
    refine o_nil ?_
    refine c_ret1 Tryz.func44 rfl rfl fun w O hS => ?_
    exact ⟨(), rfl, trivial, trivial⟩
set_option maxRecDepth 100000 in
theorem textRef_con (s : ByteArray) (hs : s.size ≤ 140737488351232) : Con Tryz.prog 45 [.string s] [] (γ := Unit) (fun _ => .string (sB (textB s))) (fun _ => True) (fun _ => []) := by
  have hl := itoa_le s.size
  have hz := sB_size (itoa s.size)
  have h58 : (⟨#[58]⟩ : ByteArray).size = 1 := rfl
  have h44 : (⟨#[44]⟩ : ByteArray).size = 1 := rfl
  have h1 : (sB (itoa s.size) ++ ⟨#[58]⟩).size = (sB (itoa s.size)).size + 1 := ByteArray.size_append
  have h2 : (sB (itoa s.size) ++ ⟨#[58]⟩ ++ s).size = (sB (itoa s.size) ++ ⟨#[58]⟩).size + s.size := ByteArray.size_append
  refine con_of Tryz.func45 rfl (dd rfl) fun w0 O0 => ?_
  refine c_seq ?_
  refine c_region ?_
  refine o_val (v_assign rfl) (dd rfl) ?_
  refine o_nil ?_
  refine c_seq ?_
  refine c_region ?_
  refine o_val (v_move rfl) (dd rfl) ?_
  refine o_val (v_len_str Tryz.underlying9 rfl) (dd rfl) ?_
  refine o_step (s_callf cl84 (digits_con (s.size + 2) s.size (by split <;> omega) (by omega) (by omega)) rfl (dd rfl) (pXs (by repeat constructor)) fun _ _ => ?_)
  refine o_val (v_cat rfl rfl (by first | omega | (simp only [ByteArray.size_append]; omega))) (dd rfl) ?_
  refine o_val (v_move rfl) (dd rfl) ?_
  refine o_val (v_cat rfl rfl (by first | omega | (simp only [ByteArray.size_append]; omega))) (dd rfl) ?_
  refine o_val (v_cat rfl rfl (by first | omega | (simp only [ByteArray.size_append]; omega))) (dd rfl) ?_
  refine o_val (v_assign rfl) (dd rfl) ?_
  refine o_nil ?_
  refine c_ret1 Tryz.func45 rfl rfl fun w O hS => ?_
  exact ⟨(), congrArg Value.string (sB_text s).symm, trivial, trivial⟩
end Go.Proofs.YtmgkeippepeggaaGreatDoor
/- Chapter 09: the document's bytes of texts, changes and patches. -/
namespace Go.Proofs.YtmgkeippepeggaaGreatDoor
open Go Go.SL Go.Lib
abbrev ePr : Enc Pr9 := ePair (eInt .i64) (ePair eStr (ePair eStr (ePair (eInt .i64) (ePair (eSl eStr) (eSl eStr)))))
abbrev ePt : Enc Pt9 := ePair (eInt .i64) (ePair eStr (ePair (eSl (eInt .i64)) (eSl ePr)))
/-- Sizes of what is written: far below what wraps. -/
def TextsFit (l : List ByteArray) : Prop := l.length ≤ 1000000 ∧ ∀ x ∈ l, x.size ≤ 1000000
theorem textB_len (s : ByteArray) : (textB s).length ≤ 2 * s.size + 4 := by
  unfold textB
  simp only [List.length_append, List.length_cons, List.length_nil, ba_len]
  have := itoa_le s.size
  omega
theorem flat_le {α : Type} {put : α → List UInt8} {m : Nat} : ∀ {l : List α}, (∀ x ∈ l, (put x).length ≤ m) → ((l.map put).flatten).length ≤ l.length * m
  | [], _ => by simp
  | x :: l, h => by
    have h1 := h x (by simp)
    have h2 := flat_le (put := put) (m := m) (l := l) fun y hy => h y (List.mem_cons_of_mem _ hy)
    rw [List.map_cons, List.flatten_cons, List.length_append, List.length_cons, Nat.add_mul, Nat.one_mul]
    omega
theorem numB_len (n : Int) : (numB n).length ≤ 15 := by
  unfold numB
  rw [List.length_append]
  have := itoa_len (clamp_far n)
  simp; omega
attribute [local irreducible] Cfg Kont StepK Val Con Qops Any Sl Own Blk BlkR Rd Pu ExA AllA Has Pick Ent Elem Beside Callable TI Lone OwnO AndA
set_option maxRecDepth 100000 in
theorem textsRef_con (v : Value) (l : List ByteArray) (hl : TextsFit l) : Con Tryz.prog 46 [v] [Sl eStr v l] (γ := Unit) (fun _ => .string (sB (textsB l))) (fun _ => True) (fun _ => []) := by
  obtain ⟨hl1, hl2⟩ := hl
  refine con_of Tryz.func46 rfl (dd rfl) fun w0 O0 => ?_
  refine c_seq ?_
  refine c_region ?_
  refine o_val (v_assign rfl) (dd rfl) ?_
  refine o_nil ?_
  refine c_seq ?_
  refine c_region ?_
  refine o_val (v_move rfl) (dd rfl) ?_
  refine o_val ((by first | exact v_len_form Tryz.underlying28 rfl | exact v_len_sl Tryz.underlying28 rfl (hX (by repeat constructor)))) (dd rfl) ?_
  refine o_step (s_callf_keep cl43 (numRef_con (l.length : Int)) rfl (dd rfl) (rX (by repeat constructor)) (fun _ => sX) (fun _ _ => ?_))
  refine o_val (v_assign rfl) (dd rfl) ?_
  refine o_nil ?_
  refine c_seq ?_
  refine c_seq ?_
  refine c_region ?_
  refine o_val (v_assign rfl) (dd rfl) ?_
  refine o_nil ?_
  refine c_block ?_
  rw [show sB (numB l.length) = sB (numB l.length ++ ((l.take 0).map textB).flatten) by simp]
  refine c_loopR (γ := Nat) [(0, _), (2, _)] (fun k => l.length - k) (fun k => k ≤ l.length) (fun k => [(4, .int .i64 k), (3, .string (sB (numB l.length ++ ((l.take k).map textB).flatten)))]) (fun _ => [Sl eStr v l]) (0) (Nat.zero_le _) (by repeat (first | exact trivial | refine ⟨rfl, ?_⟩)) (eX (by repeat constructor)) ?_
  rintro k hk IH
  try dsimp only [List.cons_append, List.nil_append]
  refine c_seq ?_
  refine c_seq ?_
  refine c_region ?_
  refine o_val (v_move rfl) (dd rfl) ?_
  refine o_val (v_move rfl) (dd rfl) ?_
  refine o_val ((by first | exact v_len_form Tryz.underlying28 rfl | exact v_len_sl Tryz.underlying28 rfl (hX (by repeat constructor)))) (dd rfl) ?_
  refine o_val (v_lt rfl rfl) (dd rfl) ?_
  refine o_nil ?_
  refine c_cond_p rfl (fun hlt => ?_) (fun hlt => ?_)
  · have hk' : k < l.length := by omega
    have ht := textB_len (l[k]'hk')
    have hz1 := sB_size (numB l.length ++ ((l.take k).map textB).flatten)
    have hz2 := sB_size (textB (l[k]'hk'))
    have hn := numB_len l.length
    have hfl := flat_le (put := textB) (m := 2000004) (l := l.take k) fun x hx => by
      have := textB_len x
      have := hl2 x (List.mem_of_mem_take hx)
      omega
    have hkl : (l.take k).length ≤ 1000000 := by rw [List.length_take]; omega
    have hm : (l.take k).length * 2000004 ≤ 1000000 * 2000004 := Nat.mul_le_mul_right _ hkl
    rw [List.length_append] at hz1
    have hs := hl2 _ (List.getElem_mem hk')
    refine c_skip ?_
    refine c_seq ?_
    refine c_block ?_
    refine c_region ?_
    refine o_val (v_move rfl) (dd rfl) ?_
    refine o_val (v_move rfl) (dd rfl) ?_
    refine o_val (v_move rfl) (dd rfl) ?_
    refine o_val ((by first | exact v_indexAddrN Tryz.underlying28 ti9 rfl rfl (hX (by repeat constructor)) (by omega) | exact v_indexAddr Tryz.underlying28 ti9 rfl rfl (hX (by repeat constructor)) (by omega))) (dd rfl) ?_
    refine o_val (v_load_str lone9 rfl (by repeat (first | exact Elem.sl (List.getElem?_eq_getElem (by omega)) | exact Elem.own (List.getElem?_eq_getElem (by omega)) | exact Elem.ownO (List.getElem?_eq_getElem (by omega)) | apply Elem.there))) (dd rfl) ?_
    refine o_step (s_callf_keep cl45 (textRef_con (l[k]'hk') (by omega)) rfl (dd rfl) (rX (by repeat constructor)) (fun _ => sX) (fun _ _ => ?_))
    refine o_val (v_cat rfl rfl (by first | omega | (simp only [ByteArray.size_append]; omega))) (dd rfl) ?_
    refine o_val (v_assign rfl) (dd rfl) ?_
    refine o_nil ?_
    refine c_inBlock ?_
    refine c_region ?_
    refine o_val (v_move rfl) (dd rfl) ?_
    refine o_val ((by first | exact v_add64 rfl rfl (by omega) | exact v_add rfl rfl)) (dd rfl) ?_
    refine o_val (v_assign rfl) (dd rfl) ?_
    refine o_nil ?_
    rw [sB_app, List.append_assoc, ← flat_next textB hk']
    refine c_use (IH (k + 1) (by first | omega | (dsimp only; omega)) (by omega)) (by repeat (first | exact trivial | refine ⟨rfl, ?_⟩)) (eX (by repeat constructor))
  · have hke : k = l.length := by omega
    refine c_exit rfl ?_
    refine c_seq ?_
    refine c_region ?_
    refine o_val (v_move rfl) (dd rfl) ?_
    refine o_val (v_assign rfl) (dd rfl) ?_
    refine o_nil ?_
    refine c_ret1 Tryz.func46 rfl rfl fun w O hS => ?_
    exact ⟨(), by rw [hke, List.take_length]; rfl, trivial, trivial⟩
/-- Sizes of a change. -/
def PrFit (p : Pr9) : Prop := p.2.1.size ≤ 1000000 ∧ p.2.2.1.size ≤ 1000000 ∧ TextsFit p.2.2.2.2.1 ∧ TextsFit p.2.2.2.2.2
theorem textsB_len {l : List ByteArray} (h : TextsFit l) : (textsB l).length ≤ 2000004000015 := by
  have hfl := flat_le (put := textB) (m := 2000004) (l := l) fun x hx => by
    have := textB_len x
    have := h.2 x hx
    omega
  have hm : l.length * 2000004 ≤ 1000000 * 2000004 := Nat.mul_le_mul_right _ h.1
  have hn := numB_len l.length
  unfold textsB manyB
  rw [List.length_append]
  omega
set_option maxRecDepth 100000 in
theorem primRef_con (p : Pr9) (ov wv : Value) (hp : PrFit p) : Con Tryz.prog 47 [.agg #[.int .i64 p.1, .string p.2.1, .string p.2.2.1, .int .i64 p.2.2.2.1, ov, wv]] [Sl eStr ov p.2.2.2.2.1, Sl eStr wv p.2.2.2.2.2] (γ := Unit) (fun _ => .string (sB (primB p))) (fun _ => True) (fun _ => []) := by
  obtain ⟨hn, ht, ho, hw⟩ := hp
  have s1 := sB_size (numB p.1)
  have s2 := sB_size (textB p.2.1)
  have s3 := sB_size (textB p.2.2.1)
  have s4 := sB_size (numB p.2.2.2.1)
  have s5 := sB_size (textsB p.2.2.2.2.1)
  have s6 := sB_size (textsB p.2.2.2.2.2)
  have l1 := numB_len p.1
  have l2 := textB_len p.2.1
  have l3 := textB_len p.2.2.1
  have l4 := numB_len p.2.2.2.1
  have l5 := textsB_len ho
  have l6 := textsB_len hw
  refine con_of Tryz.func47 rfl (dd rfl) fun w0 O0 => ?_
  refine c_seq ?_
  refine c_region ?_
  refine o_step (s_box rfl (dd rfl) (fun b1 => ?_))
  refine o_val (v_assign rfl) (dd rfl) ?_
  refine o_nil ?_
  refine c_seq ?_
  refine c_held [BlkR b1 30 [.int .i64 p.1, .string p.2.1, .string p.2.2.1, .int .i64 p.2.2.2.1, ov, wv]] rfl ?_
  refine a_take 0 rfl (by kernel_rfl) (by kernel_rfl) (by kernel_rfl) (v_fieldAddrC 0 Tryz.underlying30 rfl ti3 (by decide) rfl) (eX (by repeat constructor)) (dd rfl) ?_
  refine a_take 1 rfl (by kernel_rfl) (by kernel_rfl) (by kernel_rfl) (v_load lone3 rfl (hX (by repeat constructor)) rfl) (eX (by repeat constructor)) (dd rfl) ?_
  refine a_take 3 rfl (by kernel_rfl) (by kernel_rfl) (by kernel_rfl) (v_fieldAddrC 1 Tryz.underlying30 rfl ti9 (by decide) rfl) (eX (by repeat constructor)) (dd rfl) ?_
  refine a_take 4 rfl (by kernel_rfl) (by kernel_rfl) (by kernel_rfl) (v_load lone9 rfl (hX (by repeat constructor)) rfl) (eX (by repeat constructor)) (dd rfl) ?_
  refine a_take 7 rfl (by kernel_rfl) (by kernel_rfl) (by kernel_rfl) (v_fieldAddrC 2 Tryz.underlying30 rfl ti9 (by decide) rfl) (eX (by repeat constructor)) (dd rfl) ?_
  refine a_take 8 rfl (by kernel_rfl) (by kernel_rfl) (by kernel_rfl) (v_load lone9 rfl (hX (by repeat constructor)) rfl) (eX (by repeat constructor)) (dd rfl) ?_
  refine a_take 11 rfl (by kernel_rfl) (by kernel_rfl) (by kernel_rfl) (v_fieldAddrC 3 Tryz.underlying30 rfl ti3 (by decide) rfl) (eX (by repeat constructor)) (dd rfl) ?_
  refine a_take 12 rfl (by kernel_rfl) (by kernel_rfl) (by kernel_rfl) (v_load lone3 rfl (hX (by repeat constructor)) rfl) (eX (by repeat constructor)) (dd rfl) ?_
  refine a_take 15 rfl (by kernel_rfl) (by kernel_rfl) (by kernel_rfl) (v_fieldAddrC 4 Tryz.underlying30 rfl ti28 (by decide) rfl) (eX (by repeat constructor)) (dd rfl) ?_
  refine a_take 16 rfl (by kernel_rfl) (by kernel_rfl) (by kernel_rfl) (v_load lone28 rfl (hX (by repeat constructor)) rfl) (eX (by repeat constructor)) (dd rfl) ?_
  refine a_take 19 rfl (by kernel_rfl) (by kernel_rfl) (by kernel_rfl) (v_fieldAddrC 5 Tryz.underlying30 rfl ti28 (by decide) rfl) (eX (by repeat constructor)) (dd rfl) ?_
  refine a_take 20 rfl (by kernel_rfl) (by kernel_rfl) (by kernel_rfl) (v_load lone28 rfl (hX (by repeat constructor)) rfl) (eX (by repeat constructor)) (dd rfl) ?_
  refine a_one 2 rfl (by kernel_rfl) (s_callf_keep cl43 (numRef_con p.1) rfl (dd rfl) (rX (by repeat constructor)) (fun _ => sX) (fun _ _ => a_on (eX (by repeat constructor)) ?_))
  refine a_one 5 rfl (by kernel_rfl) (s_callf_keep cl45 (textRef_con p.2.1 (by omega)) rfl (dd rfl) (rX (by repeat constructor)) (fun _ => sX) (fun _ _ => a_on (eX (by repeat constructor)) ?_))
  refine a_take 6 rfl (by kernel_rfl) (by kernel_rfl) (by kernel_rfl) (v_cat rfl rfl (by first | omega | (simp only [ByteArray.size_append]; omega))) (eX (by repeat constructor)) (dd rfl) ?_
  refine a_one 9 rfl (by kernel_rfl) (s_callf_keep cl45 (textRef_con p.2.2.1 (by omega)) rfl (dd rfl) (rX (by repeat constructor)) (fun _ => sX) (fun _ _ => a_on (eX (by repeat constructor)) ?_))
  refine a_take 10 rfl (by kernel_rfl) (by kernel_rfl) (by kernel_rfl) (v_cat rfl rfl (by first | omega | (simp only [ByteArray.size_append]; omega))) (eX (by repeat constructor)) (dd rfl) ?_
  refine a_one 13 rfl (by kernel_rfl) (s_callf_keep cl43 (numRef_con p.2.2.2.1) rfl (dd rfl) (rX (by repeat constructor)) (fun _ => sX) (fun _ _ => a_on (eX (by repeat constructor)) ?_))
  refine a_take 14 rfl (by kernel_rfl) (by kernel_rfl) (by kernel_rfl) (v_cat rfl rfl (by first | omega | (simp only [ByteArray.size_append]; omega))) (eX (by repeat constructor)) (dd rfl) ?_
  refine a_one 17 rfl (by kernel_rfl) (s_callf cl46 (textsRef_con ov p.2.2.2.2.1 ho) rfl (dd rfl) (pXs (by repeat constructor)) (fun _ _ => a_on (eX (by repeat constructor)) ?_))
  refine a_take 18 rfl (by kernel_rfl) (by kernel_rfl) (by kernel_rfl) (v_cat rfl rfl (by first | omega | (simp only [ByteArray.size_append]; omega))) (eX (by repeat constructor)) (dd rfl) ?_
  refine a_one 21 rfl (by kernel_rfl) (s_callf cl46 (textsRef_con wv p.2.2.2.2.2 hw) rfl (dd rfl) (pXs (by repeat constructor)) (fun _ _ => a_on (eX (by repeat constructor)) ?_))
  refine a_take 22 rfl (by kernel_rfl) (by kernel_rfl) (by kernel_rfl) (v_cat rfl rfl (by first | omega | (simp only [ByteArray.size_append]; omega))) (eX (by repeat constructor)) (dd rfl) ?_
  refine a_take 23 rfl (by kernel_rfl) (by kernel_rfl) (by kernel_rfl) (v_assign rfl) (eX (by repeat constructor)) (dd rfl) ?_
  refine a_done (by kernel_rfl) ?_ _
  refine c_ret1 Tryz.func47 rfl rfl fun w O hS => ?_
  exact ⟨(), by unfold primB; rw [← sB_app, ← sB_app, ← sB_app, ← sB_app, ← sB_app], trivial, trivial⟩
end Go.Proofs.YtmgkeippepeggaaGreatDoor
/- Chapter 09: the document's bytes of rows of changes, and of patches. -/
namespace Go.Proofs.YtmgkeippepeggaaGreatDoor
open Go Go.SL Go.Lib
def PrsFit (l : List Pr9) : Prop := l.length ≤ 100000 ∧ ∀ p ∈ l, PrFit p
theorem primB_len {p : Pr9} (hp : PrFit p) : (primB p).length ≤ 4000020000000 := by
  obtain ⟨hn, ht, ho, hw⟩ := hp
  have l1 := numB_len p.1
  have l2 := textB_len p.2.1
  have l3 := textB_len p.2.2.1
  have l4 := numB_len p.2.2.2.1
  have l5 := textsB_len ho
  have l6 := textsB_len hw
  unfold primB
  simp only [List.length_append]
  omega
/-- A change, told apart: its lines' slices. -/
theorem pr_open {z : Pr9} (w : World) (O : Perm) (c : List Value) (h : ePr.rd w O c z) : ∃ g : Value × Value, c = [.int .i64 z.1, .string z.2.1, .string z.2.2.1, .int .i64 z.2.2.2.1, g.1, g.2] ∧ Stars [Sl eStr g.1 z.2.2.2.2.1, Sl eStr g.2 z.2.2.2.2.2] w O := by
  obtain ⟨c1, d1, rfl, h1, c2, d2, rfl, h2, c3, d3, rfl, h3, c4, d4, rfl, h4, c5, c6, rfl, ⟨u, rfl, h5⟩, v, rfl, h6⟩ := h
  have e1 : c1 = [.int .i64 z.1] := h1
  have e2 : c2 = [.string z.2.1] := h2
  have e3 : c3 = [.string z.2.2.1] := h3
  have e4 : c4 = [.int .i64 z.2.2.2.1] := h4
  subst e1; subst e2; subst e3; subst e4
  have hm : ∀ b, min (O b) 1 ≤ O b := fun b => Nat.min_le_left _ _
  have hm1 : ∀ b, min (O b) 1 ≤ 1 := fun b => Nat.min_le_right _ _
  exact ⟨(u, v), rfl, fun b => min (O b) 1, fun b => min (O b) 1, ⟨hm, hm, fun b k => absurd (Nat.le_trans k (hm1 b)) (by decide), fun b k => absurd (Nat.le_trans k (hm1 b)) (by decide)⟩, SlP.dup h5,
    fun b => min (O b) 1, fun _ => 0, ⟨fun _ => Nat.le_refl _, fun _ => Nat.zero_le _, fun _ _ => rfl, fun _ h => by omega⟩, SlP.dup h6, trivial⟩
attribute [local irreducible] Cfg Kont StepK Val Con Qops Any Sl Own Blk BlkR Rd Pu ExA AllA Has Pick Ent Elem Beside Callable TI Lone OwnO AndA
set_option maxRecDepth 100000 in
theorem primsRef_con (v : Value) (l : List Pr9) (hl : PrsFit l) : Con Tryz.prog 49 [v] [Sl ePr v l] (γ := Unit) (fun _ => .string (sB (primsB l))) (fun _ => True) (fun _ => []) := by
  obtain ⟨hl1, hl2⟩ := hl
  refine con_of Tryz.func49 rfl (dd rfl) fun w0 O0 => ?_
  refine c_seq ?_
  refine c_region ?_
  refine o_val (v_assign rfl) (dd rfl) ?_
  refine o_nil ?_
  refine c_seq ?_
  refine c_region ?_
  refine o_val (v_move rfl) (dd rfl) ?_
  refine o_val ((by first | exact v_len_form Tryz.underlying31 rfl | exact v_len_sl Tryz.underlying31 rfl (hX (by repeat constructor)))) (dd rfl) ?_
  refine o_step (s_callf_keep cl43 (numRef_con (l.length : Int)) rfl (dd rfl) (rX (by repeat constructor)) (fun _ => sX) (fun _ _ => ?_))
  refine o_val (v_assign rfl) (dd rfl) ?_
  refine o_nil ?_
  refine c_seq ?_
  refine c_seq ?_
  refine c_region ?_
  refine o_val (v_assign rfl) (dd rfl) ?_
  refine o_nil ?_
  refine c_block ?_
  rw [show sB (numB l.length) = sB (numB l.length ++ ((l.take 0).map primB).flatten) by simp]
  refine c_loopR (γ := Nat) [(0, _), (2, _)] (fun k => l.length - k) (fun k => k ≤ l.length) (fun k => [(4, .int .i64 k), (3, .string (sB (numB l.length ++ ((l.take k).map primB).flatten)))]) (fun _ => [Sl ePr v l]) (0) (Nat.zero_le _) (by repeat (first | exact trivial | refine ⟨rfl, ?_⟩)) (eX (by repeat constructor)) ?_
  rintro k hk IH
  try dsimp only [List.cons_append, List.nil_append]
  refine c_seq ?_
  refine c_seq ?_
  refine c_region ?_
  refine o_val (v_move rfl) (dd rfl) ?_
  refine o_val (v_move rfl) (dd rfl) ?_
  refine o_val ((by first | exact v_len_form Tryz.underlying31 rfl | exact v_len_sl Tryz.underlying31 rfl (hX (by repeat constructor)))) (dd rfl) ?_
  refine o_val (v_lt rfl rfl) (dd rfl) ?_
  refine o_nil ?_
  refine c_cond_p rfl (fun hlt => ?_) (fun hlt => ?_)
  · have hk' : k < l.length := by omega
    have hpf := hl2 _ (List.getElem_mem hk')
    have ht := primB_len hpf
    have hz1 := sB_size (numB l.length ++ ((l.take k).map primB).flatten)
    have hz2 := sB_size (primB (l[k]'hk'))
    have hn := numB_len l.length
    have hfl := flat_le (put := primB) (m := 4000020000000) (l := l.take k) fun x hx => primB_len (hl2 x (List.mem_of_mem_take hx))
    have hkl : (l.take k).length ≤ 100000 := by rw [List.length_take]; omega
    have hm : (l.take k).length * 4000020000000 ≤ 100000 * 4000020000000 := Nat.mul_le_mul_right _ hkl
    rw [List.length_append] at hz1
    refine c_skip ?_
    refine c_seq ?_
    refine c_block ?_
    refine c_region ?_
    refine o_val (v_move rfl) (dd rfl) ?_
    refine o_val (v_move rfl) (dd rfl) ?_
    refine o_val (v_move rfl) (dd rfl) ?_
    refine o_val ((by first | exact v_indexAddrN Tryz.underlying31 ti30 rfl rfl (hX (by repeat constructor)) (by omega) | exact v_indexAddr Tryz.underlying31 ti30 rfl rfl (hX (by repeat constructor)) (by omega))) (dd rfl) ?_
    refine o_step (s_load_shape ⟨_, Tryz.underlying30⟩ ti30 rfl (dd rfl) (by repeat (first|exact el1 (by omega)|exact el2 (by omega)|exact el3 (by omega)|apply Elem.there)) (pr_open) (fun g => ?_))
    refine o_step (s_callf cl47 (primRef_con (l[k]'hk') g.1 g.2 hpf) rfl (dd rfl) (pXs (by repeat constructor)) fun _ _ => ?_)
    refine o_val (v_cat rfl rfl (by first | omega | (simp only [ByteArray.size_append]; omega))) (dd rfl) ?_
    refine o_val (v_assign rfl) (dd rfl) ?_
    refine o_nil ?_
    refine c_inBlock ?_
    refine c_region ?_
    refine o_val (v_move rfl) (dd rfl) ?_
    refine o_val ((by first | exact v_add64 rfl rfl (by omega) | exact v_add rfl rfl)) (dd rfl) ?_
    refine o_val (v_assign rfl) (dd rfl) ?_
    refine o_nil ?_
    rw [sB_app, List.append_assoc, ← flat_next primB hk']
    refine c_use (IH (k + 1) (by first | omega | (dsimp only; omega)) (by omega)) (by repeat (first | exact trivial | refine ⟨rfl, ?_⟩)) (eX (by repeat constructor))
  · have hke : k = l.length := by omega
    refine c_exit rfl ?_
    refine c_seq ?_
    refine c_region ?_
    refine o_val (v_move rfl) (dd rfl) ?_
    refine o_val (v_assign rfl) (dd rfl) ?_
    refine o_nil ?_
    refine c_ret1 Tryz.func49 rfl rfl fun w O hS => ?_
    exact ⟨(), by rw [hke, List.take_length]; rfl, trivial, trivial⟩
/-- Sizes of a patch. -/
def PtFit (p : Pt9) : Prop := p.2.1.size ≤ 1000000 ∧ p.2.2.1.length ≤ 1000000 ∧ PrsFit p.2.2.2
theorem primsB_len {l : List Pr9} (h : PrsFit l) : (primsB l).length ≤ 400002000000000015 := by
  have hfl := flat_le (put := primB) (m := 4000020000000) (l := l) fun x hx => primB_len (h.2 x hx)
  have hm : l.length * 4000020000000 ≤ 100000 * 4000020000000 := Nat.mul_le_mul_right _ h.1
  have hn := numB_len l.length
  unfold primsB manyB
  rw [List.length_append]
  omega
set_option maxRecDepth 100000 in
theorem patchRef_con (p : Pt9) (dv lv : Value) (hp : PtFit p) : Con Tryz.prog 51 [.agg #[.int .i64 p.1, .string p.2.1, dv, lv]] [Sl (eInt .i64) dv p.2.2.1, Sl ePr lv p.2.2.2] (γ := Unit) (fun _ => .string (sB (patchB p))) (fun _ => True) (fun _ => []) := by
  obtain ⟨hn, hd, hl⟩ := hp
  have s1 := sB_size (numB p.1)
  have s2 := sB_size (textB p.2.1)
  have s3 := sB_size (numB p.2.2.1.length)
  have s4 := sB_size (primsB p.2.2.2)
  have l1 := numB_len p.1
  have l2 := textB_len p.2.1
  have l3 := numB_len p.2.2.1.length
  have l4 := primsB_len hl
  refine con_of Tryz.func51 rfl (dd rfl) fun w0 O0 => ?_
  refine c_seq ?_
  refine c_region ?_
  refine o_step (s_box rfl (dd rfl) (fun b1 => ?_))
  refine o_val (v_assign rfl) (dd rfl) ?_
  refine o_nil ?_
  refine c_seq ?_
  refine c_held [BlkR b1 34 [.int .i64 p.1, .string p.2.1, dv, lv], Sl (eInt .i64) dv p.2.2.1] rfl ?_
  refine a_take 0 rfl (by kernel_rfl) (by kernel_rfl) (by kernel_rfl) (v_fieldAddrC 0 Tryz.underlying34 rfl ti3 (by decide) rfl) (eX (by repeat constructor)) (dd rfl) ?_
  refine a_take 1 rfl (by kernel_rfl) (by kernel_rfl) (by kernel_rfl) (v_load lone3 rfl (hX (by repeat constructor)) rfl) (eX (by repeat constructor)) (dd rfl) ?_
  refine a_take 3 rfl (by kernel_rfl) (by kernel_rfl) (by kernel_rfl) (v_fieldAddrC 1 Tryz.underlying34 rfl ti9 (by decide) rfl) (eX (by repeat constructor)) (dd rfl) ?_
  refine a_take 4 rfl (by kernel_rfl) (by kernel_rfl) (by kernel_rfl) (v_load lone9 rfl (hX (by repeat constructor)) rfl) (eX (by repeat constructor)) (dd rfl) ?_
  refine a_take 7 rfl (by kernel_rfl) (by kernel_rfl) (by kernel_rfl) (v_fieldAddrC 2 Tryz.underlying34 rfl ti32 (by decide) rfl) (eX (by repeat constructor)) (dd rfl) ?_
  refine a_take 8 rfl (by kernel_rfl) (by kernel_rfl) (by kernel_rfl) (v_load lone32 rfl (hX (by repeat constructor)) rfl) (eX (by repeat constructor)) (dd rfl) ?_
  refine a_take 9 rfl (by kernel_rfl) (by kernel_rfl) (by kernel_rfl) ((by first | exact v_len_form Tryz.underlying32 rfl | exact v_len_sl Tryz.underlying32 rfl (hX (by repeat constructor)))) (eX (by repeat constructor)) (dd rfl) ?_
  refine a_one 2 rfl (by kernel_rfl) (s_callf_keep cl43 (numRef_con p.1) rfl (dd rfl) (rX (by repeat constructor)) (fun _ => sX) (fun _ _ => a_on (eX (by repeat constructor)) ?_))
  refine a_one 5 rfl (by kernel_rfl) (s_callf_keep cl45 (textRef_con p.2.1 (by omega)) rfl (dd rfl) (rX (by repeat constructor)) (fun _ => sX) (fun _ _ => a_on (eX (by repeat constructor)) ?_))
  refine a_take 6 rfl (by kernel_rfl) (by kernel_rfl) (by kernel_rfl) (v_cat rfl rfl (by first | omega | (simp only [ByteArray.size_append]; omega))) (eX (by repeat constructor)) (dd rfl) ?_
  refine a_one 10 rfl (by kernel_rfl) (s_callf_keep cl43 (numRef_con (p.2.2.1.length : Int)) rfl (dd rfl) (rX (by repeat constructor)) (fun _ => sX) (fun _ _ => a_on (eX (by repeat constructor)) ?_))
  refine a_take 11 rfl (by kernel_rfl) (by kernel_rfl) (by kernel_rfl) (v_cat rfl rfl (by first | omega | (simp only [ByteArray.size_append]; omega))) (eX (by repeat constructor)) (dd rfl) ?_
  refine a_take 12 rfl (by kernel_rfl) (by kernel_rfl) (by kernel_rfl) (v_assign rfl) (eX (by repeat constructor)) (dd rfl) ?_
  refine a_done (by kernel_rfl) ?_ _
  refine c_seq ?_
  refine c_seq ?_
  refine c_region ?_
  refine o_val (v_assign rfl) (dd rfl) ?_
  refine o_nil ?_
  refine c_block ?_
  rw [sB_app, sB_app, show sB (numB p.1 ++ textB p.2.1 ++ numB p.2.2.1.length) = sB (numB p.1 ++ textB p.2.1 ++ numB p.2.2.1.length ++ ((p.2.2.1.take 0).map numB).flatten) by simp]
  refine c_loopR (γ := Nat) [(1, _), (2, _)] (fun k => p.2.2.1.length - k) (fun k => k ≤ p.2.2.1.length) (fun k => [(4, .int .i64 k), (3, .string (sB (numB p.1 ++ textB p.2.1 ++ numB p.2.2.1.length ++ ((p.2.2.1.take k).map numB).flatten)))]) (fun _ => [Blk b1 34 [.int .i64 p.1, .string p.2.1, dv, lv], Sl (eInt .i64) dv p.2.2.1, Sl ePr lv p.2.2.2]) (0) (Nat.zero_le _) (by repeat (first | exact trivial | refine ⟨rfl, ?_⟩)) (eX (by repeat constructor)) ?_
  rintro k hk IH
  have hfl := flat_le (put := numB) (m := 15) (l := p.2.2.1.take k) fun x _ => numB_len x
  have hkl : (p.2.2.1.take k).length ≤ 1000000 := by rw [List.length_take]; omega
  have hz1 := sB_size (numB p.1 ++ textB p.2.1 ++ numB p.2.2.1.length ++ ((p.2.2.1.take k).map numB).flatten)
  rw [List.length_append, List.length_append, List.length_append] at hz1
  try dsimp only [List.cons_append, List.nil_append]
  refine c_seq ?_
  refine c_seq ?_
  refine c_region ?_
  refine o_val (v_move rfl) (dd rfl) ?_
  refine o_val (v_fieldAddrC 2 Tryz.underlying34 rfl ti32 (by decide) rfl) (dd rfl) ?_
  refine o_val (v_load lone32 rfl (hX (by repeat constructor)) rfl) (dd rfl) ?_
  refine o_val ((by first | exact v_len_form Tryz.underlying32 rfl | exact v_len_sl Tryz.underlying32 rfl (hX (by repeat constructor)))) (dd rfl) ?_
  refine o_val (v_lt rfl rfl) (dd rfl) ?_
  refine o_nil ?_
  refine c_cond_p rfl (fun hlt => ?_) (fun hlt => ?_)
  · have hk' : k < p.2.2.1.length := by omega
    have hz2 := sB_size (numB (p.2.2.1[k]'hk'))
    have ht := numB_len (p.2.2.1[k]'hk')
    refine c_skip ?_
    refine c_seq ?_
    refine c_block ?_
    refine c_region ?_
    refine o_val (v_move rfl) (dd rfl) ?_
    refine o_val (v_fieldAddrC 2 Tryz.underlying34 rfl ti32 (by decide) rfl) (dd rfl) ?_
    refine o_val (v_load lone32 rfl (hX (by repeat constructor)) rfl) (dd rfl) ?_
    refine o_val (v_move rfl) (dd rfl) ?_
    refine o_val ((by first | exact v_indexAddrN Tryz.underlying32 ti3 rfl rfl (hX (by repeat constructor)) (by omega) | exact v_indexAddr Tryz.underlying32 ti3 rfl rfl (hX (by repeat constructor)) (by omega))) (dd rfl) ?_
    refine o_val (v_load_int lone3 rfl (by repeat (first | exact Elem.sl (List.getElem?_eq_getElem (by omega)) | exact Elem.own (List.getElem?_eq_getElem (by omega)) | exact Elem.ownO (List.getElem?_eq_getElem (by omega)) | apply Elem.there))) (dd rfl) ?_
    refine o_step (s_callf_keep cl43 (numRef_con (p.2.2.1[k]'hk')) rfl (dd rfl) (rX (by repeat constructor)) (fun _ => sX) (fun _ _ => ?_))
    refine o_val (v_cat rfl rfl (by first | omega | (simp only [ByteArray.size_append]; omega))) (dd rfl) ?_
    refine o_val (v_assign rfl) (dd rfl) ?_
    refine o_nil ?_
    refine c_inBlock ?_
    refine c_region ?_
    refine o_val (v_move rfl) (dd rfl) ?_
    refine o_val ((by first | exact v_add64 rfl rfl (by omega) | exact v_add rfl rfl)) (dd rfl) ?_
    refine o_val (v_assign rfl) (dd rfl) ?_
    refine o_nil ?_
    rw [sB_app, List.append_assoc (numB p.1 ++ textB p.2.1 ++ numB p.2.2.1.length), ← flat_next numB hk']
    refine c_use (IH (k + 1) (by first | omega | (dsimp only; omega)) (by omega)) (by repeat (first | exact trivial | refine ⟨rfl, ?_⟩)) (eX (by repeat constructor))
  · have hke : k = p.2.2.1.length := by omega
    refine c_exit rfl ?_
    refine c_seq ?_
    refine c_region ?_
    refine o_val (v_move rfl) (dd rfl) ?_
    refine o_val (v_fieldAddrC 3 Tryz.underlying34 rfl ti31 (by decide) rfl) (dd rfl) ?_
    refine o_val (v_load lone31 rfl (hX (by repeat constructor)) rfl) (dd rfl) ?_
    refine o_step (s_callf cl49 (primsRef_con lv p.2.2.2 hl) rfl (dd rfl) (pXs (by repeat constructor)) fun _ _ => ?_)
    refine o_val (v_cat rfl rfl (by first | omega | (simp only [ByteArray.size_append]; omega))) (dd rfl) ?_
    refine o_val (v_assign rfl) (dd rfl) ?_
    refine o_nil ?_
    refine c_ret1 Tryz.func51 rfl rfl fun w O hS => ?_
    exact ⟨(), by unfold patchB manyB; rw [sB_app, hke, List.take_length]; simp only [List.append_assoc], trivial, trivial⟩
end Go.Proofs.YtmgkeippepeggaaGreatDoor
/- Chapter 09: numerals are appended. -/
namespace Go.Proofs.YtmgkeippepeggaaGreatDoor
open Go Go.SL Go.Lib
attribute [local irreducible] Cfg Kont StepK Val Con Qops Any Sl Own Blk BlkR Rd Pu ExA AllA Has Pick Ent Elem Beside Callable TI Lone OwnO AndA
set_option maxRecDepth 100000 in
theorem appendUint_con (v : Value) (l : List UInt8) (u : Nat) (hu : u < 9223372036854775808) (hl : l.length ≤ 140737488355000) : Con Tryz.prog 120 [v, .int .u64 u, .int .i64 10] [Own eByte 5 v l, G3] (γ := Value) (fun g => g) (fun _ => True) (fun g => [Own eByte 5 g (l ++ decDigits u)]) := by
  have hn20 := nDigits_le20 u (by omega)
  have hdl := decDigits_length u
  have hn24 : nDigits u ≤ 24 := by omega
  refine con_of Tryz.func120 rfl (dd rfl) fun w0 O0 => ?_
  refine c_seq ?_
  refine c_region ?_
  refine o_val (v_assign rfl) (dd rfl) ?_
  refine o_nil ?_
  refine c_seq ?_
  refine c_seq ?_
  refine c_region ?_
  refine o_val (v_move rfl) (dd rfl) ?_
  refine o_val (v_eq rfl rfl) (dd rfl) ?_
  refine o_nil ?_
  refine c_cond_t rfl ?_
  refine c_seq ?_
  refine c_seq ?_
  refine c_region ?_
  refine o_val (v_move rfl) (dd rfl) ?_
  refine o_val (v_lt rfl rfl) (dd rfl) ?_
  refine o_nil ?_
  refine c_cond_p rfl (fun h1 => ?_) (fun h1 => ?_)
  · have hsz := sB_size (decDigits u)
    have hli := sB_list (decDigits u)
    have hcv : IntKind.i64.wrap (u : Int) = (u : Int) := by rw [IntKind.wrap_i64]; omega
    refine c_seq ?_
    refine c_region ?_
    refine o_val (v_move rfl) (dd rfl) ?_
    refine o_val (v_move rfl) (dd rfl) ?_
    refine o_val (v_conv_int Tryz.underlying153 Tryz.underlying3 rfl) (dd rfl) ?_
    rw [hcv]
    refine o_step (s_callf_keep cl137 (small_con u (by omega)) rfl (dd rfl) (rX (by repeat constructor)) (fun _ => sX) (fun _ _ => ?_))
    refine o_step (s_append_str Tryz.underlying25 Tryz.underlying9 ti5 rfl rfl (dd rfl) (pX (by repeat constructor)) (by omega) fun v1 => ?_)
    refine o_val (v_assign rfl) (dd rfl) ?_
    refine o_nil ?_
    rw [hli]
    refine c_ret1 Tryz.func120 rfl rfl fun w O hS => ?_
    exact ⟨v1, rfl, trivial, Ent.get hS (eX (by repeat constructor))⟩
  · refine c_skip ?_
    refine c_seq ?_
    refine c_region ?_
    refine o_step (s_alloc ti172 (dd rfl) (fun b7 => ?_))
    refine o_nil ?_
    refine c_seq ?_
    refine c_region ?_
    refine o_val (v_move rfl) (dd rfl) ?_
    refine o_step (s_callf_keep cl138 (numDigits_con u (by omega) (by omega)) rfl (dd rfl) (rX (by repeat constructor)) (fun _ => sX) (fun _ _ => ?_))
    refine o_val (v_assign rfl) (dd rfl) ?_
    refine o_nil ?_
    refine c_seq ?_
    refine c_region ?_
    refine o_val (v_move rfl) (dd rfl) ?_
    refine o_val (v_slice_arr Tryz.underlying172 ti5 rfl rfl rfl (by omega)) (dd rfl) ?_
    refine o_val (v_move rfl) (dd rfl) ?_
    refine o_step (s_callf cl139 (fmt_con b7 (nDigits u) u (List.replicate 24 (Value.int .u8 0)) (by simp) (fun j hj => by rw [List.getElem?_replicate, if_pos hj]) rfl (by omega) (by omega)) rfl (dd rfl) (pXs (by repeat constructor)) fun _ _ => ?_)
    refine o_nil ?_
    refine c_seq ?_
    refine c_region ?_
    refine o_val (v_move rfl) (dd rfl) ?_
    refine o_val (v_move rfl) (dd rfl) ?_
    refine o_val (v_slice_arr Tryz.underlying172 ti5 rfl rfl rfl (by omega)) (dd rfl) ?_
    refine o_mk (bytes_sl hdl hn24 (by decide)) (pXs (by repeat constructor)) ?_
    refine o_step (s_append Tryz.underlying25 ti5 rfl (by decide) rfl rfl (dd rfl) (pB (by repeat constructor)) (pX (by repeat constructor)) rfl (by (first | omega | (simp only [maxLen, List.length_append, List.length_drop, List.length_take, List.length_nil, List.length_cons]; omega))) (by (first | omega | (simp only [maxLen, List.length_append, List.length_drop, List.length_take, List.length_nil, List.length_cons]; omega))) fun v2 => ?_)
    refine o_val (v_assign rfl) (dd rfl) ?_
    refine o_nil ?_
    refine c_ret1 Tryz.func120 rfl rfl fun w O hS => ?_
    exact ⟨v2, rfl, trivial, Ent.get hS (eX (by repeat constructor))⟩
set_option maxRecDepth 100000 in
theorem appendInt_con (v : Value) (l : List UInt8) (n : Int) (hn : -4611686018427387904 ≤ n ∧ n ≤ 4611686018427387904) (hl : l.length ≤ 140737488354000) : Con Tryz.prog 103 [v, .int .i64 n, .int .i64 10] [Own eByte 5 v l, G3] (γ := Value) (fun g => g) (fun _ => True) (fun g => [Own eByte 5 g (l ++ itoa n)]) := by
  refine con_of Tryz.func103 rfl (dd rfl) fun w0 O0 => ?_
  refine c_seq ?_
  refine c_region ?_
  refine o_val (v_assign rfl) (dd rfl) ?_
  refine o_nil ?_
  refine c_seq ?_
  refine c_region ?_
  refine o_val (v_move rfl) (dd rfl) ?_
  refine o_val (v_conv_int Tryz.underlying2 Tryz.underlying153 rfl) (dd rfl) ?_
  refine o_val (v_assign rfl) (dd rfl) ?_
  refine o_nil ?_
  refine c_seq ?_
  refine c_seq ?_
  refine c_region ?_
  refine o_val (v_move rfl) (dd rfl) ?_
  refine o_val (v_lt rfl rfl) (dd rfl) ?_
  refine o_nil ?_
  refine c_cond_p rfl (fun h0 => ?_) (fun h0 => ?_)
  · have hw : IntKind.u64.wrap (-IntKind.u64.wrap n) = ((n.natAbs : Nat) : Int) := by rw [IntKind.wrap_u64, IntKind.wrap_u64]; omega
    have hi : itoa n = [45] ++ decDigits n.natAbs := by unfold itoa; rw [if_pos h0]; rfl
    refine c_seq ?_
    refine c_region ?_
    refine o_val (v_move rfl) (dd rfl) ?_
    refine o_step (s_buildSlice Tryz.underlying25 ti5 rfl rfl rfl (by decide) (by decide) (beside_byte [45]) rfl rfl (dd rfl) fun v1 => ?_)
    refine o_step (s_append Tryz.underlying25 ti5 rfl (by decide) rfl rfl (dd rfl) (pB (by repeat constructor)) (pX (by repeat constructor)) rfl (by (first | omega | (simp only [maxLen, List.length_append, List.length_drop, List.length_take, List.length_nil, List.length_cons]; omega))) (by (first | omega | (simp only [maxLen, List.length_append, List.length_drop, List.length_take, List.length_nil, List.length_cons]; omega))) fun v2 => ?_)
    refine o_val (v_assign rfl) (dd rfl) ?_
    refine o_nil ?_
    refine c_region ?_
    refine o_val (v_move rfl) (dd rfl) ?_
    refine o_val (v_neg_u rfl) (dd rfl) ?_
    refine o_val (v_assign rfl) (dd rfl) ?_
    refine o_nil ?_
    refine c_seq ?_
    refine c_region ?_
    refine o_val (v_move rfl) (dd rfl) ?_
    refine o_val (v_move rfl) (dd rfl) ?_
    refine o_val (v_move rfl) (dd rfl) ?_
    rw [hw]
    refine o_step (s_callf cl120 (appendUint_con v2 (l ++ [45]) n.natAbs (by omega) (by simp; omega)) rfl (dd rfl) (pXs (by repeat constructor)) fun v3 _ => ?_)
    refine o_val (v_assign rfl) (dd rfl) ?_
    refine o_nil ?_
    rw [List.append_assoc, ← hi]
    refine c_ret1 Tryz.func103 rfl rfl fun w O hS => ?_
    exact ⟨v3, rfl, trivial, Ent.get hS (eX (by repeat constructor))⟩
  · have hw : IntKind.u64.wrap n = ((n.toNat : Nat) : Int) := by rw [IntKind.wrap_u64]; omega
    have hi : itoa n = decDigits n.toNat := by unfold itoa; rw [if_neg h0]
    refine c_skip ?_
    refine c_seq ?_
    refine c_region ?_
    refine o_val (v_move rfl) (dd rfl) ?_
    refine o_val (v_move rfl) (dd rfl) ?_
    refine o_val (v_move rfl) (dd rfl) ?_
    rw [hw]
    refine o_step (s_callf cl120 (appendUint_con v l n.toNat (by omega) (by omega)) rfl (dd rfl) (pXs (by repeat constructor)) fun v3 _ => ?_)
    refine o_val (v_assign rfl) (dd rfl) ?_
    refine o_nil ?_
    rw [← hi]
    refine c_ret1 Tryz.func103 rfl rfl fun w O hS => ?_
    exact ⟨v3, rfl, trivial, Ent.get hS (eX (by repeat constructor))⟩
set_option maxRecDepth 100000 in
theorem appendIntP_con (v : Value) (l : List UInt8) (n : Int) (hn : -4611686018427387904 ≤ n ∧ n ≤ 4611686018427387904) (hl : l.length ≤ 140737488354000) : Con Tryz.prog 77 [v, .int .i64 n, .int .i64 10] [Own eByte 5 v l, G3] (γ := Value) (fun g => g) (fun _ => True) (fun g => [Own eByte 5 g (l ++ itoa n)]) := by
  have hA := appendInt_con v l n hn hl
  refine con_of Tryz.func77 rfl (dd rfl) fun w0 O0 => ?_
  refine c_seq ?_
  refine c_region ?_
  refine o_val (v_assign rfl) (dd rfl) ?_
  refine o_nil ?_
  refine c_seq ?_
  refine c_region ?_
  refine o_val (v_move rfl) (dd rfl) ?_
  refine o_val (v_move rfl) (dd rfl) ?_
  refine o_val (v_move rfl) (dd rfl) ?_
  refine o_step (s_callf cl103 (hA) rfl (dd rfl) (pXs (by repeat constructor)) fun v3 _ => ?_)
  refine o_val (v_assign rfl) (dd rfl) ?_
  refine o_nil ?_
  refine c_ret1 Tryz.func77 rfl rfl fun w O hS => ?_
  exact ⟨v3, rfl, trivial, Ent.get hS (eX (by repeat constructor))⟩
end Go.Proofs.YtmgkeippepeggaaGreatDoor
/- Chapter 09: the program's writers. -/
namespace Go.Proofs.YtmgkeippepeggaaGreatDoor
open Go Go.SL Go.Lib
theorem flat_part {α : Type} (put : α → List UInt8) {l : List α} {k : Nat} (hk : k < l.length) : ((l.take k).map put).flatten.length + (put l[k]).length ≤ ((l.map put).flatten).length := by
  rw [← List.length_append, ← flat_next put hk]
  have h : (l.map put).flatten = ((l.take (k + 1)).map put).flatten ++ ((l.drop (k + 1)).map put).flatten := by rw [← List.flatten_append, ← List.map_append, List.take_append_drop]
  rw [h, List.length_append]; omega
abbrev ptr (b : Nat) : Value := .pointer (some ⟨b, 0, none⟩)
attribute [local irreducible] Cfg Kont StepK Val Con Qops Any Sl Own Blk BlkR Rd Pu ExA AllA Has Pick Ent Elem Beside Callable TI Lone OwnO AndA
set_option maxRecDepth 100000 in
theorem num_con (b : Nat) (v : Value) (l : List UInt8) (n : Int) (hn : -9223372036854775808 ≤ n ∧ n ≤ 9223372036854775807) (hl : l.length + (numB n).length ≤ 100000000000000) : Con Tryz.prog 32 [ptr b, .int .i64 n] [Blk b 27 [v], Own eByte 5 v l, G3] (γ := Value) (fun _ => .tuple #[]) (fun _ => True) (fun g => [Blk b 27 [g], Own eByte 5 g (l ++ numB n)]) := by
  have hc : min (max n (-1099511627776)) 1099511627776 = clamp9 n := by unfold clamp9 far9; rfl
  have hcf := clamp_far n
  unfold far9 at hcf
  have hnl : (numB n).length = (itoa (clamp9 n)).length + 1 := by unfold numB; simp
  refine con_of Tryz.func32 rfl (dd rfl) fun w0 O0 => ?_
  refine c_region ?_
  refine o_val (v_move rfl) (dd rfl) ?_
  refine o_val (v_move rfl) (dd rfl) ?_
  refine o_val (v_nilCheck rfl) (dd rfl) ?_
  refine o_val (v_fieldAddrC 0 Tryz.underlying27 rfl ti25 (by decide) rfl) (dd rfl) ?_
  refine o_val (v_load lone25 rfl (hX (by repeat constructor)) rfl) (dd rfl) ?_
  refine o_val (v_move rfl) (dd rfl) ?_
  refine o_val (v_max rfl rfl) (dd rfl) ?_
  refine o_val (v_min rfl rfl) (dd rfl) ?_
  rw [hc]
  refine o_step (s_callf cl77 (appendIntP_con v l (clamp9 n) (by omega) (by omega)) rfl (dd rfl) (pXs (by repeat constructor)) fun v1 _ => ?_)
  refine o_step (s_buildSlice Tryz.underlying25 ti5 rfl rfl rfl (by decide) (by decide) (beside_byte [59]) rfl rfl (dd rfl) fun v2 => ?_)
  refine o_step (s_append Tryz.underlying25 ti5 rfl (by decide) rfl rfl (dd rfl) (pB (by repeat constructor)) (pX (by repeat constructor)) rfl (by (first | omega | (simp only [maxLen, List.length_append, List.length_drop, List.length_take, List.length_nil, List.length_cons]; omega))) (by (first | omega | (simp only [maxLen, List.length_append, List.length_drop, List.length_take, List.length_nil, List.length_cons]; omega))) fun v3 => ?_)
  refine o_val (v_nilCheck rfl) (dd rfl) ?_
  refine o_val (v_fieldAddrC 0 Tryz.underlying27 rfl ti25 (by decide) rfl) (dd rfl) ?_
  refine o_step (s_store1 ti25 rfl rfl (by first | exact OneC.lit rfl | exact OneC.sl (hX (by repeat constructor)) ) (pB (by repeat constructor)) (by first | decide | exact Nat.le_of_ble_eq_true rfl | simp) (by first | (dsimp only [List.set_cons_succ, List.set_cons_zero]; first | done | exact rfl) | rfl) (?_))
  refine o_nil ?_
  refine c_end0 Tryz.func32 rfl fun w O hS => ?_
  exact ⟨v3, rfl, trivial, by unfold numB; rw [← List.append_assoc]; exact Ent.get hS (eX (by repeat constructor))⟩
theorem flagB_num (q : Bool) : flagB q = numB (if q then 1 else 0) := rfl
set_option maxRecDepth 100000 in
theorem flag_con (b : Nat) (v : Value) (l : List UInt8) (q : Bool) (hl : l.length + (flagB q).length ≤ 100000000000000) : Con Tryz.prog 33 [ptr b, .bool q] [Blk b 27 [v], Own eByte 5 v l, G3] (γ := Value) (fun _ => .tuple #[]) (fun _ => True) (fun g => [Blk b 27 [g], Own eByte 5 g (l ++ flagB q)]) := by
  have hN := fun n hn => num_con b v l n hn
  rw [flagB_num] at *
  refine con_of Tryz.func33 rfl (dd rfl) fun w0 O0 => ?_
  refine c_seq ?_
  refine c_region ?_
  refine o_val (v_assign rfl) (dd rfl) ?_
  refine o_nil ?_
  refine c_seq ?_
  refine c_seq ?_
  refine c_region ?_
  refine o_val (v_move rfl) (dd rfl) ?_
  refine o_nil ?_
  refine c_cond rfl (fun h => ?_) (fun h => ?_)
  · subst h
    refine c_region ?_
    refine o_val (v_assign rfl) (dd rfl) ?_
    refine o_nil ?_
    refine c_region ?_
    refine o_val (v_move rfl) (dd rfl) ?_
    refine o_val (v_move rfl) (dd rfl) ?_
    refine o_step (s_callf cl32 (hN 1 (by decide) hl) rfl (dd rfl) (pXs (by repeat constructor)) fun v1 _ => ?_)
    refine o_nil ?_
    refine c_end0 Tryz.func33 rfl fun w O hS => ?_
    exact ⟨v1, rfl, trivial, Ent.get hS (eX (by repeat constructor))⟩
  · subst h
    refine c_skip ?_
    refine c_region ?_
    refine o_val (v_move rfl) (dd rfl) ?_
    refine o_val (v_move rfl) (dd rfl) ?_
    refine o_step (s_callf cl32 (hN 0 (by decide) hl) rfl (dd rfl) (pXs (by repeat constructor)) fun v1 _ => ?_)
    refine o_nil ?_
    refine c_end0 Tryz.func33 rfl fun w O hS => ?_
    exact ⟨v1, rfl, trivial, Ent.get hS (eX (by repeat constructor))⟩
set_option maxRecDepth 100000 in
theorem text_con (b : Nat) (v : Value) (l : List UInt8) (s : ByteArray) (hl : l.length + (textB s).length ≤ 100000000000000) : Con Tryz.prog 34 [ptr b, .string s] [Blk b 27 [v], Own eByte 5 v l, G3] (γ := Value) (fun _ => .tuple #[]) (fun _ => True) (fun g => [Blk b 27 [g], Own eByte 5 g (l ++ textB s)]) := by
  have htl : (textB s).length = (itoa s.size).length + s.size + 2 := by unfold textB; simp; omega
  have hsl := ba_len s
  refine con_of Tryz.func34 rfl (dd rfl) fun w0 O0 => ?_
  refine c_seq ?_
  refine c_region ?_
  refine o_val (v_move rfl) (dd rfl) ?_
  refine o_val (v_move rfl) (dd rfl) ?_
  refine o_val (v_nilCheck rfl) (dd rfl) ?_
  refine o_val (v_fieldAddrC 0 Tryz.underlying27 rfl ti25 (by decide) rfl) (dd rfl) ?_
  refine o_val (v_load lone25 rfl (hX (by repeat constructor)) rfl) (dd rfl) ?_
  refine o_val (v_move rfl) (dd rfl) ?_
  refine o_val (v_len_str Tryz.underlying9 rfl) (dd rfl) ?_
  refine o_step (s_callf cl77 (appendIntP_con v l s.size (by omega) (by omega)) rfl (dd rfl) (pXs (by repeat constructor)) fun v1 _ => ?_)
  refine o_step (s_buildSlice Tryz.underlying25 ti5 rfl rfl rfl (by decide) (by decide) (beside_byte [58]) rfl rfl (dd rfl) fun v2 => ?_)
  refine o_step (s_append Tryz.underlying25 ti5 rfl (by decide) rfl rfl (dd rfl) (pB (by repeat constructor)) (pX (by repeat constructor)) rfl (by (first | omega | (simp only [maxLen, List.length_append, List.length_drop, List.length_take, List.length_nil, List.length_cons]; omega))) (by (first | omega | (simp only [maxLen, List.length_append, List.length_drop, List.length_take, List.length_nil, List.length_cons]; omega))) fun v3 => ?_)
  refine o_val (v_nilCheck rfl) (dd rfl) ?_
  refine o_val (v_fieldAddrC 0 Tryz.underlying27 rfl ti25 (by decide) rfl) (dd rfl) ?_
  refine o_step (s_store1 ti25 rfl rfl (by first | exact OneC.lit rfl | exact OneC.sl (hX (by repeat constructor)) ) (pB (by repeat constructor)) (by first | decide | exact Nat.le_of_ble_eq_true rfl | simp) (by first | (dsimp only [List.set_cons_succ, List.set_cons_zero]; first | done | exact rfl) | rfl) (?_))
  refine o_nil ?_
  refine c_region ?_
  refine o_val (v_move rfl) (dd rfl) ?_
  refine o_val (v_move rfl) (dd rfl) ?_
  refine o_val (v_nilCheck rfl) (dd rfl) ?_
  refine o_val (v_fieldAddrC 0 Tryz.underlying27 rfl ti25 (by decide) rfl) (dd rfl) ?_
  refine o_val (v_load lone25 rfl (hX (by repeat constructor)) rfl) (dd rfl) ?_
  refine o_val (v_move rfl) (dd rfl) ?_
  refine o_step (s_append_str Tryz.underlying25 Tryz.underlying9 ti5 rfl rfl (dd rfl) (pX (by repeat constructor)) (by simp; omega) fun v4 => ?_)
  refine o_step (s_buildSlice Tryz.underlying25 ti5 rfl rfl rfl (by decide) (by decide) (beside_byte [44]) rfl rfl (dd rfl) fun v5 => ?_)
  refine o_step (s_append Tryz.underlying25 ti5 rfl (by decide) rfl rfl (dd rfl) (pB (by repeat constructor)) (pX (by repeat constructor)) rfl (by (first | omega | (simp only [maxLen, List.length_append, List.length_drop, List.length_take, List.length_nil, List.length_cons]; omega))) (by (first | omega | (simp only [maxLen, List.length_append, List.length_drop, List.length_take, List.length_nil, List.length_cons]; omega))) fun v6 => ?_)
  refine o_val (v_nilCheck rfl) (dd rfl) ?_
  refine o_val (v_fieldAddrC 0 Tryz.underlying27 rfl ti25 (by decide) rfl) (dd rfl) ?_
  refine o_step (s_store1 ti25 rfl rfl (by first | exact OneC.lit rfl | exact OneC.sl (hX (by repeat constructor)) ) (pB (by repeat constructor)) (by first | decide | exact Nat.le_of_ble_eq_true rfl | simp) (by first | (dsimp only [List.set_cons_succ, List.set_cons_zero]; first | done | exact rfl) | rfl) (?_))
  refine o_nil ?_
  refine c_end0 Tryz.func34 rfl fun w O hS => ?_
  exact ⟨v6, rfl, trivial, by
    have e : l ++ textB s = l ++ itoa s.size ++ [58] ++ s.data.toList ++ [44] := by unfold textB; simp only [List.append_assoc]
    rw [e]; exact Ent.get hS (eX (by repeat constructor))⟩
set_option maxRecDepth 100000 in
theorem eachText_con (b : Nat) (v u : Value) (l : List UInt8) (xs : List ByteArray) (hx : xs.length ≤ 140737488355328) (hl : l.length + (textsB xs).length ≤ 100000000000000) : Con Tryz.prog 78 [ptr b, u, .func (.func 34) #[ptr b] #[]] [Blk b 27 [v], Own eByte 5 v l, G3, Sl eStr u xs] (γ := Value) (fun _ => .tuple #[]) (fun _ => True) (fun g => [Blk b 27 [g], Own eByte 5 g (l ++ textsB xs)]) := by
  unfold textsB at *
  refine con_of Tryz.func78 rfl (dd rfl) fun w0 O0 => ?_
  refine c_seq ?_
  refine c_region ?_
  refine o_val (v_move rfl) (dd rfl) ?_
  refine o_val (v_move rfl) (dd rfl) ?_
  refine o_val ((by first | exact v_len_form Tryz.underlying28 rfl | exact v_len_sl Tryz.underlying28 rfl (hX (by repeat constructor)))) (dd rfl) ?_
  have hnum : (manyB textB xs).length = (numB xs.length).length + ((xs.map textB).flatten).length := by unfold manyB; simp
  refine o_step (s_callf cl32 (num_con b v l xs.length (by omega) (by omega)) rfl (dd rfl) (pXs (by repeat constructor)) fun v1 _ => ?_)
  refine o_nil ?_
  refine c_seq ?_
  refine c_region ?_
  refine o_val (v_move rfl) (dd rfl) ?_
  refine o_val ((by first | exact v_len_form Tryz.underlying28 rfl | exact v_len_sl Tryz.underlying28 rfl (hX (by repeat constructor)))) (dd rfl) ?_
  refine o_val (v_move rfl) (dd rfl) ?_
  refine o_nil ?_
  refine c_block ?_
  rw [show l ++ numB xs.length = l ++ (numB xs.length ++ ((xs.take 0).map textB).flatten) by simp]
  refine c_loopR (γ := Nat × Value) [(2, _), (12, _), (13, _)] (fun g => xs.length - g.1) (fun g => g.1 ≤ xs.length) (fun g => [(14, .int .i64 g.1)]) (fun g => [Blk b 27 [g.2], Own eByte 5 g.2 (l ++ (numB xs.length ++ ((xs.take g.1).map textB).flatten)), G3, Sl eStr u xs]) ((0, v1)) (Nat.zero_le _) (by repeat (first | exact trivial | refine ⟨rfl, ?_⟩)) (eX (by repeat constructor)) ?_
  rintro ⟨k, r⟩ hk IH
  dsimp only at hk ⊢
  try dsimp only [List.cons_append, List.nil_append]
  refine c_seq ?_
  refine c_region ?_
  refine o_val (v_lt rfl rfl) (dd rfl) ?_
  refine o_nil ?_
  refine c_seq ?_
  refine c_cond_p rfl (fun hlt => ?_) (fun hlt => ?_)
  · have hk' : k < xs.length := by omega
    have hfp := flat_part textB hk'
    refine c_skip ?_
    refine c_seq ?_
    refine c_block ?_
    refine c_seq ?_
    refine c_region ?_
    refine o_val ((by first | exact v_indexAddrN Tryz.underlying28 ti9 rfl rfl (hX (by repeat constructor)) (by omega) | exact v_indexAddr Tryz.underlying28 ti9 rfl rfl (hX (by repeat constructor)) (by omega))) (dd rfl) ?_
    refine o_val (v_load_str lone9 rfl (by repeat (first | exact Elem.sl (List.getElem?_eq_getElem (by omega)) | exact Elem.own (List.getElem?_eq_getElem (by omega)) | exact Elem.ownO (List.getElem?_eq_getElem (by omega)) | apply Elem.there))) (dd rfl) ?_
    refine o_val (v_assign rfl) (dd rfl) ?_
    refine o_nil ?_
    refine c_region ?_
    refine o_val (v_move rfl) (dd rfl) ?_
    refine o_val (v_move rfl) (dd rfl) ?_
    refine o_step (s_call cl34 (text_con b r (l ++ (numB xs.length ++ ((xs.take k).map textB).flatten)) xs[k] (by simp only [List.length_append]; omega)) (first := [ptr b]) (cap := []) rfl rfl (by rfl) (dd rfl) (pXs (by repeat constructor)) fun v2 _ => ?_)
    refine o_nil ?_
    refine c_inBlock ?_
    refine c_region ?_
    refine o_val ((by first | exact v_add64 rfl rfl (by omega) | exact v_add rfl rfl)) (dd rfl) ?_
    refine o_val (v_move rfl) (dd rfl) ?_
    refine o_nil ?_
    rw [List.append_assoc, List.append_assoc, ← flat_next textB hk']
    refine c_use (IH ((k + 1, v2)) (by first | omega | (dsimp only; omega)) (by dsimp only; omega)) (by repeat (first | exact trivial | refine ⟨rfl, ?_⟩)) (eX (by repeat constructor))
  · have hke : k = xs.length := by omega
    refine c_exit rfl ?_
    refine c_end0 Tryz.func78 rfl fun w O hS => ?_
    exact ⟨r, rfl, trivial, by unfold manyB; rw [hke, List.take_length] at hS; exact Ent.get hS (eX (by repeat constructor))⟩
set_option maxRecDepth 100000 in
theorem texts_con (b : Nat) (v u : Value) (l : List UInt8) (xs : List ByteArray) (hx : xs.length ≤ 140737488355328) (hl : l.length + (textsB xs).length ≤ 100000000000000) : Con Tryz.prog 35 [ptr b, u] [Blk b 27 [v], Own eByte 5 v l, G3, Sl eStr u xs] (γ := Value) (fun _ => .tuple #[]) (fun _ => True) (fun g => [Blk b 27 [g], Own eByte 5 g (l ++ textsB xs)]) := by
  have hE := eachText_con b v u l xs hx hl
  refine con_of Tryz.func35 rfl (dd rfl) fun w0 O0 => ?_
  refine c_region ?_
  refine o_val (v_move rfl) (dd rfl) ?_
  refine o_val (v_move rfl) (dd rfl) ?_
  refine o_val (v_move rfl) (dd rfl) ?_
  refine o_val (v_makeFunc rfl rfl) (dd rfl) ?_
  refine o_step (s_callf cl78 (hE) rfl (dd rfl) (pXs (by repeat constructor)) fun v1 _ => ?_)
  refine o_nil ?_
  refine c_end0 Tryz.func35 rfl fun w O hS => ?_
  exact ⟨v1, rfl, trivial, Ent.get hS (eX (by repeat constructor))⟩
/-- Rows that can be counted. -/
def CountP (p : Pr9) : Prop := (-9223372036854775808 ≤ p.1 ∧ p.1 ≤ 9223372036854775807) ∧ (-9223372036854775808 ≤ p.2.2.2.1 ∧ p.2.2.2.1 ≤ 9223372036854775807) ∧ p.2.2.2.2.1.length ≤ 140737488355328 ∧ p.2.2.2.2.2.length ≤ 140737488355328
set_option maxRecDepth 100000 in
theorem prim_con (b : Nat) (v ov wv : Value) (l : List UInt8) (p : Pr9) (hp : CountP p) (hl : l.length + (primB p).length ≤ 100000000000000) : Con Tryz.prog 36 [ptr b, .agg #[.int .i64 p.1, .string p.2.1, .string p.2.2.1, .int .i64 p.2.2.2.1, ov, wv]] [Blk b 27 [v], Own eByte 5 v l, G3, Sl eStr ov p.2.2.2.2.1, Sl eStr wv p.2.2.2.2.2] (γ := Value) (fun _ => .tuple #[]) (fun _ => True) (fun g => [Blk b 27 [g], Own eByte 5 g (l ++ primB p)]) := by
  obtain ⟨k, n, t, a, o, z⟩ := p
  obtain ⟨hk, ha, ho, hw⟩ := hp
  dsimp only at hk ha ho hw ⊢
  have hle : (primB (k, n, t, a, o, z)).length = (numB k).length + (textB n).length + (textB t).length + (numB a).length + (textsB o).length + (textsB z).length := by unfold primB; simp only [List.length_append]
  refine con_of Tryz.func36 rfl (dd rfl) fun w0 O0 => ?_
  refine c_seq ?_
  refine c_region ?_
  refine o_step (s_box rfl (dd rfl) (fun b3 => ?_))
  refine o_nil ?_
  refine c_seq ?_
  refine c_region ?_
  refine o_val (v_move rfl) (dd rfl) ?_
  refine o_val (v_fieldAddrC 0 Tryz.underlying58 rfl ti3 (by decide) rfl) (dd rfl) ?_
  refine o_val (v_load lone3 rfl (hX (by repeat constructor)) rfl) (dd rfl) ?_
  refine o_step (s_callf cl32 (num_con b v l k hk (by omega)) rfl (dd rfl) (pXs (by repeat constructor)) fun v1 _ => ?_)
  refine o_nil ?_
  refine c_seq ?_
  refine c_region ?_
  refine o_val (v_move rfl) (dd rfl) ?_
  refine o_val (v_fieldAddrC 1 Tryz.underlying58 rfl ti9 (by decide) rfl) (dd rfl) ?_
  refine o_val (v_load lone9 rfl (hX (by repeat constructor)) rfl) (dd rfl) ?_
  refine o_step (s_callf cl34 (text_con b v1 (l ++ numB k) n (by simp only [List.length_append]; omega)) rfl (dd rfl) (pXs (by repeat constructor)) fun v2 _ => ?_)
  refine o_nil ?_
  refine c_seq ?_
  refine c_region ?_
  refine o_val (v_move rfl) (dd rfl) ?_
  refine o_val (v_fieldAddrC 2 Tryz.underlying58 rfl ti9 (by decide) rfl) (dd rfl) ?_
  refine o_val (v_load lone9 rfl (hX (by repeat constructor)) rfl) (dd rfl) ?_
  refine o_step (s_callf cl34 (text_con b v2 (l ++ numB k ++ textB n) t (by simp only [List.length_append]; omega)) rfl (dd rfl) (pXs (by repeat constructor)) fun v3 _ => ?_)
  refine o_nil ?_
  refine c_seq ?_
  refine c_region ?_
  refine o_val (v_move rfl) (dd rfl) ?_
  refine o_val (v_fieldAddrC 3 Tryz.underlying58 rfl ti3 (by decide) rfl) (dd rfl) ?_
  refine o_val (v_load lone3 rfl (hX (by repeat constructor)) rfl) (dd rfl) ?_
  refine o_step (s_callf cl32 (num_con b v3 (l ++ numB k ++ textB n ++ textB t) a ha (by simp only [List.length_append]; omega)) rfl (dd rfl) (pXs (by repeat constructor)) fun v4 _ => ?_)
  refine o_nil ?_
  refine c_seq ?_
  refine c_region ?_
  refine o_val (v_move rfl) (dd rfl) ?_
  refine o_val (v_fieldAddrC 4 Tryz.underlying58 rfl ti28 (by decide) rfl) (dd rfl) ?_
  refine o_val (v_load lone28 rfl (hX (by repeat constructor)) rfl) (dd rfl) ?_
  refine o_step (s_callf cl35 (texts_con b v4 ov (l ++ numB k ++ textB n ++ textB t ++ numB a) o ho (by simp only [List.length_append]; omega)) rfl (dd rfl) (pXs (by repeat constructor)) fun v5 _ => ?_)
  refine o_nil ?_
  refine c_region ?_
  refine o_val (v_move rfl) (dd rfl) ?_
  refine o_val (v_fieldAddrC 5 Tryz.underlying58 rfl ti28 (by decide) rfl) (dd rfl) ?_
  refine o_val (v_load lone28 rfl (hX (by repeat constructor)) rfl) (dd rfl) ?_
  refine o_step (s_callf cl35 (texts_con b v5 wv (l ++ numB k ++ textB n ++ textB t ++ numB a ++ textsB o) z hw (by simp only [List.length_append]; omega)) rfl (dd rfl) (pXs (by repeat constructor)) fun v6 _ => ?_)
  refine o_nil ?_
  refine c_end0 Tryz.func36 rfl fun w O hS => ?_
  exact ⟨v6, rfl, trivial, by
    have e : l ++ primB (k, n, t, a, o, z) = l ++ numB k ++ textB n ++ textB t ++ numB a ++ textsB o ++ textsB z := by unfold primB; simp only [List.append_assoc]
    rw [e]; exact Ent.get hS (eX (by repeat constructor))⟩
set_option maxRecDepth 100000 in
theorem eachPrim_con (b : Nat) (v u : Value) (l : List UInt8) (xs : List Pr9) (hx : xs.length ≤ 140737488355328) (hc : ∀ p ∈ xs, CountP p) (hl : l.length + (primsB xs).length ≤ 100000000000000) : Con Tryz.prog 79 [ptr b, u, .func (.func 36) #[ptr b] #[]] [Blk b 27 [v], Own eByte 5 v l, G3, Sl ePr u xs] (γ := Value) (fun _ => .tuple #[]) (fun _ => True) (fun g => [Blk b 27 [g], Own eByte 5 g (l ++ primsB xs)]) := by
  unfold primsB at *
  refine con_of Tryz.func79 rfl (dd rfl) fun w0 O0 => ?_
  refine c_seq ?_
  refine c_region ?_
  refine o_val (v_move rfl) (dd rfl) ?_
  refine o_val (v_move rfl) (dd rfl) ?_
  refine o_val ((by first | exact v_len_form Tryz.underlying62 rfl | exact v_len_sl Tryz.underlying62 rfl (hX (by repeat constructor)))) (dd rfl) ?_
  have hnum : (manyB primB xs).length = (numB xs.length).length + ((xs.map primB).flatten).length := by unfold manyB; simp
  refine o_step (s_callf cl32 (num_con b v l xs.length (by omega) (by omega)) rfl (dd rfl) (pXs (by repeat constructor)) fun v1 _ => ?_)
  refine o_nil ?_
  refine c_seq ?_
  refine c_region ?_
  refine o_val (v_move rfl) (dd rfl) ?_
  refine o_val ((by first | exact v_len_form Tryz.underlying62 rfl | exact v_len_sl Tryz.underlying62 rfl (hX (by repeat constructor)))) (dd rfl) ?_
  refine o_val (v_move rfl) (dd rfl) ?_
  refine o_nil ?_
  refine c_block ?_
  rw [show l ++ numB xs.length = l ++ (numB xs.length ++ ((xs.take 0).map primB).flatten) by simp]
  refine c_loopR (γ := Nat × Value) [(2, _), (12, _), (13, _)] (fun g => xs.length - g.1) (fun g => g.1 ≤ xs.length) (fun g => [(14, .int .i64 g.1)]) (fun g => [Blk b 27 [g.2], Own eByte 5 g.2 (l ++ (numB xs.length ++ ((xs.take g.1).map primB).flatten)), G3, Sl ePr u xs]) ((0, v1)) (Nat.zero_le _) (by repeat (first | exact trivial | refine ⟨rfl, ?_⟩)) (eX (by repeat constructor)) ?_
  rintro ⟨k, r⟩ hk IH
  dsimp only at hk ⊢
  try dsimp only [List.cons_append, List.nil_append]
  refine c_seq ?_
  refine c_region ?_
  refine o_val (v_lt rfl rfl) (dd rfl) ?_
  refine o_nil ?_
  refine c_seq ?_
  refine c_cond_p rfl (fun hlt => ?_) (fun hlt => ?_)
  · have hk' : k < xs.length := by omega
    have hfp := flat_part primB hk'
    refine c_skip ?_
    refine c_seq ?_
    refine c_block ?_
    refine c_seq ?_
    refine c_region ?_
    refine o_val ((by first | exact v_indexAddrN Tryz.underlying62 ti58 rfl rfl (hX (by repeat constructor)) (by omega) | exact v_indexAddr Tryz.underlying62 ti58 rfl rfl (hX (by repeat constructor)) (by omega))) (dd rfl) ?_
    refine o_step (s_load_shape ⟨_, Tryz.underlying58⟩ ti58 rfl (dd rfl) (by repeat (first|exact el1 (by omega)|exact el2 (by omega)|exact el3 (by omega)|apply Elem.there)) (pr_open) (fun g => ?_))
    refine o_step (s_alloc ti58 (dd rfl) (fun b7 => ?_))
    refine o_step (s_store_all ti58 rfl rfl (by first | exact CellsV.lit rfl | exact CellsV.one (by first | exact OneC.lit rfl | exact OneC.sl (hX (by repeat constructor)) )) (by repeat (first | exact OneAll.nil | (refine OneAll.cons ?_ ?_; · first | exact OneC.lit rfl | exact OneC.sl (hX (by repeat constructor)) ) | exact OneAll.rd (hX (by repeat constructor)))) rfl (pB (by repeat constructor)) rfl (?_))
    refine o_nil ?_
    refine c_region ?_
    refine o_val (v_move rfl) (dd rfl) ?_
    refine o_val (v_load_all ⟨_, Tryz.underlying58⟩ ti58 rfl (hX (by repeat constructor)) rfl) (dd rfl) ?_
    refine o_step (s_call cl36 (prim_con b r g.1 g.2 (l ++ (numB xs.length ++ ((xs.take k).map primB).flatten)) xs[k] (hc _ (List.getElem_mem hk')) (by simp only [List.length_append]; omega)) (first := [ptr b]) (cap := []) rfl rfl (by rfl) (dd rfl) (pXs (by repeat constructor)) fun v2 _ => ?_)
    refine o_nil ?_
    refine c_inBlock ?_
    refine c_region ?_
    refine o_val ((by first | exact v_add64 rfl rfl (by omega) | exact v_add rfl rfl)) (dd rfl) ?_
    refine o_val (v_move rfl) (dd rfl) ?_
    refine o_nil ?_
    rw [List.append_assoc, List.append_assoc, ← flat_next primB hk']
    refine c_use (IH ((k + 1, v2)) (by first | omega | (dsimp only; omega)) (by dsimp only; omega)) (by repeat (first | exact trivial | refine ⟨rfl, ?_⟩)) (eX (by repeat constructor))
  · have hke : k = xs.length := by omega
    refine c_exit rfl ?_
    refine c_end0 Tryz.func79 rfl fun w O hS => ?_
    exact ⟨r, rfl, trivial, by unfold manyB; rw [hke, List.take_length] at hS; exact Ent.get hS (eX (by repeat constructor))⟩
set_option maxRecDepth 100000 in
theorem prims_con (b : Nat) (v u : Value) (l : List UInt8) (xs : List Pr9) (hx : xs.length ≤ 140737488355328) (hc : ∀ p ∈ xs, CountP p) (hl : l.length + (primsB xs).length ≤ 100000000000000) : Con Tryz.prog 37 [ptr b, u] [Blk b 27 [v], Own eByte 5 v l, G3, Sl ePr u xs] (γ := Value) (fun _ => .tuple #[]) (fun _ => True) (fun g => [Blk b 27 [g], Own eByte 5 g (l ++ primsB xs)]) := by
  have hE := eachPrim_con b v u l xs hx hc hl
  refine con_of Tryz.func37 rfl (dd rfl) fun w0 O0 => ?_
  refine c_region ?_
  refine o_val (v_move rfl) (dd rfl) ?_
  refine o_val (v_move rfl) (dd rfl) ?_
  refine o_val (v_move rfl) (dd rfl) ?_
  refine o_val (v_makeFunc rfl rfl) (dd rfl) ?_
  refine o_step (s_callf cl79 (hE) rfl (dd rfl) (pXs (by repeat constructor)) fun v1 _ => ?_)
  refine o_nil ?_
  refine c_end0 Tryz.func37 rfl fun w O hS => ?_
  exact ⟨v1, rfl, trivial, Ent.get hS (eX (by repeat constructor))⟩
set_option maxRecDepth 100000 in
theorem eachNum_con (b : Nat) (v u : Value) (l : List UInt8) (xs : List Int) (hx : xs.length ≤ 140737488355328) (hc : ∀ n ∈ xs, -9223372036854775808 ≤ n ∧ n ≤ 9223372036854775807) (hl : l.length + (manyB numB xs).length ≤ 100000000000000) : Con Tryz.prog 80 [ptr b, u, .func (.func 32) #[ptr b] #[]] [Blk b 27 [v], Own eByte 5 v l, G3, Sl (eInt .i64) u xs] (γ := Value) (fun _ => .tuple #[]) (fun _ => True) (fun g => [Blk b 27 [g], Own eByte 5 g (l ++ manyB numB xs)]) := by
  refine con_of Tryz.func80 rfl (dd rfl) fun w0 O0 => ?_
  refine c_seq ?_
  refine c_region ?_
  refine o_val (v_move rfl) (dd rfl) ?_
  refine o_val (v_move rfl) (dd rfl) ?_
  refine o_val ((by first | exact v_len_form Tryz.underlying32 rfl | exact v_len_sl Tryz.underlying32 rfl (hX (by repeat constructor)))) (dd rfl) ?_
  have hnum : (manyB numB xs).length = (numB xs.length).length + ((xs.map numB).flatten).length := by unfold manyB; simp
  refine o_step (s_callf cl32 (num_con b v l xs.length (by omega) (by omega)) rfl (dd rfl) (pXs (by repeat constructor)) fun v1 _ => ?_)
  refine o_nil ?_
  refine c_seq ?_
  refine c_region ?_
  refine o_val (v_move rfl) (dd rfl) ?_
  refine o_val ((by first | exact v_len_form Tryz.underlying32 rfl | exact v_len_sl Tryz.underlying32 rfl (hX (by repeat constructor)))) (dd rfl) ?_
  refine o_val (v_move rfl) (dd rfl) ?_
  refine o_nil ?_
  refine c_block ?_
  rw [show l ++ numB xs.length = l ++ (numB xs.length ++ ((xs.take 0).map numB).flatten) by simp]
  refine c_loopR (γ := Nat × Value) [(2, _), (12, _), (13, _)] (fun g => xs.length - g.1) (fun g => g.1 ≤ xs.length) (fun g => [(14, .int .i64 g.1)]) (fun g => [Blk b 27 [g.2], Own eByte 5 g.2 (l ++ (numB xs.length ++ ((xs.take g.1).map numB).flatten)), G3, Sl (eInt .i64) u xs]) ((0, v1)) (Nat.zero_le _) (by repeat (first | exact trivial | refine ⟨rfl, ?_⟩)) (eX (by repeat constructor)) ?_
  rintro ⟨k, r⟩ hk IH
  dsimp only at hk ⊢
  try dsimp only [List.cons_append, List.nil_append]
  refine c_seq ?_
  refine c_region ?_
  refine o_val (v_lt rfl rfl) (dd rfl) ?_
  refine o_nil ?_
  refine c_seq ?_
  refine c_cond_p rfl (fun hlt => ?_) (fun hlt => ?_)
  · have hk' : k < xs.length := by omega
    have hfp := flat_part numB hk'
    refine c_skip ?_
    refine c_seq ?_
    refine c_block ?_
    refine c_seq ?_
    refine c_region ?_
    refine o_val ((by first | exact v_indexAddrN Tryz.underlying32 ti3 rfl rfl (hX (by repeat constructor)) (by omega) | exact v_indexAddr Tryz.underlying32 ti3 rfl rfl (hX (by repeat constructor)) (by omega))) (dd rfl) ?_
    refine o_val (v_load_int lone3 rfl (by repeat (first | exact Elem.sl (List.getElem?_eq_getElem (by omega)) | exact Elem.own (List.getElem?_eq_getElem (by omega)) | exact Elem.ownO (List.getElem?_eq_getElem (by omega)) | apply Elem.there))) (dd rfl) ?_
    refine o_val (v_assign rfl) (dd rfl) ?_
    refine o_nil ?_
    refine c_region ?_
    refine o_val (v_move rfl) (dd rfl) ?_
    refine o_val (v_move rfl) (dd rfl) ?_
    refine o_step (s_call cl32 (num_con b r (l ++ (numB xs.length ++ ((xs.take k).map numB).flatten)) xs[k] (hc _ (List.getElem_mem hk')) (by simp only [List.length_append]; omega)) (first := [ptr b]) (cap := []) rfl rfl (by rfl) (dd rfl) (pXs (by repeat constructor)) fun v2 _ => ?_)
    refine o_nil ?_
    refine c_inBlock ?_
    refine c_region ?_
    refine o_val ((by first | exact v_add64 rfl rfl (by omega) | exact v_add rfl rfl)) (dd rfl) ?_
    refine o_val (v_move rfl) (dd rfl) ?_
    refine o_nil ?_
    rw [List.append_assoc, List.append_assoc, ← flat_next numB hk']
    refine c_use (IH ((k + 1, v2)) (by first | omega | (dsimp only; omega)) (by dsimp only; omega)) (by repeat (first | exact trivial | refine ⟨rfl, ?_⟩)) (eX (by repeat constructor))
  · have hke : k = xs.length := by omega
    refine c_exit rfl ?_
    refine c_end0 Tryz.func80 rfl fun w O hS => ?_
    exact ⟨r, rfl, trivial, by unfold manyB; rw [hke, List.take_length] at hS; exact Ent.get hS (eX (by repeat constructor))⟩
/-- Patches that can be counted. -/
def CountT (p : Pt9) : Prop := (-9223372036854775808 ≤ p.1 ∧ p.1 ≤ 9223372036854775807) ∧ (p.2.2.1.length ≤ 140737488355328 ∧ ∀ n ∈ p.2.2.1, -9223372036854775808 ≤ n ∧ n ≤ 9223372036854775807) ∧ p.2.2.2.length ≤ 140737488355328 ∧ ∀ q ∈ p.2.2.2, CountP q
set_option maxRecDepth 100000 in
theorem patch_con (b : Nat) (v dv lv : Value) (l : List UInt8) (p : Pt9) (hp : CountT p) (hl : l.length + (patchB p).length ≤ 100000000000000) : Con Tryz.prog 38 [ptr b, .agg #[.int .i64 p.1, .string p.2.1, dv, lv]] [Blk b 27 [v], Own eByte 5 v l, G3, Sl (eInt .i64) dv p.2.2.1, Sl ePr lv p.2.2.2] (γ := Value) (fun _ => .tuple #[]) (fun _ => True) (fun g => [Blk b 27 [g], Own eByte 5 g (l ++ patchB p)]) := by
  obtain ⟨id, t, d, q⟩ := p
  obtain ⟨hi, ⟨hd, hde⟩, hq, hqe⟩ := hp
  dsimp only at hi hd hde hq hqe ⊢
  have hle : (patchB (id, t, d, q)).length = (numB id).length + (textB t).length + (manyB numB d).length + (primsB q).length := by unfold patchB; simp only [List.length_append]
  refine con_of Tryz.func38 rfl (dd rfl) fun w0 O0 => ?_
  refine c_seq ?_
  refine c_region ?_
  refine o_step (s_box rfl (dd rfl) (fun b3 => ?_))
  refine o_nil ?_
  refine c_seq ?_
  refine c_region ?_
  refine o_val (v_move rfl) (dd rfl) ?_
  refine o_val (v_fieldAddrC 0 Tryz.underlying67 rfl ti3 (by decide) rfl) (dd rfl) ?_
  refine o_val (v_load lone3 rfl (hX (by repeat constructor)) rfl) (dd rfl) ?_
  refine o_step (s_callf cl32 (num_con b v l id hi (by omega)) rfl (dd rfl) (pXs (by repeat constructor)) fun v1 _ => ?_)
  refine o_nil ?_
  refine c_seq ?_
  refine c_region ?_
  refine o_val (v_move rfl) (dd rfl) ?_
  refine o_val (v_fieldAddrC 1 Tryz.underlying67 rfl ti9 (by decide) rfl) (dd rfl) ?_
  refine o_val (v_load lone9 rfl (hX (by repeat constructor)) rfl) (dd rfl) ?_
  refine o_step (s_callf cl34 (text_con b v1 (l ++ numB id) t (by simp only [List.length_append]; omega)) rfl (dd rfl) (pXs (by repeat constructor)) fun v2 _ => ?_)
  refine o_nil ?_
  refine c_seq ?_
  refine c_region ?_
  refine o_val (v_move rfl) (dd rfl) ?_
  refine o_val (v_fieldAddrC 2 Tryz.underlying67 rfl ti32 (by decide) rfl) (dd rfl) ?_
  refine o_val (v_load lone32 rfl (hX (by repeat constructor)) rfl) (dd rfl) ?_
  refine o_val (v_move rfl) (dd rfl) ?_
  refine o_val (v_makeFunc rfl rfl) (dd rfl) ?_
  refine o_step (s_callf cl80 (eachNum_con b v2 dv (l ++ numB id ++ textB t) d hd hde (by simp only [List.length_append]; omega)) rfl (dd rfl) (pXs (by repeat constructor)) fun v3 _ => ?_)
  refine o_nil ?_
  refine c_region ?_
  refine o_val (v_move rfl) (dd rfl) ?_
  refine o_val (v_fieldAddrC 3 Tryz.underlying67 rfl ti62 (by decide) rfl) (dd rfl) ?_
  refine o_val (v_load lone62 rfl (hX (by repeat constructor)) rfl) (dd rfl) ?_
  refine o_step (s_callf cl37 (prims_con b v3 lv (l ++ numB id ++ textB t ++ manyB numB d) q hq hqe (by simp only [List.length_append]; omega)) rfl (dd rfl) (pXs (by repeat constructor)) fun v4 _ => ?_)
  refine o_nil ?_
  refine c_end0 Tryz.func38 rfl fun w O hS => ?_
  exact ⟨v4, rfl, trivial, by
    have e : l ++ patchB (id, t, d, q) = l ++ numB id ++ textB t ++ manyB numB d ++ primsB q := by unfold patchB; simp only [List.append_assoc]
    rw [e]; exact Ent.get hS (eX (by repeat constructor))⟩
end Go.Proofs.YtmgkeippepeggaaGreatDoor
/- Chapter 09: the program's reader: bytes, a number. -/
namespace Go.Proofs.YtmgkeippepeggaaGreatDoor
open Go Go.SL Go.Lib
theorem find_index (e : UInt8) : ∀ l : List UInt8, indexByte l e = match l.findIdx? (· == e) with | some k => (k : Int) | none => -1
  | [] => rfl
  | b :: l => by
    rw [indexByte, List.findIdx?_cons]
    by_cases h : b = e
    · subst h; simp
    · have hb : (b == e) = false := by simpa using h
      rw [hb, find_index e l]
      cases l.findIdx? (· == e) with
      | none => rfl
      | some k =>
        simp only [Option.map_some, Bool.false_eq_true, if_false]
        rw [if_neg (by intro q; have := beq_iff_eq.1 q; omega)]
        show (k : Int) + 1 = ((k + 1 : Nat) : Int)
        omega
def nm9 (e : UInt8) (s : St9) : Int × Nat := (num9 e s).getD (0, 0)
theorem nm_bad {e : UInt8} {s : St9} {k : Int} (hk : k = indexByte (s.1.take 15) e) (h : k < 1 ∨ s.2 = true) : nm9 e s = (0, 0) := by
  unfold nm9 num9
  split
  · rfl
  · rename_i hb
    have h1 : k < 1 := h.resolve_right hb
    rw [hk, find_index] at h1
    unfold numberR
    split
    · rename_i j hj
      rw [hj] at h1
      have h2 : (j : Int) < 1 := h1
      have hj0 : j = 0 := by omega
      subst hj0; rfl
    · rfl
theorem nm_good {e : UInt8} {s : St9} {k : Int} (hk : k = indexByte (s.1.take 15) e) (h : ¬ (k < 1 ∨ s.2 = true)) : k.toNat ≤ 14 ∧ k.toNat ≤ s.1.length ∧ nm9 e s = match atoi (s.1.take k.toNat) with | some n => if itoa n = s.1.take k.toNat then (n, k.toNat + 1) else (0, 0) | none => (0, 0) := by
  have hb : s.2 = false := by cases q : s.2 with | false => rfl | true => exact absurd (.inr q) h
  have h1 : ¬ k < 1 := fun q => h (.inl q)
  rw [find_index] at hk
  cases hf : (s.1.take 15).findIdx? (· == e) with
  | none => rw [hf] at hk; dsimp only at hk; omega
  | some j =>
    rw [hf] at hk
    dsimp only at hk
    obtain ⟨hj, _, _⟩ := List.findIdx?_eq_some_iff_getElem.1 hf
    rw [List.length_take] at hj
    have e1 : k.toNat = j := by omega
    refine ⟨by omega, by omega, ?_⟩
    unfold nm9 num9 numberR
    rw [hb, if_neg (by decide), hf, e1]
    dsimp only
    rw [if_neg (by omega), numS_atoi]
    cases atoi (s.1.take j) with
    | none => rfl
    | some n =>
      simp only [Option.bind_some]
      split <;> rfl
attribute [local irreducible] Cfg Kont StepK Val Con Qops Any Sl Own Blk BlkR Rd Pu ExA AllA Has Pick Ent Elem Beside Callable TI Lone OwnO AndA
set_option maxRecDepth 100000 in
theorem number_con (i : Nat) (bv : Value) (s : St9) (e : UInt8) (te : TypeId) (pe : Value) : Con Tryz.prog 53 [ptr i, .int .u8 e.toNat] [BlkR i 92 [bv, .bool s.2], Sl eByte bv s.1, G1 te pe, G3] (γ := Unit) (fun _ => .tuple #[.int .i64 (nm9 e s).1, .int .i64 (nm9 e s).2]) (fun _ => True) (fun _ => []) := by
  refine Con.form (v := bv) (xs := s.1) (hX (by repeat constructor)) ?_
  rintro a0 c0 rfl hc0 hm0
  obtain ⟨k, hk⟩ : ∃ k, k = indexByte (s.1.take 15) e := ⟨_, rfl⟩
  have hI := fun v => indexByte_con v (s.1.take 15) e
  have ht : (List.take (min (s.1.length : Int) 15).toNat s.1).drop 0 = s.1.take 15 := by
    rw [List.drop_zero]
    by_cases h : s.1.length ≤ 15
    · rw [List.take_of_length_le (by omega), List.take_of_length_le h]
    · rw [show (min (s.1.length : Int) 15).toNat = 15 by omega]
  refine con_of Tryz.func53 rfl (dd rfl) fun w0 O0 => ?_
  refine c_seq ?_
  refine c_region ?_
  refine o_val (v_assign rfl) (dd rfl) ?_
  refine o_val (v_assign rfl) (dd rfl) ?_
  refine o_nil ?_
  refine c_seq ?_
  refine c_quiet rfl (by kernel_rfl) ?_
  refine q_val (v_move rfl) (dd rfl) ?_
  refine q_val (v_nilCheck rfl) (dd rfl) ?_
  refine q_val (v_fieldAddrC 0 Tryz.underlying92 rfl ti25 (by decide) rfl) (dd rfl) ?_
  refine q_val (v_load lone25 rfl (hX (by repeat constructor)) rfl) (dd rfl) ?_
  refine q_val (v_move rfl) (dd rfl) ?_
  refine q_val (v_nilCheck rfl) (dd rfl) ?_
  refine q_val (v_fieldAddrC 0 Tryz.underlying92 rfl ti25 (by decide) rfl) (dd rfl) ?_
  refine q_val (v_load lone25 rfl (hX (by repeat constructor)) rfl) (dd rfl) ?_
  refine q_val ((by first | exact v_len_form Tryz.underlying25 rfl | exact v_len_sl Tryz.underlying25 rfl (hX (by repeat constructor)))) (dd rfl) ?_
  refine q_val (v_min rfl rfl) (dd rfl) ?_
  refine q_slice Tryz.underlying25 ti5 rfl (pX (by repeat constructor)) (.inl ⟨rfl, rfl⟩) (.inr ⟨_, _, _, rfl, rfl, by omega, rfl⟩) (.inl ⟨rfl, rfl⟩) (by omega) (by first | omega | exact Nat.le_refl _) (by omega) (by omega) (dd rfl) (eX (by repeat constructor)) ?_
  refine q_val (v_move rfl) (dd rfl) ?_
  rw [ht]
  rw [← hk] at hI
  refine q_call_keep cl85 (hI _) rfl (first := []) (cap := []) (fun _ _ => rfl) rfl rfl (dd rfl) (rX (by repeat constructor)) ?_
  refine q_val (v_assign rfl) (dd rfl) ?_
  refine q_nil ?_
  refine c_seq ?_
  refine c_seq ?_
  refine c_env (env' := [(0, _), (4, _), (5, _), (6, _)]) (by repeat (first | exact trivial | refine ⟨rfl, ?_⟩)) ?_
  refine c_joinb (d := 28) (decide (k < 1 ∨ s.2 = true)) ?_ ?_
  rotate_left
  · intro J
    refine c_region ?_
    refine o_val (v_move rfl) (dd rfl) ?_
    refine o_val (v_lt rfl rfl) (dd rfl) ?_
    refine o_val (v_move rfl) (dd rfl) ?_
    first | refine o_guard_f rfl rfl (fun g23 => ?_) (fun g23 => ?_) | refine o_guard rfl rfl (fun g23 => ?_) (fun g23 => ?_)
    · refine o_val (v_move rfl) (dd rfl) ?_
      refine o_on rfl rfl ?_
      refine o_val (v_nilCheck rfl) (dd rfl) ?_
      refine o_on rfl rfl ?_
      refine o_val (v_fieldAddrC 1 Tryz.underlying92 rfl ti4 (by decide) rfl) (dd rfl) ?_
      refine o_on rfl rfl ?_
      refine o_val (v_load lone4 rfl (hX (by repeat constructor)) rfl) (dd rfl) ?_
      refine o_val (v_pick_f rfl rfl) (dd rfl) ?_
      refine o_nil ?_
      exact c_use J ⟨Env.as rfl (congrArg Value.bool (by first | rfl | (simp_all; done) | (simp_all; omega) | (simp; omega))), (by repeat (first | exact trivial | refine ⟨rfl, ?_⟩))⟩ (by first | exact Ent.refl _ | exact eX (by repeat constructor))
    · refine o_off rfl rfl rfl (dd rfl) ?_
      refine o_off rfl rfl rfl (dd rfl) ?_
      refine o_off rfl rfl rfl (dd rfl) ?_
      refine o_off rfl rfl rfl (dd rfl) ?_
      refine o_val (v_pick_t rfl rfl) (dd rfl) ?_
      refine o_nil ?_
      exact c_use J ⟨Env.as rfl (congrArg Value.bool (by first | rfl | (simp_all; done) | (simp_all; omega) | (simp; omega))), (by repeat (first | exact trivial | refine ⟨rfl, ?_⟩))⟩ (by first | exact Ent.refl _ | exact eX (by repeat constructor))
  refine c_cond_p rfl (fun hb => ?_) (fun hb => ?_)
  · have hno := nm_bad hk hb
    refine c_seq ?_
    refine c_region ?_
    refine o_val (v_assign rfl) (dd rfl) ?_
    refine o_val (v_assign rfl) (dd rfl) ?_
    refine o_nil ?_
    refine c_ret2 Tryz.func53 rfl rfl rfl fun w O hS => ?_
    exact ⟨(), by rw [hno]; rfl, trivial, trivial⟩
  · obtain ⟨hk14, hkl, hnm⟩ := nm_good hk hb
    have hA := atoi_con (s.1.take k.toNat) te pe (by rw [List.length_take]; omega)
    refine c_skip ?_
    refine c_seq ?_
    refine c_region ?_
    refine o_val (v_move rfl) (dd rfl) ?_
    refine o_val (v_nilCheck rfl) (dd rfl) ?_
    refine o_val (v_fieldAddrC 0 Tryz.underlying92 rfl ti25 (by decide) rfl) (dd rfl) ?_
    refine o_val (v_load lone25 rfl (hX (by repeat constructor)) rfl) (dd rfl) ?_
    refine o_val (v_move rfl) (dd rfl) ?_
    refine o_step (s_slice Tryz.underlying25 ti5 rfl (pX (by repeat constructor)) rfl (.inl ⟨rfl, rfl⟩) (.inr ⟨_, _, _, rfl, rfl, by omega, rfl⟩) (by omega) (by omega) (dd rfl) fun z => ?_)
    refine o_val (v_conv_bytes Tryz.underlying25 Tryz.underlying5 Tryz.underlying9 rfl (hX (by repeat constructor))) (dd rfl) ?_
    rw [List.drop_zero]
    refine o_step (s_callf_keep cl86 (hA) rfl (dd rfl) (rX (by repeat constructor)) (fun _ => sX) (fun g hg => ?_))
    refine o_val (v_move rfl) (dd rfl) ?_
    refine o_val (v_extract rfl rfl) (dd rfl) ?_
    refine o_val (v_extract rfl rfl) (dd rfl) ?_
    refine o_val (v_assign rfl) (dd rfl) ?_
    refine o_val (v_assign rfl) (dd rfl) ?_
    refine o_nil ?_
    refine c_seq ?_
    refine c_seq ?_
    obtain ⟨n, ev⟩ := g
    dsimp only at hg ⊢
    rcases hg with ⟨ha, rfl⟩ | ⟨ha, tp, p, rfl⟩
    · have hbd := atoi_bound ha (by rw [List.length_take]; omega)
      have hit := itoa_con n (by omega)
      refine c_quiet rfl (by kernel_rfl) ?_
      refine q_val (v_move rfl) (dd rfl) ?_
      refine q_val (v_ne_nilI Tryz.underlying129 rfl) (dd rfl) ?_
      refine q_val (v_move rfl) (dd rfl) ?_
      refine q_on rfl rfl ?_
      refine q_val (v_move rfl) (dd rfl) ?_
      refine q_on rfl rfl ?_
      refine q_call_keep cl87 (hit) rfl (first := []) (cap := []) (fun _ _ => rfl) rfl rfl (dd rfl) (rX (by repeat constructor)) ?_
      refine q_on rfl rfl ?_
      refine q_val (v_move rfl) (dd rfl) ?_
      refine q_on rfl rfl ?_
      refine q_val (v_nilCheck rfl) (dd rfl) ?_
      refine q_on rfl rfl ?_
      refine q_val (v_fieldAddrC 0 Tryz.underlying92 rfl ti25 (by decide) rfl) (dd rfl) ?_
      refine q_on rfl rfl ?_
      refine q_val (v_load lone25 rfl (hX (by repeat constructor)) rfl) (dd rfl) ?_
      refine q_on rfl rfl ?_
      refine q_val (v_move rfl) (dd rfl) ?_
      refine q_on rfl rfl ?_
      refine q_slice Tryz.underlying25 ti5 rfl (pX (by repeat constructor)) (.inl ⟨rfl, rfl⟩) (.inr ⟨_, _, _, rfl, rfl, by omega, rfl⟩) (.inl ⟨rfl, rfl⟩) (by omega) (by first | omega | exact Nat.le_refl _) (by omega) (by omega) (dd rfl) (eX (by repeat constructor)) ?_
      refine q_on rfl rfl ?_
      refine q_val (v_conv_bytes Tryz.underlying25 Tryz.underlying5 Tryz.underlying9 rfl (hX (by repeat constructor))) (dd rfl) ?_
      refine q_on rfl rfl ?_
      refine q_val (v_sne rfl rfl) (dd rfl) ?_
      refine q_val (v_pick_f rfl rfl) (dd rfl) ?_
      refine q_nil ?_
      rw [List.drop_zero]
      refine c_cond_p rfl (fun hs => ?_) (fun hs => ?_)
      · have hs2 : ¬ itoa n = s.1.take k.toNat := fun q => hs (congrArg sB q)
        refine c_seq ?_
        refine c_region ?_
        refine o_val (v_assign rfl) (dd rfl) ?_
        refine o_val (v_assign rfl) (dd rfl) ?_
        refine o_nil ?_
        refine c_ret2 Tryz.func53 rfl rfl rfl fun w O hS => ?_
        exact ⟨(), by rw [hnm, ha]; dsimp only; rw [if_neg hs2]; rfl, trivial, trivial⟩
      · have hs2 : itoa n = s.1.take k.toNat := sB_inj (Classical.not_not.1 hs)
        refine c_skip ?_
        refine c_seq ?_
        refine c_region ?_
        refine o_val (v_move rfl) (dd rfl) ?_
        refine o_val (v_move rfl) (dd rfl) ?_
        refine o_val ((by first | exact v_add64 rfl rfl (by omega) | exact v_add rfl rfl)) (dd rfl) ?_
        refine o_val (v_assign rfl) (dd rfl) ?_
        refine o_val (v_assign rfl) (dd rfl) ?_
        refine o_nil ?_
        refine c_ret2 Tryz.func53 rfl rfl rfl fun w O hS => ?_
        exact ⟨(), by rw [hnm, ha]; dsimp only; rw [if_pos hs2]; show _ = Value.tuple #[.int .i64 n, .int .i64 ((k.toNat + 1 : Nat) : Int)]; rw [show ((k.toNat + 1 : Nat) : Int) = k + 1 by omega]; rfl, trivial, trivial⟩
    · skip
      refine c_quiet rfl (by kernel_rfl) ?_
      refine q_val (v_move rfl) (dd rfl) ?_
      refine q_val (v_ne_iface Tryz.underlying129 rfl) (dd rfl) ?_
      refine q_val (v_move rfl) (dd rfl) ?_
      refine q_off rfl rfl rfl (dd rfl) ?_
      refine q_off rfl rfl rfl (dd rfl) ?_
      refine q_off rfl rfl rfl (dd rfl) ?_
      refine q_off rfl rfl rfl (dd rfl) ?_
      refine q_off rfl rfl rfl (dd rfl) ?_
      refine q_off rfl rfl rfl (dd rfl) ?_
      refine q_off rfl rfl rfl (dd rfl) ?_
      refine q_off rfl rfl rfl (dd rfl) ?_
      refine q_off rfl rfl rfl (dd rfl) ?_
      refine q_off rfl rfl rfl (dd rfl) ?_
      refine q_val (v_pick_t rfl rfl) (dd rfl) ?_
      refine q_nil ?_
      refine c_cond_t rfl ?_
      refine c_seq ?_
      refine c_region ?_
      refine o_val (v_assign rfl) (dd rfl) ?_
      refine o_val (v_assign rfl) (dd rfl) ?_
      refine o_nil ?_
      refine c_ret2 Tryz.func53 rfl rfl rfl fun w O hS => ?_
      exact ⟨(), by rw [hnm, ha]; rfl, trivial, trivial⟩
set_option maxRecDepth 100000 in
theorem cloneB_con (v : Value) (xs : List UInt8) (hx : xs.length ≤ 140737488355000) : Con Tryz.prog 52 [v] [Sl eByte v xs] (γ := Value) (fun r => r) (fun _ => True) (fun r => [Own eByte 5 r xs]) := by
  refine Con.form (v := v) (xs := xs) (hX (by repeat constructor)) ?_
  rintro a0 c0 rfl hc0 -
  refine con_of Tryz.func52 rfl (dd rfl) fun w0 O0 => ?_
  refine c_seq ?_
  refine c_region ?_
  refine o_val (v_assign rfl) (dd rfl) ?_
  refine o_nil ?_
  refine c_seq ?_
  refine c_seq ?_
  refine c_region ?_
  refine o_val (v_move rfl) (dd rfl) ?_
  refine o_val (v_eq_sl_nil Tryz.underlying25 rfl rfl) (dd rfl) ?_
  refine o_nil ?_
  refine c_cond rfl (fun h => ?_) (fun h => ?_)
  · refine c_seq ?_
    refine c_region ?_
    refine o_val (v_assign rfl) (dd rfl) ?_
    refine o_nil ?_
    refine c_ret1 Tryz.func52 rfl rfl fun w O hS => ?_
    have : xs = [] := by
      cases a0 with
      | none => obtain ⟨_, _, _, h1, _⟩ := hS; exact Sl.none_nil h1
      | some _ => cases h
    subst this
    exact ⟨.slice none 0 0, rfl, trivial, stars_own_nil⟩
  · refine c_skip ?_
    refine c_seq ?_
    refine c_region ?_
    refine o_step (s_buildSlice Tryz.underlying25 ti5 rfl rfl rfl (by decide) (by decide) (beside_byte []) rfl rfl (dd rfl) fun v1 => ?_)
    refine o_val (v_move rfl) (dd rfl) ?_
    refine o_step (s_append Tryz.underlying25 ti5 rfl (by decide) rfl rfl (dd rfl) (pB (by repeat constructor)) (pX (by repeat constructor)) rfl (by (first | omega | (simp only [maxLen, List.length_append, List.length_drop, List.length_take, List.length_nil, List.length_cons]; omega))) (by (first | omega | (simp only [maxLen, List.length_append, List.length_drop, List.length_take, List.length_nil, List.length_cons]; omega))) fun v2 => ?_)
    refine o_val (v_assign rfl) (dd rfl) ?_
    refine o_nil ?_
    refine c_ret1 Tryz.func52 rfl rfl fun w O hS => ?_
    exact ⟨v2, rfl, trivial, Ent.get hS (eX (by repeat constructor))⟩
set_option maxRecDepth 100000 in
theorem bytes_con (b : Nat) (v : Value) (l : List UInt8) (hl : l.length ≤ 140737488355000) : Con Tryz.prog 12 [ptr b] [BlkR b 27 [v], Sl eByte v l] (γ := Value) (fun r => r) (fun _ => True) (fun r => [Own eByte 5 r l]) := by
  have hC := cloneB_con v l hl
  refine con_of Tryz.func12 rfl (dd rfl) fun w0 O0 => ?_
  refine c_seq ?_
  refine c_region ?_
  refine o_val (v_assign rfl) (dd rfl) ?_
  refine o_nil ?_
  refine c_seq ?_
  refine c_region ?_
  refine o_val (v_move rfl) (dd rfl) ?_
  refine o_val (v_nilCheck rfl) (dd rfl) ?_
  refine o_val (v_fieldAddrC 0 Tryz.underlying27 rfl ti25 (by decide) rfl) (dd rfl) ?_
  refine o_val (v_load lone25 rfl (hX (by repeat constructor)) rfl) (dd rfl) ?_
  refine o_step (s_callf cl52 (hC) rfl (dd rfl) (pXs (by repeat constructor)) fun r _ => ?_)
  refine o_val (v_assign rfl) (dd rfl) ?_
  refine o_nil ?_
  refine c_ret1 Tryz.func12 rfl rfl fun w O hS => ?_
  exact ⟨r, rfl, trivial, Ent.get hS (eX (by repeat constructor))⟩
set_option maxRecDepth 100000 in
theorem of_con (v : Value) (l : List UInt8) (hl : l.length ≤ 140737488355000) : Con Tryz.prog 13 [v] [Sl eByte v l] (γ := Nat × Value) (fun g => ptr g.1) (fun _ => True) (fun g => [Blk g.1 92 [g.2, .bool false], Sl eByte g.2 l]) := by
  have hC := cloneB_con v l hl
  refine con_of Tryz.func13 rfl (dd rfl) fun w0 O0 => ?_
  refine c_seq ?_
  refine c_region ?_
  refine o_val (v_assign rfl) (dd rfl) ?_
  refine o_nil ?_
  refine c_seq ?_
  refine c_region ?_
  refine o_val (v_move rfl) (dd rfl) ?_
  refine o_step (s_callf cl52 (hC) rfl (dd rfl) (pXs (by repeat constructor)) fun r _ => ?_)
  refine o_val (v_buildS (places := [(0, 1), (1, 1)]) (cells := [_, .bool false]) Tryz.underlying92 ti92 (by kernel_rfl) rfl (by repeat (first | exact PartsC.nil | (apply PartsC.one (by first | exact OneC.lit rfl | exact OneC.sl (hX (by repeat constructor)) )) | (apply PartsC.lit rfl))) rfl) (dd rfl) ?_
  refine o_step (s_box rfl (dd rfl) (fun b6 => ?_))
  refine o_val (v_assign rfl) (dd rfl) ?_
  refine o_nil ?_
  refine c_ret1 Tryz.func13 rfl rfl fun w O hS => ?_
  exact ⟨(b6, r), rfl, trivial, Ent.get hS (eX (by repeat constructor))⟩
set_option maxRecDepth 100000 in
theorem left_con (i : Nat) (bv : Value) (s : St9) : Con Tryz.prog 18 [ptr i] [BlkR i 92 [bv, .bool s.2], Sl eByte bv s.1] (γ := Unit) (fun _ => .int .i64 s.1.length) (fun _ => True) (fun _ => []) := by
  refine con_of Tryz.func18 rfl (dd rfl) fun w0 O0 => ?_
  refine c_seq ?_
  refine c_region ?_
  refine o_val (v_assign rfl) (dd rfl) ?_
  refine o_nil ?_
  refine c_seq ?_
  refine c_region ?_
  refine o_val (v_move rfl) (dd rfl) ?_
  refine o_val (v_nilCheck rfl) (dd rfl) ?_
  refine o_val (v_fieldAddrC 0 Tryz.underlying92 rfl ti25 (by decide) rfl) (dd rfl) ?_
  refine o_val (v_load lone25 rfl (hX (by repeat constructor)) rfl) (dd rfl) ?_
  refine o_val ((by first | exact v_len_form Tryz.underlying25 rfl | exact v_len_sl Tryz.underlying25 rfl (hX (by repeat constructor)))) (dd rfl) ?_
  refine o_val (v_assign rfl) (dd rfl) ?_
  refine o_nil ?_
  refine c_ret1 Tryz.func18 rfl rfl fun w O hS => ?_
  exact ⟨(), rfl, trivial, trivial⟩
set_option maxRecDepth 100000 in
theorem done_con (i : Nat) (bv : Value) (s : St9) : Con Tryz.prog 20 [ptr i] [BlkR i 92 [bv, .bool s.2], Sl eByte bv s.1] (γ := Unit) (fun _ => .bool (decide (s = ([], false)))) (fun _ => True) (fun _ => []) := by
  obtain ⟨l, b⟩ := s
  dsimp only
  refine con_of Tryz.func20 rfl (dd rfl) fun w0 O0 => ?_
  refine c_seq ?_
  refine c_region ?_
  refine o_val (v_assign rfl) (dd rfl) ?_
  refine o_nil ?_
  refine c_seq ?_
  refine c_region ?_
  refine o_val (v_move rfl) (dd rfl) ?_
  refine o_val (v_nilCheck rfl) (dd rfl) ?_
  refine o_val (v_fieldAddrC 1 Tryz.underlying92 rfl ti4 (by decide) rfl) (dd rfl) ?_
  refine o_val (v_load lone4 rfl (hX (by repeat constructor)) rfl) (dd rfl) ?_
  refine o_val (v_not rfl) (dd rfl) ?_
  refine o_val (v_move rfl) (dd rfl) ?_
  refine o_guard rfl rfl (fun h => ?_) (fun h => ?_)
  · have hb : b = false := by simpa using h
    subst hb
    refine o_val (v_move rfl) (dd rfl) ?_
    refine o_on rfl rfl ?_
    refine o_val (v_nilCheck rfl) (dd rfl) ?_
    refine o_on rfl rfl ?_
    refine o_val (v_fieldAddrC 0 Tryz.underlying92 rfl ti25 (by decide) rfl) (dd rfl) ?_
    refine o_on rfl rfl ?_
    refine o_val (v_load lone25 rfl (hX (by repeat constructor)) rfl) (dd rfl) ?_
    refine o_on rfl rfl ?_
    refine o_val ((by first | exact v_len_form Tryz.underlying25 rfl | exact v_len_sl Tryz.underlying25 rfl (hX (by repeat constructor)))) (dd rfl) ?_
    refine o_on rfl rfl ?_
    refine o_val (v_eq rfl rfl) (dd rfl) ?_
    refine o_val (v_pick_t rfl rfl) (dd rfl) ?_
    refine o_val (v_assign rfl) (dd rfl) ?_
    refine o_nil ?_
    refine c_ret1 Tryz.func20 rfl rfl fun w O hS => ?_
    refine ⟨(), congrArg Value.bool (decide_eq_decide.2 ⟨fun h => ?_, fun h => ?_⟩), trivial, trivial⟩
    · rw [List.length_eq_zero_iff.1 (Int.ofNat.inj h)]
    · rw [(Prod.mk.inj h).1]; rfl
  · have hb : b = true := by simpa using h
    subst hb
    refine o_off rfl rfl rfl (dd rfl) ?_
    refine o_off rfl rfl rfl (dd rfl) ?_
    refine o_off rfl rfl rfl (dd rfl) ?_
    refine o_off rfl rfl rfl (dd rfl) ?_
    refine o_off rfl rfl rfl (dd rfl) ?_
    refine o_off rfl rfl rfl (dd rfl) ?_
    refine o_val (v_pick_f rfl rfl) (dd rfl) ?_
    refine o_val (v_assign rfl) (dd rfl) ?_
    refine o_nil ?_
    refine c_ret1 Tryz.func20 rfl rfl fun w O hS => ?_
    exact ⟨(), by rw [decide_eq_false (by intro q; cases (Prod.mk.inj q).2)], trivial, trivial⟩
end Go.Proofs.YtmgkeippepeggaaGreatDoor
/- Chapter 09: the program's reader: numbers, flags, texts. -/
namespace Go.Proofs.YtmgkeippepeggaaGreatDoor
open Go Go.SL Go.Lib
/-- What is left behind going on, or spoiling. -/
def goS (many : Int) (is : Bool) (s : St9) : St9 := if s.2 = true ∨ is = false ∨ many < 1 then spoil9 s else (s.1.drop many.toNat, false)
attribute [local irreducible] Cfg Kont StepK Val Con Qops Any Sl Own Blk BlkR Rd Pu ExA AllA Has Pick Ent Elem Beside Callable TI Lone OwnO AndA
set_option maxRecDepth 100000 in
theorem goesI_con (i : Nat) (bv : Value) (s : St9) (many : Int) (is : Bool) (x : Int) (hm : many ≤ s.1.length) : Con Tryz.prog 54 [ptr i, .int .i64 many, .bool is, .int .i64 x] [Blk i 92 [bv, .bool s.2], Sl eByte bv s.1] (γ := Value) (fun _ => .int .i64 (if s.2 = true ∨ is = false ∨ many < 1 then 0 else x)) (fun _ => True) (fun g => [Blk i 92 [g, .bool (goS many is s).2], Sl eByte g (goS many is s).1]) := by
  refine Con.form (v := bv) (xs := s.1) (hX (by repeat constructor)) ?_
  rintro a0 c0 rfl hc0 hm0
  refine con_of Tryz.func54 rfl (dd rfl) fun w0 O0 => ?_
  refine c_seq ?_
  refine c_region ?_
  refine o_val (v_assign rfl) (dd rfl) ?_
  refine o_nil ?_
  refine c_seq ?_
  refine c_region ?_
  refine o_val (v_assign rfl) (dd rfl) ?_
  refine o_nil ?_
  refine c_seq ?_
  refine c_seq ?_
  refine c_env (env' := [(0, _), (1, _), (2, _), (3, _), (8, _), (9, _)]) (by repeat (first | exact trivial | refine ⟨rfl, ?_⟩)) ?_
  refine c_joinb (d := 21) (decide (s.2 = true ∨ is = false ∨ many < 1)) ?_ ?_
  rotate_left
  · intro J
    refine c_region ?_
    refine o_val (v_move rfl) (dd rfl) ?_
    refine o_val (v_nilCheck rfl) (dd rfl) ?_
    refine o_val (v_fieldAddrC 1 Tryz.underlying92 rfl ti4 (by decide) rfl) (dd rfl) ?_
    refine o_val (v_load lone4 rfl (hX (by repeat constructor)) rfl) (dd rfl) ?_
    refine o_val (v_move rfl) (dd rfl) ?_
    first | refine o_guard_f rfl rfl (fun g14 => ?_) (fun g14 => ?_) | refine o_guard rfl rfl (fun g14 => ?_) (fun g14 => ?_)
    · refine o_val (v_move rfl) (dd rfl) ?_
      refine o_on rfl rfl ?_
      refine o_val (v_not rfl) (dd rfl) ?_
      refine o_val (v_pick_f rfl rfl) (dd rfl) ?_
      refine o_val (v_move rfl) (dd rfl) ?_
      first | refine o_guard_f rfl rfl (fun g18 => ?_) (fun g18 => ?_) | refine o_guard rfl rfl (fun g18 => ?_) (fun g18 => ?_)
      · refine o_val (v_move rfl) (dd rfl) ?_
        refine o_on rfl rfl ?_
        refine o_val (v_lt rfl rfl) (dd rfl) ?_
        refine o_val (v_pick_f rfl rfl) (dd rfl) ?_
        refine o_nil ?_
        exact c_use J ⟨Env.as rfl (congrArg Value.bool (by first | rfl | (simp_all; done) | (simp_all; omega) | (simp; omega))), (by repeat (first | exact trivial | refine ⟨rfl, ?_⟩))⟩ (by first | exact Ent.refl _ | exact eX (by repeat constructor))
      · refine o_off rfl rfl rfl (dd rfl) ?_
        refine o_off rfl rfl rfl (dd rfl) ?_
        refine o_val (v_pick_t rfl rfl) (dd rfl) ?_
        refine o_nil ?_
        exact c_use J ⟨Env.as rfl (congrArg Value.bool (by first | rfl | (simp_all; done) | (simp_all; omega) | (simp; omega))), (by repeat (first | exact trivial | refine ⟨rfl, ?_⟩))⟩ (by first | exact Ent.refl _ | exact eX (by repeat constructor))
    · refine o_off rfl rfl rfl (dd rfl) ?_
      refine o_off rfl rfl rfl (dd rfl) ?_
      refine o_val (v_pick_t rfl rfl) (dd rfl) ?_
      refine o_val (v_move rfl) (dd rfl) ?_
      refine o_off rfl rfl rfl (dd rfl) ?_
      refine o_off rfl rfl rfl (dd rfl) ?_
      refine o_val (v_pick_t rfl rfl) (dd rfl) ?_
      refine o_nil ?_
      exact c_use J ⟨Env.as rfl (congrArg Value.bool (by first | rfl | (simp_all; done) | (simp_all; omega) | (simp; omega))), (by repeat (first | exact trivial | refine ⟨rfl, ?_⟩))⟩ (by first | exact Ent.refl _ | exact eX (by repeat constructor))
  refine c_cond_p rfl (fun hb => ?_) (fun hb => ?_)
  · unfold goS
    rw [if_pos hb, if_pos hb]
    refine c_seq ?_
    refine c_region ?_
    refine o_val (v_move rfl) (dd rfl) ?_
    refine o_val (v_nilCheck rfl) (dd rfl) ?_
    refine o_val (v_fieldAddrC 1 Tryz.underlying92 rfl ti4 (by decide) rfl) (dd rfl) ?_
    refine o_step (s_store1 ti4 rfl rfl (by first | exact OneC.lit rfl | exact OneC.sl (hX (by repeat constructor)) ) (pB (by repeat constructor)) (by first | decide | exact Nat.le_of_ble_eq_true rfl | simp) (by first | (dsimp only [List.set_cons_succ, List.set_cons_zero]; first | done | exact rfl) | rfl) (?_))
    refine o_nil ?_
    refine c_seq ?_
    refine c_region ?_
    refine o_val (v_move rfl) (dd rfl) ?_
    refine o_val (v_assign rfl) (dd rfl) ?_
    refine o_nil ?_
    refine c_ret1 Tryz.func54 rfl rfl fun w O hS => ?_
    exact ⟨_, rfl, trivial, Ent.get hS (eX (by repeat constructor))⟩
  · have h2 : s.2 = false := by cases q : s.2 with | false => rfl | true => exact absurd (.inl q) hb
    unfold goS
    rw [if_neg hb, if_neg hb, h2]
    refine c_skip ?_
    refine c_seq ?_
    refine c_region ?_
    refine o_val (v_move rfl) (dd rfl) ?_
    refine o_val (v_move rfl) (dd rfl) ?_
    refine o_val (v_nilCheck rfl) (dd rfl) ?_
    refine o_val (v_fieldAddrC 0 Tryz.underlying92 rfl ti25 (by decide) rfl) (dd rfl) ?_
    refine o_val (v_load lone25 rfl (hX (by repeat constructor)) rfl) (dd rfl) ?_
    refine o_val (v_move rfl) (dd rfl) ?_
    refine o_step (s_slice Tryz.underlying25 ti5 rfl (pX (by repeat constructor)) rfl (.inr ⟨_, _, _, rfl, rfl, by omega, rfl⟩) (.inl ⟨rfl, rfl⟩) (by omega) (by omega) (dd rfl) fun z => ?_)
    refine o_val (v_nilCheck rfl) (dd rfl) ?_
    refine o_val (v_fieldAddrC 0 Tryz.underlying92 rfl ti25 (by decide) rfl) (dd rfl) ?_
    refine o_step (s_store1 ti25 rfl rfl (by first | exact OneC.lit rfl | exact OneC.sl (hX (by repeat constructor)) ) (pB (by repeat constructor)) (by first | decide | exact Nat.le_of_ble_eq_true rfl | simp) (by first | (dsimp only [List.set_cons_succ, List.set_cons_zero]; first | done | exact rfl) | rfl) (?_))
    refine o_nil ?_
    refine c_seq ?_
    refine c_region ?_
    refine o_val (v_move rfl) (dd rfl) ?_
    refine o_val (v_assign rfl) (dd rfl) ?_
    refine o_nil ?_
    refine c_ret1 Tryz.func54 rfl rfl fun w O hS => ?_
    exact ⟨z, rfl, trivial, by
      have e : (s.1.take s.1.length).drop many.toNat = s.1.drop many.toNat := by rw [List.take_length]
      rw [e] at hS
      exact Ent.get hS (eX (by repeat constructor))⟩
set_option maxRecDepth 100000 in
theorem goesB_con (i : Nat) (bv : Value) (s : St9) (many : Int) (is : Bool) (x : Bool) (hm : many ≤ s.1.length) : Con Tryz.prog 55 [ptr i, .int .i64 many, .bool is, .bool x] [Blk i 92 [bv, .bool s.2], Sl eByte bv s.1] (γ := Value) (fun _ => .bool (if s.2 = true ∨ is = false ∨ many < 1 then false else x)) (fun _ => True) (fun g => [Blk i 92 [g, .bool (goS many is s).2], Sl eByte g (goS many is s).1]) := by
  refine Con.form (v := bv) (xs := s.1) (hX (by repeat constructor)) ?_
  rintro a0 c0 rfl hc0 hm0
  refine con_of Tryz.func55 rfl (dd rfl) fun w0 O0 => ?_
  refine c_seq ?_
  refine c_region ?_
  refine o_val (v_assign rfl) (dd rfl) ?_
  refine o_nil ?_
  refine c_seq ?_
  refine c_region ?_
  refine o_val (v_assign rfl) (dd rfl) ?_
  refine o_nil ?_
  refine c_seq ?_
  refine c_seq ?_
  refine c_env (env' := [(0, _), (1, _), (2, _), (3, _), (8, _), (9, _)]) (by repeat (first | exact trivial | refine ⟨rfl, ?_⟩)) ?_
  refine c_joinb (d := 21) (decide (s.2 = true ∨ is = false ∨ many < 1)) ?_ ?_
  rotate_left
  · intro J
    refine c_region ?_
    refine o_val (v_move rfl) (dd rfl) ?_
    refine o_val (v_nilCheck rfl) (dd rfl) ?_
    refine o_val (v_fieldAddrC 1 Tryz.underlying92 rfl ti4 (by decide) rfl) (dd rfl) ?_
    refine o_val (v_load lone4 rfl (hX (by repeat constructor)) rfl) (dd rfl) ?_
    refine o_val (v_move rfl) (dd rfl) ?_
    first | refine o_guard_f rfl rfl (fun g14 => ?_) (fun g14 => ?_) | refine o_guard rfl rfl (fun g14 => ?_) (fun g14 => ?_)
    · refine o_val (v_move rfl) (dd rfl) ?_
      refine o_on rfl rfl ?_
      refine o_val (v_not rfl) (dd rfl) ?_
      refine o_val (v_pick_f rfl rfl) (dd rfl) ?_
      refine o_val (v_move rfl) (dd rfl) ?_
      first | refine o_guard_f rfl rfl (fun g18 => ?_) (fun g18 => ?_) | refine o_guard rfl rfl (fun g18 => ?_) (fun g18 => ?_)
      · refine o_val (v_move rfl) (dd rfl) ?_
        refine o_on rfl rfl ?_
        refine o_val (v_lt rfl rfl) (dd rfl) ?_
        refine o_val (v_pick_f rfl rfl) (dd rfl) ?_
        refine o_nil ?_
        exact c_use J ⟨Env.as rfl (congrArg Value.bool (by first | rfl | (simp_all; done) | (simp_all; omega) | (simp; omega))), (by repeat (first | exact trivial | refine ⟨rfl, ?_⟩))⟩ (by first | exact Ent.refl _ | exact eX (by repeat constructor))
      · refine o_off rfl rfl rfl (dd rfl) ?_
        refine o_off rfl rfl rfl (dd rfl) ?_
        refine o_val (v_pick_t rfl rfl) (dd rfl) ?_
        refine o_nil ?_
        exact c_use J ⟨Env.as rfl (congrArg Value.bool (by first | rfl | (simp_all; done) | (simp_all; omega) | (simp; omega))), (by repeat (first | exact trivial | refine ⟨rfl, ?_⟩))⟩ (by first | exact Ent.refl _ | exact eX (by repeat constructor))
    · refine o_off rfl rfl rfl (dd rfl) ?_
      refine o_off rfl rfl rfl (dd rfl) ?_
      refine o_val (v_pick_t rfl rfl) (dd rfl) ?_
      refine o_val (v_move rfl) (dd rfl) ?_
      refine o_off rfl rfl rfl (dd rfl) ?_
      refine o_off rfl rfl rfl (dd rfl) ?_
      refine o_val (v_pick_t rfl rfl) (dd rfl) ?_
      refine o_nil ?_
      exact c_use J ⟨Env.as rfl (congrArg Value.bool (by first | rfl | (simp_all; done) | (simp_all; omega) | (simp; omega))), (by repeat (first | exact trivial | refine ⟨rfl, ?_⟩))⟩ (by first | exact Ent.refl _ | exact eX (by repeat constructor))
  refine c_cond_p rfl (fun hb => ?_) (fun hb => ?_)
  · unfold goS
    rw [if_pos hb, if_pos hb]
    refine c_seq ?_
    refine c_region ?_
    refine o_val (v_move rfl) (dd rfl) ?_
    refine o_val (v_nilCheck rfl) (dd rfl) ?_
    refine o_val (v_fieldAddrC 1 Tryz.underlying92 rfl ti4 (by decide) rfl) (dd rfl) ?_
    refine o_step (s_store1 ti4 rfl rfl (by first | exact OneC.lit rfl | exact OneC.sl (hX (by repeat constructor)) ) (pB (by repeat constructor)) (by first | decide | exact Nat.le_of_ble_eq_true rfl | simp) (by first | (dsimp only [List.set_cons_succ, List.set_cons_zero]; first | done | exact rfl) | rfl) (?_))
    refine o_nil ?_
    refine c_seq ?_
    refine c_region ?_
    refine o_val (v_move rfl) (dd rfl) ?_
    refine o_val (v_assign rfl) (dd rfl) ?_
    refine o_nil ?_
    refine c_ret1 Tryz.func55 rfl rfl fun w O hS => ?_
    exact ⟨_, rfl, trivial, Ent.get hS (eX (by repeat constructor))⟩
  · have h2 : s.2 = false := by cases q : s.2 with | false => rfl | true => exact absurd (.inl q) hb
    unfold goS
    rw [if_neg hb, if_neg hb, h2]
    refine c_skip ?_
    refine c_seq ?_
    refine c_region ?_
    refine o_val (v_move rfl) (dd rfl) ?_
    refine o_val (v_move rfl) (dd rfl) ?_
    refine o_val (v_nilCheck rfl) (dd rfl) ?_
    refine o_val (v_fieldAddrC 0 Tryz.underlying92 rfl ti25 (by decide) rfl) (dd rfl) ?_
    refine o_val (v_load lone25 rfl (hX (by repeat constructor)) rfl) (dd rfl) ?_
    refine o_val (v_move rfl) (dd rfl) ?_
    refine o_step (s_slice Tryz.underlying25 ti5 rfl (pX (by repeat constructor)) rfl (.inr ⟨_, _, _, rfl, rfl, by omega, rfl⟩) (.inl ⟨rfl, rfl⟩) (by omega) (by omega) (dd rfl) fun z => ?_)
    refine o_val (v_nilCheck rfl) (dd rfl) ?_
    refine o_val (v_fieldAddrC 0 Tryz.underlying92 rfl ti25 (by decide) rfl) (dd rfl) ?_
    refine o_step (s_store1 ti25 rfl rfl (by first | exact OneC.lit rfl | exact OneC.sl (hX (by repeat constructor)) ) (pB (by repeat constructor)) (by first | decide | exact Nat.le_of_ble_eq_true rfl | simp) (by first | (dsimp only [List.set_cons_succ, List.set_cons_zero]; first | done | exact rfl) | rfl) (?_))
    refine o_nil ?_
    refine c_seq ?_
    refine c_region ?_
    refine o_val (v_move rfl) (dd rfl) ?_
    refine o_val (v_assign rfl) (dd rfl) ?_
    refine o_nil ?_
    refine c_ret1 Tryz.func55 rfl rfl fun w O hS => ?_
    exact ⟨z, rfl, trivial, by
      have e : (s.1.take s.1.length).drop many.toNat = s.1.drop many.toNat := by rw [List.take_length]
      rw [e] at hS
      exact Ent.get hS (eX (by repeat constructor))⟩
set_option maxRecDepth 100000 in
theorem goesS_con (i : Nat) (bv : Value) (s : St9) (many : Int) (is : Bool) (x : ByteArray) (hm : many ≤ s.1.length) : Con Tryz.prog 56 [ptr i, .int .i64 many, .bool is, .string x] [Blk i 92 [bv, .bool s.2], Sl eByte bv s.1] (γ := Value) (fun _ => .string (if s.2 = true ∨ is = false ∨ many < 1 then ⟨#[]⟩ else x)) (fun _ => True) (fun g => [Blk i 92 [g, .bool (goS many is s).2], Sl eByte g (goS many is s).1]) := by
  refine Con.form (v := bv) (xs := s.1) (hX (by repeat constructor)) ?_
  rintro a0 c0 rfl hc0 hm0
  refine con_of Tryz.func56 rfl (dd rfl) fun w0 O0 => ?_
  refine c_seq ?_
  refine c_region ?_
  refine o_val (v_assign rfl) (dd rfl) ?_
  refine o_nil ?_
  refine c_seq ?_
  refine c_region ?_
  refine o_val (v_assign rfl) (dd rfl) ?_
  refine o_nil ?_
  refine c_seq ?_
  refine c_seq ?_
  refine c_env (env' := [(0, _), (1, _), (2, _), (3, _), (8, _), (9, _)]) (by repeat (first | exact trivial | refine ⟨rfl, ?_⟩)) ?_
  refine c_joinb (d := 21) (decide (s.2 = true ∨ is = false ∨ many < 1)) ?_ ?_
  rotate_left
  · intro J
    refine c_region ?_
    refine o_val (v_move rfl) (dd rfl) ?_
    refine o_val (v_nilCheck rfl) (dd rfl) ?_
    refine o_val (v_fieldAddrC 1 Tryz.underlying92 rfl ti4 (by decide) rfl) (dd rfl) ?_
    refine o_val (v_load lone4 rfl (hX (by repeat constructor)) rfl) (dd rfl) ?_
    refine o_val (v_move rfl) (dd rfl) ?_
    first | refine o_guard_f rfl rfl (fun g14 => ?_) (fun g14 => ?_) | refine o_guard rfl rfl (fun g14 => ?_) (fun g14 => ?_)
    · refine o_val (v_move rfl) (dd rfl) ?_
      refine o_on rfl rfl ?_
      refine o_val (v_not rfl) (dd rfl) ?_
      refine o_val (v_pick_f rfl rfl) (dd rfl) ?_
      refine o_val (v_move rfl) (dd rfl) ?_
      first | refine o_guard_f rfl rfl (fun g18 => ?_) (fun g18 => ?_) | refine o_guard rfl rfl (fun g18 => ?_) (fun g18 => ?_)
      · refine o_val (v_move rfl) (dd rfl) ?_
        refine o_on rfl rfl ?_
        refine o_val (v_lt rfl rfl) (dd rfl) ?_
        refine o_val (v_pick_f rfl rfl) (dd rfl) ?_
        refine o_nil ?_
        exact c_use J ⟨Env.as rfl (congrArg Value.bool (by first | rfl | (simp_all; done) | (simp_all; omega) | (simp; omega))), (by repeat (first | exact trivial | refine ⟨rfl, ?_⟩))⟩ (by first | exact Ent.refl _ | exact eX (by repeat constructor))
      · refine o_off rfl rfl rfl (dd rfl) ?_
        refine o_off rfl rfl rfl (dd rfl) ?_
        refine o_val (v_pick_t rfl rfl) (dd rfl) ?_
        refine o_nil ?_
        exact c_use J ⟨Env.as rfl (congrArg Value.bool (by first | rfl | (simp_all; done) | (simp_all; omega) | (simp; omega))), (by repeat (first | exact trivial | refine ⟨rfl, ?_⟩))⟩ (by first | exact Ent.refl _ | exact eX (by repeat constructor))
    · refine o_off rfl rfl rfl (dd rfl) ?_
      refine o_off rfl rfl rfl (dd rfl) ?_
      refine o_val (v_pick_t rfl rfl) (dd rfl) ?_
      refine o_val (v_move rfl) (dd rfl) ?_
      refine o_off rfl rfl rfl (dd rfl) ?_
      refine o_off rfl rfl rfl (dd rfl) ?_
      refine o_val (v_pick_t rfl rfl) (dd rfl) ?_
      refine o_nil ?_
      exact c_use J ⟨Env.as rfl (congrArg Value.bool (by first | rfl | (simp_all; done) | (simp_all; omega) | (simp; omega))), (by repeat (first | exact trivial | refine ⟨rfl, ?_⟩))⟩ (by first | exact Ent.refl _ | exact eX (by repeat constructor))
  refine c_cond_p rfl (fun hb => ?_) (fun hb => ?_)
  · unfold goS
    rw [if_pos hb, if_pos hb]
    refine c_seq ?_
    refine c_region ?_
    refine o_val (v_move rfl) (dd rfl) ?_
    refine o_val (v_nilCheck rfl) (dd rfl) ?_
    refine o_val (v_fieldAddrC 1 Tryz.underlying92 rfl ti4 (by decide) rfl) (dd rfl) ?_
    refine o_step (s_store1 ti4 rfl rfl (by first | exact OneC.lit rfl | exact OneC.sl (hX (by repeat constructor)) ) (pB (by repeat constructor)) (by first | decide | exact Nat.le_of_ble_eq_true rfl | simp) (by first | (dsimp only [List.set_cons_succ, List.set_cons_zero]; first | done | exact rfl) | rfl) (?_))
    refine o_nil ?_
    refine c_seq ?_
    refine c_region ?_
    refine o_val (v_move rfl) (dd rfl) ?_
    refine o_val (v_assign rfl) (dd rfl) ?_
    refine o_nil ?_
    refine c_ret1 Tryz.func56 rfl rfl fun w O hS => ?_
    exact ⟨_, rfl, trivial, Ent.get hS (eX (by repeat constructor))⟩
  · have h2 : s.2 = false := by cases q : s.2 with | false => rfl | true => exact absurd (.inl q) hb
    unfold goS
    rw [if_neg hb, if_neg hb, h2]
    refine c_skip ?_
    refine c_seq ?_
    refine c_region ?_
    refine o_val (v_move rfl) (dd rfl) ?_
    refine o_val (v_move rfl) (dd rfl) ?_
    refine o_val (v_nilCheck rfl) (dd rfl) ?_
    refine o_val (v_fieldAddrC 0 Tryz.underlying92 rfl ti25 (by decide) rfl) (dd rfl) ?_
    refine o_val (v_load lone25 rfl (hX (by repeat constructor)) rfl) (dd rfl) ?_
    refine o_val (v_move rfl) (dd rfl) ?_
    refine o_step (s_slice Tryz.underlying25 ti5 rfl (pX (by repeat constructor)) rfl (.inr ⟨_, _, _, rfl, rfl, by omega, rfl⟩) (.inl ⟨rfl, rfl⟩) (by omega) (by omega) (dd rfl) fun z => ?_)
    refine o_val (v_nilCheck rfl) (dd rfl) ?_
    refine o_val (v_fieldAddrC 0 Tryz.underlying92 rfl ti25 (by decide) rfl) (dd rfl) ?_
    refine o_step (s_store1 ti25 rfl rfl (by first | exact OneC.lit rfl | exact OneC.sl (hX (by repeat constructor)) ) (pB (by repeat constructor)) (by first | decide | exact Nat.le_of_ble_eq_true rfl | simp) (by first | (dsimp only [List.set_cons_succ, List.set_cons_zero]; first | done | exact rfl) | rfl) (?_))
    refine o_nil ?_
    refine c_seq ?_
    refine c_region ?_
    refine o_val (v_move rfl) (dd rfl) ?_
    refine o_val (v_assign rfl) (dd rfl) ?_
    refine o_nil ?_
    refine c_ret1 Tryz.func56 rfl rfl fun w O hS => ?_
    exact ⟨z, rfl, trivial, by
      have e : (s.1.take s.1.length).drop many.toNat = s.1.drop many.toNat := by rw [List.take_length]
      rw [e] at hS
      exact Ent.get hS (eX (by repeat constructor))⟩
theorem nm_cases (e : UInt8) (s : St9) : (num9 e s = none ∧ nm9 e s = (0, 0)) ∨ ∃ n m, num9 e s = some (n, m) ∧ nm9 e s = (n, m) ∧ 0 < m ∧ m ≤ s.1.length ∧ -100000000000000 < n ∧ n < 100000000000000 ∧ s.2 = false := by
  unfold nm9
  cases h : num9 e s with
  | none => exact .inl ⟨rfl, rfl⟩
  | some p =>
    obtain ⟨n, m⟩ := p
    exact .inr ⟨n, m, rfl, rfl, num9_bound h⟩
theorem num_as (s : St9) : takeNum s = (goS (nm9 59 s).2 (decide (-1099511627776 ≤ (nm9 59 s).1 ∧ (nm9 59 s).1 ≤ 1099511627776)) s, if s.2 = true ∨ decide (-1099511627776 ≤ (nm9 59 s).1 ∧ (nm9 59 s).1 ≤ 1099511627776) = false ∨ ((nm9 59 s).2 : Int) < 1 then 0 else (nm9 59 s).1) := by
  unfold takeNum goS
  rcases nm_cases 59 s with ⟨h1, h2⟩ | ⟨n, m, h1, h2, hm, _, _, _, hs⟩
  · rw [h1, h2, if_pos (.inr (.inr (by decide))), if_pos (.inr (.inr (by decide)))]
  · rw [h1, h2, hs]
    dsimp only
    unfold far9
    by_cases hf : -1099511627776 ≤ n ∧ n ≤ 1099511627776
    · have hn : ¬ (false = true ∨ decide (-1099511627776 ≤ n ∧ n ≤ 1099511627776) = false ∨ (m : Int) < 1) := by rintro (q | q | q); cases q; rw [decide_eq_true hf] at q; cases q; omega
      rw [if_pos hf, if_neg hn, if_neg hn, Int.toNat_natCast]
    · have hn : false = true ∨ decide (-1099511627776 ≤ n ∧ n ≤ 1099511627776) = false ∨ (m : Int) < 1 := .inr (.inl (decide_eq_false hf))
      rw [if_neg hf, if_pos hn, if_pos hn]
theorem flag_as (s : St9) : takeFlag s = (goS (nm9 59 s).2 (decide ((nm9 59 s).1 = 0 ∨ (nm9 59 s).1 = 1)) s, if s.2 = true ∨ decide ((nm9 59 s).1 = 0 ∨ (nm9 59 s).1 = 1) = false ∨ ((nm9 59 s).2 : Int) < 1 then false else decide ((nm9 59 s).1 = 1)) := by
  unfold takeFlag goS
  rcases nm_cases 59 s with ⟨h1, h2⟩ | ⟨n, m, h1, h2, hm, _, _, _, hs⟩
  · rw [h1, h2, if_pos (.inr (.inr (by decide))), if_pos (.inr (.inr (by decide)))]
  · rw [h1, h2, hs]
    dsimp only
    by_cases hf : n = 0 ∨ n = 1
    · have hn : ¬ (false = true ∨ decide (n = 0 ∨ n = 1) = false ∨ (m : Int) < 1) := by rintro (q | q | q); cases q; rw [decide_eq_true hf] at q; cases q; omega
      rw [if_pos hf, if_neg hn, if_neg hn, Int.toNat_natCast]
    · have hn : false = true ∨ decide (n = 0 ∨ n = 1) = false ∨ (m : Int) < 1 := .inr (.inl (decide_eq_false hf))
      rw [if_neg hf, if_pos hn, if_pos hn]
theorem nm_le (e : UInt8) (s : St9) : ((nm9 e s).2 : Int) ≤ s.1.length ∧ -100000000000000 < (nm9 e s).1 ∧ (nm9 e s).1 < 100000000000000 := by
  rcases nm_cases e s with ⟨_, h2⟩ | ⟨n, m, _, h2, _, h3, h4, h5, _⟩
  · rw [h2]; exact ⟨by simp, by decide, by decide⟩
  · rw [h2]; exact ⟨by dsimp only; omega, h4, h5⟩
set_option maxRecDepth 100000 in
theorem inNum_con (i : Nat) (bv : Value) (s : St9) (te : TypeId) (pe : Value) : Con Tryz.prog 14 [ptr i] [Blk i 92 [bv, .bool s.2], Sl eByte bv s.1, G1 te pe, G3] (γ := Value) (fun _ => .int .i64 (takeNum s).2) (fun _ => True) (fun g => [Blk i 92 [g, .bool (takeNum s).1.2], Sl eByte g (takeNum s).1.1]) := by
  have hN := number_con i bv s 59 te pe
  have hle := nm_le 59 s
  have has := num_as s
  obtain ⟨n, m, hnm⟩ : ∃ n m, nm9 59 s = (n, m) := ⟨_, _, rfl⟩
  rw [hnm] at hN hle has
  rw [has]
  dsimp only at hN hle ⊢
  have hG := fun is => goesI_con i bv s m is n hle.1
  refine con_of Tryz.func14 rfl (dd rfl) fun w0 O0 => ?_
  refine c_seq ?_
  refine c_region ?_
  refine o_val (v_assign rfl) (dd rfl) ?_
  refine o_nil ?_
  refine c_seq ?_
  refine c_region ?_
  refine o_val (v_move rfl) (dd rfl) ?_
  refine o_step (s_callf_keep cl53 (hN) rfl (dd rfl) (rX (by repeat constructor)) (fun _ => sX) (fun _ _ => ?_))
  refine o_val (v_move rfl) (dd rfl) ?_
  refine o_val (v_extract rfl rfl) (dd rfl) ?_
  refine o_val (v_extract rfl rfl) (dd rfl) ?_
  refine o_val (v_assign rfl) (dd rfl) ?_
  refine o_val (v_assign rfl) (dd rfl) ?_
  refine o_nil ?_
  refine c_seq ?_
  refine c_region ?_
  refine o_val (v_move rfl) (dd rfl) ?_
  refine o_val (v_move rfl) (dd rfl) ?_
  refine o_val (v_move rfl) (dd rfl) ?_
  refine o_val (v_ge rfl rfl) (dd rfl) ?_
  refine o_val (v_move rfl) (dd rfl) ?_
  refine o_guard_t rfl rfl (fun h1 => ?_) (fun h1 => ?_)
  · have hd : decide (-1099511627776 ≤ n ∧ n ≤ 1099511627776) = decide (n ≤ 1099511627776) := decide_eq_decide.2 ⟨fun h => h.2, fun h => ⟨by omega, h⟩⟩
    rw [hd]
    refine o_val (v_move rfl) (dd rfl) ?_
    refine o_on rfl rfl ?_
    refine o_val (v_le rfl rfl) (dd rfl) ?_
    refine o_val (v_pick_t rfl rfl) (dd rfl) ?_
    refine o_val (v_move rfl) (dd rfl) ?_
    refine o_step (s_callf cl54 (hG (decide (n ≤ 1099511627776))) rfl (dd rfl) (pXs (by repeat constructor)) fun g _ => ?_)
    refine o_val (v_assign rfl) (dd rfl) ?_
    refine o_nil ?_
    refine c_ret1 Tryz.func14 rfl rfl fun w O hS => ?_
    exact ⟨g, rfl, trivial, Ent.get hS (eX (by repeat constructor))⟩
  · have hd : decide (-1099511627776 ≤ n ∧ n ≤ 1099511627776) = false := decide_eq_false (by omega)
    rw [hd]
    refine o_off rfl rfl rfl (dd rfl) ?_
    refine o_off rfl rfl rfl (dd rfl) ?_
    refine o_val (v_pick_f rfl rfl) (dd rfl) ?_
    refine o_val (v_move rfl) (dd rfl) ?_
    refine o_step (s_callf cl54 (hG false) rfl (dd rfl) (pXs (by repeat constructor)) fun g _ => ?_)
    refine o_val (v_assign rfl) (dd rfl) ?_
    refine o_nil ?_
    refine c_ret1 Tryz.func14 rfl rfl fun w O hS => ?_
    exact ⟨g, rfl, trivial, Ent.get hS (eX (by repeat constructor))⟩
set_option maxRecDepth 100000 in
theorem inFlag_con (i : Nat) (bv : Value) (s : St9) (te : TypeId) (pe : Value) : Con Tryz.prog 15 [ptr i] [Blk i 92 [bv, .bool s.2], Sl eByte bv s.1, G1 te pe, G3] (γ := Value) (fun _ => .bool (takeFlag s).2) (fun _ => True) (fun g => [Blk i 92 [g, .bool (takeFlag s).1.2], Sl eByte g (takeFlag s).1.1]) := by
  have hN := number_con i bv s 59 te pe
  have hle := nm_le 59 s
  have has := flag_as s
  obtain ⟨n, m, hnm⟩ : ∃ n m, nm9 59 s = (n, m) := ⟨_, _, rfl⟩
  rw [hnm] at hN hle has
  rw [has]
  dsimp only at hN hle ⊢
  have hG := fun is => goesB_con i bv s m is (decide (n = 1)) hle.1
  refine con_of Tryz.func15 rfl (dd rfl) fun w0 O0 => ?_
  refine c_seq ?_
  refine c_region ?_
  refine o_val (v_assign rfl) (dd rfl) ?_
  refine o_nil ?_
  refine c_seq ?_
  refine c_region ?_
  refine o_val (v_move rfl) (dd rfl) ?_
  refine o_step (s_callf_keep cl53 (hN) rfl (dd rfl) (rX (by repeat constructor)) (fun _ => sX) (fun _ _ => ?_))
  refine o_val (v_move rfl) (dd rfl) ?_
  refine o_val (v_extract rfl rfl) (dd rfl) ?_
  refine o_val (v_extract rfl rfl) (dd rfl) ?_
  refine o_val (v_assign rfl) (dd rfl) ?_
  refine o_val (v_assign rfl) (dd rfl) ?_
  refine o_nil ?_
  refine c_seq ?_
  refine c_region ?_
  refine o_val (v_move rfl) (dd rfl) ?_
  refine o_val (v_move rfl) (dd rfl) ?_
  refine o_val (v_move rfl) (dd rfl) ?_
  refine o_val (v_eq rfl rfl) (dd rfl) ?_
  refine o_val (v_move rfl) (dd rfl) ?_
  refine o_guard_f rfl rfl (fun h1 => ?_) (fun h1 => ?_)
  · have hd : decide (n = 0 ∨ n = 1) = decide (n = 1) := decide_eq_decide.2 ⟨fun h => h.resolve_left h1, .inr⟩
    rw [hd]
    refine o_val (v_move rfl) (dd rfl) ?_
    refine o_on rfl rfl ?_
    refine o_val (v_eq rfl rfl) (dd rfl) ?_
    refine o_val (v_pick_f rfl rfl) (dd rfl) ?_
    refine o_val (v_move rfl) (dd rfl) ?_
    refine o_val (v_eq rfl rfl) (dd rfl) ?_
    refine o_step (s_callf cl55 (hG (decide (n = 1))) rfl (dd rfl) (pXs (by repeat constructor)) fun g _ => ?_)
    refine o_val (v_assign rfl) (dd rfl) ?_
    refine o_nil ?_
    refine c_ret1 Tryz.func15 rfl rfl fun w O hS => ?_
    exact ⟨g, rfl, trivial, Ent.get hS (eX (by repeat constructor))⟩
  · have hd : decide (n = 0 ∨ n = 1) = true := decide_eq_true (.inl (by omega))
    rw [hd]
    refine o_off rfl rfl rfl (dd rfl) ?_
    refine o_off rfl rfl rfl (dd rfl) ?_
    refine o_val (v_pick_t rfl rfl) (dd rfl) ?_
    refine o_val (v_move rfl) (dd rfl) ?_
    refine o_val (v_eq rfl rfl) (dd rfl) ?_
    refine o_step (s_callf cl55 (hG true) rfl (dd rfl) (pXs (by repeat constructor)) fun g _ => ?_)
    refine o_val (v_assign rfl) (dd rfl) ?_
    refine o_nil ?_
    refine c_ret1 Tryz.func15 rfl rfl fun w O hS => ?_
    exact ⟨g, rfl, trivial, Ent.get hS (eX (by repeat constructor))⟩
theorem text_bad {most : Int} {s : St9} {n : Int} {m : Nat} (hnm : nm9 58 s = (n, m)) (h : (m : Int) < 1 ∨ n < 0 ∨ most < n ∨ (s.1.length : Int) - m ≤ n) : takeText most s = (spoil9 s, ⟨#[]⟩) := by
  unfold takeText
  rcases nm_cases 58 s with ⟨h1, _⟩ | ⟨n', m', h1, h2, hm, _⟩
  · rw [h1]
  · rw [hnm] at h2
    cases h2
    rw [h1]
    dsimp only
    rw [if_neg (by omega)]
theorem text_good {most : Int} {s : St9} {n : Int} {m : Nat} (hnm : nm9 58 s = (n, m)) (h : ¬ ((m : Int) < 1 ∨ n < 0 ∨ most < n ∨ (s.1.length : Int) - m ≤ n)) {b : UInt8} (hb : s.1[m + n.toNat]? = some b) :
    takeText most s = (goS ((m : Int) + n + 1) (decide ((b.toNat : Int) = 44)) s, if s.2 = true ∨ decide ((b.toNat : Int) = 44) = false ∨ (m : Int) + n + 1 < 1 then ⟨#[]⟩ else sB ((s.1.take ((m : Int) + n).toNat).drop m)) := by
  unfold takeText goS
  rcases nm_cases 58 s with ⟨_, h2⟩ | ⟨n', m', h1, h2, hm, _, _, _, hs⟩
  · rw [hnm] at h2
    cases h2
    exact absurd (.inl (by decide)) h
  · rw [hnm] at h2
    cases h2
    rw [h1, hs]
    dsimp only
    have e1 : ((m : Int) + n + 1).toNat = m + n.toNat + 1 := by omega
    have e2 : ((m : Int) + n).toNat = m + n.toNat := by omega
    by_cases h44 : b = 44
    · have hd : decide ((b.toNat : Int) = 44) = true := decide_eq_true (by rw [h44]; rfl)
      have hn : ¬ (false = true ∨ true = false ∨ (m : Int) + n + 1 < 1) := by rintro (q | q | q); cases q; cases q; omega
      rw [hd, if_neg hn, if_neg hn, if_pos ⟨by omega, by omega, by omega, by rw [hb, h44]⟩, e1, e2]
      congr 1
      show sB ((s.1.drop m).take n.toNat) = sB _
      congr 1
      rw [List.drop_take, show m + n.toNat - m = n.toNat by omega]
    · have hd : decide ((b.toNat : Int) = 44) = false := decide_eq_false fun q => h44 (UInt8.toNat_inj.1 (Int.ofNat.inj q))
      have hn : false = true ∨ false = false ∨ (m : Int) + n + 1 < 1 := .inr (.inl rfl)
      rw [hd, if_pos hn, if_pos hn, if_neg (fun q => h44 (by have := q.2.2.2; rw [hb] at this; exact Option.some.inj this))]
set_option maxRecDepth 100000 in
theorem inText_con (i : Nat) (bv : Value) (s : St9) (most : Int) (te : TypeId) (pe : Value) : Con Tryz.prog 16 [ptr i, .int .i64 most] [Blk i 92 [bv, .bool s.2], Sl eByte bv s.1, G1 te pe, G3] (γ := Value) (fun _ => .string (takeText most s).2) (fun _ => True) (fun g => [Blk i 92 [g, .bool (takeText most s).1.2], Sl eByte g (takeText most s).1.1]) := by
  refine Con.form (v := bv) (xs := s.1) (hX (by repeat constructor)) ?_
  rintro a0 c0 rfl hc0 hm0
  have hmx : c0 ≤ 9223372036854775807 := hm0
  have hN := number_con i (.slice a0 s.1.length c0) s 58 te pe
  have hle := nm_le 58 s
  obtain ⟨n, m, hnm⟩ : ∃ n m, nm9 58 s = (n, m) := ⟨_, _, rfl⟩
  rw [hnm] at hN hle
  dsimp only at hN hle ⊢
  have hG := fun is many x h => goesS_con i (.slice a0 s.1.length c0) s many is x h
  refine con_of Tryz.func16 rfl (dd rfl) fun w0 O0 => ?_
  refine c_seq ?_
  refine c_region ?_
  refine o_val (v_assign rfl) (dd rfl) ?_
  refine o_nil ?_
  refine c_seq ?_
  refine c_region ?_
  refine o_val (v_move rfl) (dd rfl) ?_
  refine o_step (s_callf_keep cl53 (hN) rfl (dd rfl) (rX (by repeat constructor)) (fun _ => sX) (fun _ _ => ?_))
  refine o_val (v_move rfl) (dd rfl) ?_
  refine o_val (v_extract rfl rfl) (dd rfl) ?_
  refine o_val (v_extract rfl rfl) (dd rfl) ?_
  refine o_val (v_assign rfl) (dd rfl) ?_
  refine o_val (v_assign rfl) (dd rfl) ?_
  refine o_nil ?_
  refine c_seq ?_
  refine c_seq ?_
  refine c_env (env' := [(0, _), (1, _), (4, _), (5, _), (6, _)]) (by repeat (first | exact trivial | refine ⟨rfl, ?_⟩)) ?_
  refine c_joinb (d := 34) (decide ((m : Int) < 1 ∨ n < 0 ∨ most < n ∨ (s.1.length : Int) - m ≤ n)) ?_ ?_
  rotate_left
  · intro J
    refine c_region ?_
    refine o_val (v_move rfl) (dd rfl) ?_
    refine o_val (v_lt rfl rfl) (dd rfl) ?_
    refine o_val (v_move rfl) (dd rfl) ?_
    first | refine o_guard_f rfl rfl (fun g15 => ?_) (fun g15 => ?_) | refine o_guard rfl rfl (fun g15 => ?_) (fun g15 => ?_)
    · refine o_val (v_move rfl) (dd rfl) ?_
      refine o_on rfl rfl ?_
      refine o_val (v_lt rfl rfl) (dd rfl) ?_
      refine o_val (v_pick_f rfl rfl) (dd rfl) ?_
      refine o_val (v_move rfl) (dd rfl) ?_
      first | refine o_guard_f rfl rfl (fun g19 => ?_) (fun g19 => ?_) | refine o_guard rfl rfl (fun g19 => ?_) (fun g19 => ?_)
      · refine o_val (v_move rfl) (dd rfl) ?_
        refine o_on rfl rfl ?_
        refine o_val (v_move rfl) (dd rfl) ?_
        refine o_on rfl rfl ?_
        refine o_val (v_gt rfl rfl) (dd rfl) ?_
        refine o_val (v_pick_f rfl rfl) (dd rfl) ?_
        refine o_val (v_move rfl) (dd rfl) ?_
        first | refine o_guard_f rfl rfl (fun g24 => ?_) (fun g24 => ?_) | refine o_guard rfl rfl (fun g24 => ?_) (fun g24 => ?_)
        · refine o_val (v_move rfl) (dd rfl) ?_
          refine o_on rfl rfl ?_
          refine o_val (v_move rfl) (dd rfl) ?_
          refine o_on rfl rfl ?_
          refine o_val (v_nilCheck rfl) (dd rfl) ?_
          refine o_on rfl rfl ?_
          refine o_val (v_fieldAddrC 0 Tryz.underlying92 rfl ti25 (by decide) rfl) (dd rfl) ?_
          refine o_on rfl rfl ?_
          refine o_val (v_load lone25 rfl (hX (by repeat constructor)) rfl) (dd rfl) ?_
          refine o_on rfl rfl ?_
          refine o_val ((by first | exact v_len_form Tryz.underlying25 rfl | exact v_len_sl Tryz.underlying25 rfl (hX (by repeat constructor)))) (dd rfl) ?_
          refine o_on rfl rfl ?_
          refine o_val (v_move rfl) (dd rfl) ?_
          refine o_on rfl rfl ?_
          refine o_val ((by first | exact v_sub64 rfl rfl (by omega) | exact v_sub rfl rfl)) (dd rfl) ?_
          refine o_on rfl rfl ?_
          refine o_val (v_ge rfl rfl) (dd rfl) ?_
          refine o_val (v_pick_f rfl rfl) (dd rfl) ?_
          refine o_nil ?_
          exact c_use J ⟨Env.as rfl (congrArg Value.bool (by first | rfl | exact decide_eq_decide.2 (by omega) | exact (decide_eq_true (by omega)).symm | (simp_all; done) | (simp_all; omega))), (by repeat (first | exact trivial | refine ⟨rfl, ?_⟩))⟩ (by first | exact Ent.refl _ | exact eX (by repeat constructor))
        · refine o_off rfl rfl rfl (dd rfl) ?_
          refine o_off rfl rfl rfl (dd rfl) ?_
          refine o_off rfl rfl rfl (dd rfl) ?_
          refine o_off rfl rfl rfl (dd rfl) ?_
          refine o_off rfl rfl rfl (dd rfl) ?_
          refine o_off rfl rfl rfl (dd rfl) ?_
          refine o_off rfl rfl rfl (dd rfl) ?_
          refine o_off rfl rfl rfl (dd rfl) ?_
          refine o_off rfl rfl rfl (dd rfl) ?_
          refine o_val (v_pick_t rfl rfl) (dd rfl) ?_
          refine o_nil ?_
          exact c_use J ⟨Env.as rfl (congrArg Value.bool (by first | rfl | exact decide_eq_decide.2 (by omega) | exact (decide_eq_true (by omega)).symm | (simp_all; done) | (simp_all; omega))), (by repeat (first | exact trivial | refine ⟨rfl, ?_⟩))⟩ (by first | exact Ent.refl _ | exact eX (by repeat constructor))
      · refine o_off rfl rfl rfl (dd rfl) ?_
        refine o_off rfl rfl rfl (dd rfl) ?_
        refine o_off rfl rfl rfl (dd rfl) ?_
        refine o_val (v_pick_t rfl rfl) (dd rfl) ?_
        refine o_val (v_move rfl) (dd rfl) ?_
        refine o_off rfl rfl rfl (dd rfl) ?_
        refine o_off rfl rfl rfl (dd rfl) ?_
        refine o_off rfl rfl rfl (dd rfl) ?_
        refine o_off rfl rfl rfl (dd rfl) ?_
        refine o_off rfl rfl rfl (dd rfl) ?_
        refine o_off rfl rfl rfl (dd rfl) ?_
        refine o_off rfl rfl rfl (dd rfl) ?_
        refine o_off rfl rfl rfl (dd rfl) ?_
        refine o_off rfl rfl rfl (dd rfl) ?_
        refine o_val (v_pick_t rfl rfl) (dd rfl) ?_
        refine o_nil ?_
        exact c_use J ⟨Env.as rfl (congrArg Value.bool (by first | rfl | exact decide_eq_decide.2 (by omega) | exact (decide_eq_true (by omega)).symm | (simp_all; done) | (simp_all; omega))), (by repeat (first | exact trivial | refine ⟨rfl, ?_⟩))⟩ (by first | exact Ent.refl _ | exact eX (by repeat constructor))
    · refine o_off rfl rfl rfl (dd rfl) ?_
      refine o_off rfl rfl rfl (dd rfl) ?_
      refine o_val (v_pick_t rfl rfl) (dd rfl) ?_
      refine o_val (v_move rfl) (dd rfl) ?_
      refine o_off rfl rfl rfl (dd rfl) ?_
      refine o_off rfl rfl rfl (dd rfl) ?_
      refine o_off rfl rfl rfl (dd rfl) ?_
      refine o_val (v_pick_t rfl rfl) (dd rfl) ?_
      refine o_val (v_move rfl) (dd rfl) ?_
      refine o_off rfl rfl rfl (dd rfl) ?_
      refine o_off rfl rfl rfl (dd rfl) ?_
      refine o_off rfl rfl rfl (dd rfl) ?_
      refine o_off rfl rfl rfl (dd rfl) ?_
      refine o_off rfl rfl rfl (dd rfl) ?_
      refine o_off rfl rfl rfl (dd rfl) ?_
      refine o_off rfl rfl rfl (dd rfl) ?_
      refine o_off rfl rfl rfl (dd rfl) ?_
      refine o_off rfl rfl rfl (dd rfl) ?_
      refine o_val (v_pick_t rfl rfl) (dd rfl) ?_
      refine o_nil ?_
      exact c_use J ⟨Env.as rfl (congrArg Value.bool (by first | rfl | exact decide_eq_decide.2 (by omega) | exact (decide_eq_true (by omega)).symm | (simp_all; done) | (simp_all; omega))), (by repeat (first | exact trivial | refine ⟨rfl, ?_⟩))⟩ (by first | exact Ent.refl _ | exact eX (by repeat constructor))
  refine c_cond_p rfl (fun hb => ?_) (fun hb => ?_)
  · rw [text_bad hnm hb]
    have hg0 : goS 0 false s = spoil9 s := if_pos (.inr (.inl rfl))
    refine c_seq ?_
    refine c_region ?_
    refine o_val (v_move rfl) (dd rfl) ?_
    refine o_step (s_callf cl56 (hG false 0 ⟨#[]⟩ (by omega)) rfl (dd rfl) (pXs (by repeat constructor)) fun g _ => ?_)
    refine o_val (v_assign rfl) (dd rfl) ?_
    refine o_nil ?_
    rw [hg0, if_pos (.inr (.inl rfl))]
    refine c_ret1 Tryz.func16 rfl rfl fun w O hS => ?_
    exact ⟨g, rfl, trivial, Ent.get hS (eX (by repeat constructor))⟩
  · have hk : m + n.toNat < s.1.length := by omega
    have hkn : ((m : Int) + n).toNat = m + n.toNat := by omega
    have hk2 : ((m : Int) + n).toNat < s.1.length := by omega
    have hby : s.1[m + n.toNat]? = some (s.1[((m : Int) + n).toNat]'hk2) := by rw [← hkn]; exact List.getElem?_eq_getElem hk2
    rw [text_good hnm hb hby]
    refine c_skip ?_
    refine c_seq ?_
    refine c_region ?_
    refine o_val (v_move rfl) (dd rfl) ?_
    refine o_val (v_move rfl) (dd rfl) ?_
    refine o_val ((by first | exact v_add64 rfl rfl (by omega) | exact v_add rfl rfl)) (dd rfl) ?_
    refine o_val (v_assign rfl) (dd rfl) ?_
    refine o_nil ?_
    refine c_seq ?_
    refine c_ent (Ent.share (pX (by repeat constructor)) (Sl.isDup eByte (.slice a0 s.1.length c0) s.1) fun _ _ h => Sl.cutV (lo := m) (hi := ((m : Int) + n).toNat) (c := c0) h (by omega) (by omega) (by omega) (Nat.le_refl _)) ?_
    refine c_heldk 19 [BlkR i 92 [.slice a0 s.1.length c0, .bool s.2], Sl eByte (.slice a0 s.1.length c0) s.1, Sl eByte (cutV a0 m ((m : Int) + n).toNat c0 eByte.n) ((s.1.take ((m : Int) + n).toNat).drop m)] rfl ?_
    refine k_take 0 rfl (by kernel_rfl) (by kernel_rfl) (by kernel_rfl) rfl (by kernel_rfl) (v_move rfl) (eX (by repeat constructor)) (dd rfl) ?_
    refine k_take 1 rfl (by kernel_rfl) (by kernel_rfl) (by kernel_rfl) rfl (by kernel_rfl) (v_move rfl) (eX (by repeat constructor)) (dd rfl) ?_
    refine k_take 2 rfl (by kernel_rfl) (by kernel_rfl) (by kernel_rfl) rfl (by kernel_rfl) ((by first | exact v_add64 rfl rfl (by omega) | exact v_add rfl rfl)) (eX (by repeat constructor)) (dd rfl) ?_
    refine k_take 3 rfl (by kernel_rfl) (by kernel_rfl) (by kernel_rfl) rfl (by kernel_rfl) (v_move rfl) (eX (by repeat constructor)) (dd rfl) ?_
    refine k_take 4 rfl (by kernel_rfl) (by kernel_rfl) (by kernel_rfl) rfl (by kernel_rfl) (v_nilCheck rfl) (eX (by repeat constructor)) (dd rfl) ?_
    refine k_take 5 rfl (by kernel_rfl) (by kernel_rfl) (by kernel_rfl) rfl (by kernel_rfl) (v_fieldAddrC 0 Tryz.underlying92 rfl ti25 (by decide) rfl) (eX (by repeat constructor)) (dd rfl) ?_
    refine k_take 6 rfl (by kernel_rfl) (by kernel_rfl) (by kernel_rfl) rfl (by kernel_rfl) (v_load lone25 rfl (hX (by repeat constructor)) rfl) (eX (by repeat constructor)) (dd rfl) ?_
    refine k_take 7 rfl (by kernel_rfl) (by kernel_rfl) (by kernel_rfl) rfl (by kernel_rfl) (v_move rfl) (eX (by repeat constructor)) (dd rfl) ?_
    refine k_take 8 rfl (by kernel_rfl) (by kernel_rfl) (by kernel_rfl) rfl (by kernel_rfl) ((by first | exact v_indexAddrN Tryz.underlying25 ti5 rfl rfl (hX (by repeat constructor)) (by omega) | exact v_indexAddr Tryz.underlying25 ti5 rfl rfl (hX (by repeat constructor)) (by omega))) (eX (by repeat constructor)) (dd rfl) ?_
    refine k_take 9 rfl (by kernel_rfl) (by kernel_rfl) (by kernel_rfl) rfl (by kernel_rfl) (v_load_byte lone5 rfl (by repeat (first | exact Elem.sl (List.getElem?_eq_getElem (by omega)) | exact Elem.own (List.getElem?_eq_getElem (by omega)) | exact Elem.ownO (List.getElem?_eq_getElem (by omega)) | apply Elem.there))) (eX (by repeat constructor)) (dd rfl) ?_
    refine k_take 10 rfl (by kernel_rfl) (by kernel_rfl) (by kernel_rfl) rfl (by kernel_rfl) (v_eq rfl rfl) (eX (by repeat constructor)) (dd rfl) ?_
    refine k_take 11 rfl (by kernel_rfl) (by kernel_rfl) (by kernel_rfl) rfl (by kernel_rfl) (v_move rfl) (eX (by repeat constructor)) (dd rfl) ?_
    refine k_take 12 rfl (by kernel_rfl) (by kernel_rfl) (by kernel_rfl) rfl (by kernel_rfl) (v_nilCheck rfl) (eX (by repeat constructor)) (dd rfl) ?_
    refine k_take 13 rfl (by kernel_rfl) (by kernel_rfl) (by kernel_rfl) rfl (by kernel_rfl) (v_fieldAddrC 0 Tryz.underlying92 rfl ti25 (by decide) rfl) (eX (by repeat constructor)) (dd rfl) ?_
    refine k_take 14 rfl (by kernel_rfl) (by kernel_rfl) (by kernel_rfl) rfl (by kernel_rfl) (v_load lone25 rfl (hX (by repeat constructor)) rfl) (eX (by repeat constructor)) (dd rfl) ?_
    refine k_take 15 rfl (by kernel_rfl) (by kernel_rfl) (by kernel_rfl) rfl (by kernel_rfl) (v_move rfl) (eX (by repeat constructor)) (dd rfl) ?_
    refine k_take 16 rfl (by kernel_rfl) (by kernel_rfl) (by kernel_rfl) rfl (by kernel_rfl) (v_move rfl) (eX (by repeat constructor)) (dd rfl) ?_
    refine k_take 17 rfl (by kernel_rfl) (by kernel_rfl) (by kernel_rfl) rfl (by kernel_rfl) (v_slice Tryz.underlying25 ti5 rfl (.inr ⟨_, _, _, rfl, rfl, by omega, rfl⟩) (.inr ⟨_, _, _, rfl, rfl, by omega, rfl⟩) (.inl ⟨rfl, rfl⟩) (by omega) (by omega) (by omega)) (eX (by repeat constructor)) (dd rfl) ?_
    refine k_one 18 rfl (by kernel_rfl) fun hc_ => (s_val (v_conv_bytes Tryz.underlying25 Tryz.underlying5 Tryz.underlying9 rfl (hX (by repeat constructor))) (dd rfl) (k_on hc_ (eX (by repeat constructor)) ?_))
    refine k_one 19 rfl (by kernel_rfl) fun hc_ => (s_callf cl56 (hG (decide (((s.1[((m : Int) + n).toNat]'hk2).toNat : Int) = 44)) ((m : Int) + n + 1) (sB ((s.1.take ((m : Int) + n).toNat).drop m)) (by omega)) rfl (dd rfl) (pXs (by repeat constructor)) (fun g _ => k_last hc_ (by kernel_rfl) ?_))
    refine k_takeF 20 rfl (by kernel_rfl) (by kernel_rfl) (by kernel_rfl) rfl (v_assign rfl) (.inl (by kernel_rfl)) (dd rfl) ?_
    refine k_done (by kernel_rfl) ?_ _
    refine c_ret1 Tryz.func16 rfl rfl fun w O hS => ?_
    exact ⟨g, rfl, trivial, Ent.get hS (eX (by repeat constructor))⟩
end Go.Proofs.YtmgkeippepeggaaGreatDoor
/- Chapter 09: the document's readers: a number. -/
namespace Go.Proofs.YtmgkeippepeggaaGreatDoor
open Go Go.SL Go.Lib
theorem num9_none {e : UInt8} {l : List UInt8} {b : Bool} (h : l.findIdx? (· == e) = none) : num9 e (l, b) = none := by
  unfold num9
  split
  · rfl
  · rw [numberR_full, h]
theorem num9_bad {e : UInt8} {l : List UInt8} {b : Bool} (h : b = true) : num9 e (l, b) = none := if_pos h
theorem num9_off {e : UInt8} {l : List UInt8} {b : Bool} {k : Nat} (h : l.findIdx? (· == e) = some k) (hk : k = 0 ∨ 14 < k) : num9 e (l, b) = none := by
  unfold num9
  split
  · rfl
  · rw [numberR_full, h]
    exact if_pos hk
theorem num9_at {e : UInt8} {l : List UInt8} {b : Bool} {k : Nat} (hb : ¬ b = true) (h : l.findIdx? (· == e) = some k) (hk : ¬ (k = 0 ∨ 14 < k)) : num9 e (l, b) = (numS (l.take k)).map fun n => (n, k + 1) := by
  unfold num9
  rw [if_neg hb, numberR_full, h]
  exact if_neg hk
theorem sAt_get {B : ByteArray} {k : Nat} (h : k < B.data.toList.length) : sAt B k = ((B.data.toList[k]).toNat : Int) := by
  unfold sAt
  rw [Int.toNat_natCast, List.getD_eq_getElem?_getD, List.getElem?_eq_getElem h]; rfl
theorem extract_left (B : ByteArray) (a k : Nat) : B.extract a k = sB ((leftB B a).take (k - a)) := by
  apply ByteArray.ext
  rw [ByteArray.data_extract]
  apply Array.ext'
  rw [Array.toList_extract]
  show _ = (sB _).data.toList
  rw [sB_list]
  unfold leftB
  rw [List.extract_eq_drop_take]
def inV (B : ByteArray) (k : Nat) (bad : Bool) : Value := .agg #[.string B, .int .i64 k, .bool bad]
attribute [local irreducible] Cfg Kont StepK Val Con Qops Any Sl Own Blk BlkR Rd Pu ExA AllA Has Pick Ent Elem Beside Callable TI Lone OwnO AndA
set_option maxRecDepth 100000 in
theorem upto_con (B : ByteArray) (at0 : Nat) (bad : Bool) (e : UInt8) (hB : B.size ≤ 4611686018427387904) (ha : at0 ≤ B.size) : Con Tryz.prog 91 [inV B at0 bad, .int .u8 e.toNat] [] (γ := Unit)
    (fun _ => .tuple #[.int .i64 (((num9 e (leftB B at0, bad)).map (·.1)).getD 0), .int .i64 (((num9 e (leftB B at0, bad)).map fun p => (at0 + p.2 : Int)).getD 0), .bool (num9 e (leftB B at0, bad)).isSome]) (fun _ => True) (fun _ => []) := by
  unfold inV
  refine con_of Tryz.func91 rfl (dd rfl) fun w0 O0 => ?_
  refine c_seq ?_
  refine c_region ?_
  refine o_step (s_box rfl (dd rfl) (fun b2 => ?_))
  refine o_val (v_assign rfl) (dd rfl) ?_
  refine o_val (v_assign rfl) (dd rfl) ?_
  refine o_val (v_assign rfl) (dd rfl) ?_
  refine o_nil ?_
  refine c_seq ?_
  refine c_region ?_
  refine o_val (v_fieldAddrC 1 Tryz.underlying48 rfl ti3 (by decide) rfl) (dd rfl) ?_
  refine o_val (v_load lone3 rfl (hX (by repeat constructor)) rfl) (dd rfl) ?_
  refine o_val (v_assign rfl) (dd rfl) ?_
  refine o_nil ?_
  refine c_seq ?_
  refine c_block ?_
  refine c_loopR (γ := Nat) [(1, _), (2, _), (4, _), (5, _), (6, _)] (fun k => B.size - k) (fun k => at0 ≤ k ∧ k ≤ B.size ∧ ∀ j (h : j < B.data.toList.length), at0 ≤ j → j < k → B.data.toList[j] ≠ e) (fun k => [(7, .int .i64 k)]) (fun _ => [Blk b2 48 [.string B, .int .i64 at0, .bool bad]]) (at0) (⟨Nat.le_refl _, ha, fun _ _ _ _ => by omega⟩) (by repeat (first | exact trivial | refine ⟨rfl, ?_⟩)) (eX (by repeat constructor)) ?_
  rintro k ⟨hk1, hk2, hk3⟩ IH
  have hbl := ba_len B
  try dsimp only [List.cons_append, List.nil_append]
  refine c_seq ?_
  refine c_seq ?_
  refine c_region ?_
  refine o_val (v_move rfl) (dd rfl) ?_
  refine o_val (v_fieldAddrC 0 Tryz.underlying48 rfl ti9 (by decide) rfl) (dd rfl) ?_
  refine o_val (v_load lone9 rfl (hX (by repeat constructor)) rfl) (dd rfl) ?_
  refine o_val (v_len_str Tryz.underlying9 rfl) (dd rfl) ?_
  refine o_val (v_lt rfl rfl) (dd rfl) ?_
  refine o_val (v_move rfl) (dd rfl) ?_
  refine o_guard rfl rfl (fun g => ?_) (fun g => ?_)
  · have hk' : k < B.size := by have := of_decide_eq_true g; omega
    refine o_val (v_fieldAddrC 0 Tryz.underlying48 rfl ti9 (by decide) rfl) (dd rfl) ?_
    refine o_on rfl rfl ?_
    refine o_val (v_load lone9 rfl (hX (by repeat constructor)) rfl) (dd rfl) ?_
    refine o_on rfl rfl ?_
    refine o_val (v_move rfl) (dd rfl) ?_
    refine o_on rfl rfl ?_
    refine o_val (v_index_str Tryz.underlying9 rfl rfl (by omega)) (dd rfl) ?_
    refine o_on rfl rfl ?_
    refine o_val (v_move rfl) (dd rfl) ?_
    refine o_on rfl rfl ?_
    refine o_val (v_ne rfl rfl) (dd rfl) ?_
    refine o_val (v_pick_t rfl rfl) (dd rfl) ?_
    refine o_nil ?_
    have hsa := sAt_get (B := B) (k := k) (by omega)
    refine c_cond_p rfl (fun hne => ?_) (fun hne => ?_)
    · have hne2 : B.data.toList[k]'(by omega) ≠ e := fun h => hne (by rw [hsa, h])
      refine c_skip ?_
      refine c_block ?_
      refine c_region ?_
      refine o_val (v_move rfl) (dd rfl) ?_
      refine o_val ((by first | exact v_add64 rfl rfl (by omega) | exact v_add rfl rfl)) (dd rfl) ?_
      refine o_val (v_assign rfl) (dd rfl) ?_
      refine o_nil ?_
      refine c_inBlock ?_
      refine c_use (IH (k + 1) (by first | omega | (dsimp only; omega)) (⟨by omega, by omega, fun j h h1 h2 => (Nat.lt_succ_iff_lt_or_eq.1 h2).elim (hk3 j h h1) fun q => by subst q; exact hne2⟩)) (by repeat (first | exact trivial | refine ⟨rfl, ?_⟩)) (eX (by repeat constructor))
    · have heq : B.data.toList[k]'(by omega) = e := by
        have := Classical.not_not.1 hne
        rw [hsa] at this
        exact UInt8.toNat_inj.1 (by omega)
      have hfi := find_left hk1 (by omega) heq hk3
      refine c_exit rfl ?_
      refine c_seq ?_
      refine c_seq ?_
      refine c_env (env' := [(2, _), (4, _), (5, _), (6, _), (7, _)]) (by repeat (first | exact trivial | refine ⟨rfl, ?_⟩)) ?_
      refine c_joinb (d := 48) (decide (bad = true ∨ k = at0 ∨ at0 + 14 < k)) ?_ ?_
      rotate_left
      · intro J
        refine c_region ?_
        refine o_val (v_fieldAddrC 2 Tryz.underlying48 rfl ti4 (by decide) rfl) (dd rfl) ?_
        refine o_val (v_load lone4 rfl (hX (by repeat constructor)) rfl) (dd rfl) ?_
        refine o_val (v_move rfl) (dd rfl) ?_
        first | refine o_guard_f rfl rfl (fun g29 => ?_) (fun g29 => ?_) | refine o_guard rfl rfl (fun g29 => ?_) (fun g29 => ?_)
        · refine o_val (v_move rfl) (dd rfl) ?_
          refine o_on rfl rfl ?_
          refine o_val (v_fieldAddrC 0 Tryz.underlying48 rfl ti9 (by decide) rfl) (dd rfl) ?_
          refine o_on rfl rfl ?_
          refine o_val (v_load lone9 rfl (hX (by repeat constructor)) rfl) (dd rfl) ?_
          refine o_on rfl rfl ?_
          refine o_val (v_len_str Tryz.underlying9 rfl) (dd rfl) ?_
          refine o_on rfl rfl ?_
          refine o_val (v_eq rfl rfl) (dd rfl) ?_
          refine o_val (v_pick_f rfl rfl) (dd rfl) ?_
          refine o_val (v_move rfl) (dd rfl) ?_
          first | refine o_guard_f rfl rfl (fun g36 => ?_) (fun g36 => ?_) | refine o_guard rfl rfl (fun g36 => ?_) (fun g36 => ?_)
          · refine o_val (v_move rfl) (dd rfl) ?_
            refine o_on rfl rfl ?_
            refine o_val (v_fieldAddrC 1 Tryz.underlying48 rfl ti3 (by decide) rfl) (dd rfl) ?_
            refine o_on rfl rfl ?_
            refine o_val (v_load lone3 rfl (hX (by repeat constructor)) rfl) (dd rfl) ?_
            refine o_on rfl rfl ?_
            refine o_val (v_eq rfl rfl) (dd rfl) ?_
            refine o_val (v_pick_f rfl rfl) (dd rfl) ?_
            refine o_val (v_move rfl) (dd rfl) ?_
            first | refine o_guard_f rfl rfl (fun g42 => ?_) (fun g42 => ?_) | refine o_guard rfl rfl (fun g42 => ?_) (fun g42 => ?_)
            · refine o_val (v_move rfl) (dd rfl) ?_
              refine o_on rfl rfl ?_
              refine o_val (v_fieldAddrC 1 Tryz.underlying48 rfl ti3 (by decide) rfl) (dd rfl) ?_
              refine o_on rfl rfl ?_
              refine o_val (v_load lone3 rfl (hX (by repeat constructor)) rfl) (dd rfl) ?_
              refine o_on rfl rfl ?_
              refine o_val ((by first | exact v_add64 rfl rfl (by omega) | exact v_add rfl rfl)) (dd rfl) ?_
              refine o_on rfl rfl ?_
              refine o_val (v_gt rfl rfl) (dd rfl) ?_
              refine o_val (v_pick_f rfl rfl) (dd rfl) ?_
              refine o_nil ?_
              exact c_use J ⟨Env.as rfl (congrArg Value.bool (by clear IH hk3 hfi heq hne hsa; first | rfl | (simp_all; done) | (simp_all; omega) | exact decide_eq_decide.2 ⟨fun h => .inr (.inr (by omega)), fun h => h.elim (fun h => absurd (g29.symm.trans h) (by decide)) fun h => h.elim (fun h => absurd (congrArg Int.ofNat h) g42) fun h => by omega⟩)), (by repeat (first | exact trivial | refine ⟨rfl, ?_⟩))⟩ (by first | exact Ent.refl _ | exact eX (by repeat constructor))
            · refine o_off rfl rfl rfl (dd rfl) ?_
              refine o_off rfl rfl rfl (dd rfl) ?_
              refine o_off rfl rfl rfl (dd rfl) ?_
              refine o_off rfl rfl rfl (dd rfl) ?_
              refine o_off rfl rfl rfl (dd rfl) ?_
              refine o_val (v_pick_t rfl rfl) (dd rfl) ?_
              refine o_nil ?_
              exact c_use J ⟨Env.as rfl (congrArg Value.bool (by clear IH hk3 hfi heq hne hsa; first | rfl | (simp_all; done) | (simp_all; omega) | exact decide_eq_decide.2 ⟨fun h => .inr (.inr (by omega)), fun h => h.elim (fun h => absurd (g29.symm.trans h) (by decide)) fun h => h.elim (fun h => absurd (congrArg Int.ofNat h) g42) fun h => by omega⟩)), (by repeat (first | exact trivial | refine ⟨rfl, ?_⟩))⟩ (by first | exact Ent.refl _ | exact eX (by repeat constructor))
          · refine o_off rfl rfl rfl (dd rfl) ?_
            refine o_off rfl rfl rfl (dd rfl) ?_
            refine o_off rfl rfl rfl (dd rfl) ?_
            refine o_off rfl rfl rfl (dd rfl) ?_
            refine o_val (v_pick_t rfl rfl) (dd rfl) ?_
            refine o_val (v_move rfl) (dd rfl) ?_
            refine o_off rfl rfl rfl (dd rfl) ?_
            refine o_off rfl rfl rfl (dd rfl) ?_
            refine o_off rfl rfl rfl (dd rfl) ?_
            refine o_off rfl rfl rfl (dd rfl) ?_
            refine o_off rfl rfl rfl (dd rfl) ?_
            refine o_val (v_pick_t rfl rfl) (dd rfl) ?_
            refine o_nil ?_
            exact c_use J ⟨Env.as rfl (congrArg Value.bool (by clear IH hk3 hfi heq hne hsa; first | rfl | (simp_all; done) | (simp_all; omega) | exact decide_eq_decide.2 ⟨fun h => .inr (.inr (by omega)), fun h => h.elim (fun h => absurd (g29.symm.trans h) (by decide)) fun h => h.elim (fun h => absurd (congrArg Int.ofNat h) g42) fun h => by omega⟩)), (by repeat (first | exact trivial | refine ⟨rfl, ?_⟩))⟩ (by first | exact Ent.refl _ | exact eX (by repeat constructor))
        · refine o_off rfl rfl rfl (dd rfl) ?_
          refine o_off rfl rfl rfl (dd rfl) ?_
          refine o_off rfl rfl rfl (dd rfl) ?_
          refine o_off rfl rfl rfl (dd rfl) ?_
          refine o_off rfl rfl rfl (dd rfl) ?_
          refine o_val (v_pick_t rfl rfl) (dd rfl) ?_
          refine o_val (v_move rfl) (dd rfl) ?_
          refine o_off rfl rfl rfl (dd rfl) ?_
          refine o_off rfl rfl rfl (dd rfl) ?_
          refine o_off rfl rfl rfl (dd rfl) ?_
          refine o_off rfl rfl rfl (dd rfl) ?_
          refine o_val (v_pick_t rfl rfl) (dd rfl) ?_
          refine o_val (v_move rfl) (dd rfl) ?_
          refine o_off rfl rfl rfl (dd rfl) ?_
          refine o_off rfl rfl rfl (dd rfl) ?_
          refine o_off rfl rfl rfl (dd rfl) ?_
          refine o_off rfl rfl rfl (dd rfl) ?_
          refine o_off rfl rfl rfl (dd rfl) ?_
          refine o_val (v_pick_t rfl rfl) (dd rfl) ?_
          refine o_nil ?_
          exact c_use J ⟨Env.as rfl (congrArg Value.bool (by clear IH hk3 hfi heq hne hsa; first | rfl | (simp_all; done) | (simp_all; omega) | exact decide_eq_decide.2 ⟨fun h => .inr (.inr (by omega)), fun h => h.elim (fun h => absurd (g29.symm.trans h) (by decide)) fun h => h.elim (fun h => absurd (congrArg Int.ofNat h) g42) fun h => by omega⟩)), (by repeat (first | exact trivial | refine ⟨rfl, ?_⟩))⟩ (by first | exact Ent.refl _ | exact eX (by repeat constructor))
      refine c_cond_p rfl (fun hp => ?_) (fun hp => ?_)
      · have hno : num9 e (leftB B at0, bad) = none := hp.elim num9_bad fun h => num9_off hfi (by omega)
        refine c_seq ?_
        refine c_region ?_
        refine o_val (v_assign rfl) (dd rfl) ?_
        refine o_val (v_assign rfl) (dd rfl) ?_
        refine o_val (v_assign rfl) (dd rfl) ?_
        refine o_nil ?_
        refine c_ret3 Tryz.func91 rfl rfl rfl rfl fun w O hS => ?_
        exact ⟨(), by rw [hno]; rfl, trivial, trivial⟩
      · have hat := num9_at (fun h => hp (.inl h)) hfi (by omega)
        have hTl : ((leftB B at0).take (k - at0)).length = k - at0 := by rw [List.length_take, leftB_len]; omega
        refine c_skip ?_
        refine c_seq ?_
        refine c_region ?_
        refine o_val (v_assign rfl) (dd rfl) ?_
        refine o_nil ?_
        refine c_seq ?_
        refine c_seq ?_
        refine c_region ?_
        refine o_val (v_fieldAddrC 1 Tryz.underlying48 rfl ti3 (by decide) rfl) (dd rfl) ?_
        refine o_val (v_load lone3 rfl (hX (by repeat constructor)) rfl) (dd rfl) ?_
        refine o_val (v_assign rfl) (dd rfl) ?_
        refine o_nil ?_
        refine c_block ?_
        refine c_loopR (γ := Nat × Int) [(2, _), (4, _), (5, _), (6, _), (7, _)] (fun g => k - g.1) (fun g => at0 ≤ g.1 ∧ g.1 ≤ k ∧ g.2 = valR ((leftB B at0).take (g.1 - at0))) (fun g => [(9, .int .i64 g.1), (8, .int .i64 g.2)]) (fun _ => [Blk b2 48 [.string B, .int .i64 at0, .bool bad]]) ((at0, 0)) (⟨Nat.le_refl _, hk1, by simp [valR]⟩) (by repeat (first | exact trivial | refine ⟨rfl, ?_⟩)) (eX (by repeat constructor)) ?_
        rintro ⟨j, n⟩ ⟨hj1, hj2, hn⟩ IH2
        dsimp only at hj1 hj2 hn ⊢
        try dsimp only [List.cons_append, List.nil_append]
        refine c_seq ?_
        refine c_seq ?_
        refine c_region ?_
        refine o_val (v_move rfl) (dd rfl) ?_
        refine o_val (v_move rfl) (dd rfl) ?_
        refine o_val (v_lt rfl rfl) (dd rfl) ?_
        refine o_nil ?_
        refine c_cond_p rfl (fun hlj => ?_) (fun hlj => ?_)
        · have hjk : j < k := by omega
          have hsj := sAt_get (B := B) (k := j) (by omega)
          have hgj := leftB_get (B := B) (a := at0) (j := j - at0) (by omega)
          refine c_skip ?_
          refine c_seq ?_
          refine c_block ?_
          refine c_seq ?_
          have htk : (leftB B at0).take (j + 1 - at0) = (leftB B at0).take (j - at0 + 1) := by rw [show j + 1 - at0 = j - at0 + 1 by omega]
          have hjl : j - at0 < (leftB B at0).length := by rw [leftB_len]; omega
          have hnx := valR_next hjl
          have hbd := val_small (s := (leftB B at0).take (j - at0)) (by rw [List.length_take]; omega)
          rw [← hn] at hbd hnx
          have hsl : sAt B j = (((leftB B at0)[j - at0]'hjl).toNat : Int) := by
            have hix : at0 + (j - at0) = j := by omega
            rw [List.getElem?_eq_getElem hjl] at hgj
            have hgi := Option.some.inj hgj
            rw [hsj, hgi]
            simp only [hix]
          have hc256 := UInt8.toNat_lt ((leftB B at0)[j - at0]'hjl)
          refine c_env (env' := [(2, _), (4, _), (5, _), (6, _), (7, _), (8, _), (9, _), (51, _), (52, _), (53, _)]) (by repeat (first | exact trivial | refine ⟨rfl, ?_⟩)) ?_
          refine c_joinb (d := 67) (decide (48 ≤ ((leftB B at0)[j - at0]'hjl).toNat ∧ ((leftB B at0)[j - at0]'hjl).toNat ≤ 57)) ?_ ?_
          rotate_left
          · intro J
            refine c_region ?_
            refine o_val (v_fieldAddrC 0 Tryz.underlying48 rfl ti9 (by decide) rfl) (dd rfl) ?_
            refine o_val (v_load lone9 rfl (hX (by repeat constructor)) rfl) (dd rfl) ?_
            refine o_val (v_move rfl) (dd rfl) ?_
            refine o_val (v_index_str Tryz.underlying9 rfl rfl (by omega)) (dd rfl) ?_
            refine o_val (v_ge rfl rfl) (dd rfl) ?_
            refine o_val (v_move rfl) (dd rfl) ?_
            first | refine o_guard_t rfl rfl (fun g61 => ?_) (fun g61 => ?_) | refine o_guard rfl rfl (fun g61 => ?_) (fun g61 => ?_)
            · refine o_val (v_fieldAddrC 0 Tryz.underlying48 rfl ti9 (by decide) rfl) (dd rfl) ?_
              refine o_on rfl rfl ?_
              refine o_val (v_load lone9 rfl (hX (by repeat constructor)) rfl) (dd rfl) ?_
              refine o_on rfl rfl ?_
              refine o_val (v_move rfl) (dd rfl) ?_
              refine o_on rfl rfl ?_
              refine o_val (v_index_str Tryz.underlying9 rfl rfl (by omega)) (dd rfl) ?_
              refine o_on rfl rfl ?_
              refine o_val (v_le rfl rfl) (dd rfl) ?_
              refine o_val (v_pick_t rfl rfl) (dd rfl) ?_
              refine o_nil ?_
              exact c_use J ⟨Env.as rfl (congrArg Value.bool (by clear IH IH2 hk3 hfi heq hne hsa hat hnx htk hgj hsj; rw [hsl] at *; first | rfl | (simp_all; done) | (simp_all; omega) | exact decide_eq_decide.2 ⟨fun h => ⟨by omega, by omega⟩, fun h => by omega⟩)), (by repeat (first | exact trivial | refine ⟨rfl, ?_⟩))⟩ (by first | exact Ent.refl _ | exact eX (by repeat constructor))
            · refine o_off rfl rfl rfl (dd rfl) ?_
              refine o_off rfl rfl rfl (dd rfl) ?_
              refine o_off rfl rfl rfl (dd rfl) ?_
              refine o_off rfl rfl rfl (dd rfl) ?_
              refine o_off rfl rfl rfl (dd rfl) ?_
              refine o_val (v_pick_f rfl rfl) (dd rfl) ?_
              refine o_nil ?_
              exact c_use J ⟨Env.as rfl (congrArg Value.bool (by clear IH IH2 hk3 hfi heq hne hsa hat hnx htk hgj hsj; rw [hsl] at *; first | rfl | (simp_all; done) | (simp_all; omega) | exact decide_eq_decide.2 ⟨fun h => ⟨by omega, by omega⟩, fun h => by omega⟩)), (by repeat (first | exact trivial | refine ⟨rfl, ?_⟩))⟩ (by first | exact Ent.refl _ | exact eX (by repeat constructor))
          refine c_cond_p rfl (fun hd => ?_) (fun hd => ?_)
          · have hcv : IntKind.i64.wrap (sAt B j) = (((leftB B at0)[j - at0]'hjl).toNat : Int) := by rw [IntKind.wrap_i64, hsl]; omega
            refine c_region ?_
            refine o_val (v_move rfl) (dd rfl) ?_
            refine o_val ((by first | exact v_mul64 rfl rfl (by omega) | exact v_mul rfl rfl)) (dd rfl) ?_
            refine o_val (v_fieldAddrC 0 Tryz.underlying48 rfl ti9 (by decide) rfl) (dd rfl) ?_
            refine o_val (v_load lone9 rfl (hX (by repeat constructor)) rfl) (dd rfl) ?_
            refine o_val (v_move rfl) (dd rfl) ?_
            refine o_val (v_index_str Tryz.underlying9 rfl rfl (by omega)) (dd rfl) ?_
            refine o_val (v_conv_int Tryz.underlying5 Tryz.underlying3 rfl) (dd rfl) ?_
            refine o_val ((by first | exact v_add64 rfl rfl (by omega) | exact v_add rfl rfl)) (dd rfl) ?_
            refine o_val ((by first | exact v_sub64 rfl rfl (by omega) | exact v_sub rfl rfl)) (dd rfl) ?_
            refine o_val (v_assign rfl) (dd rfl) ?_
            refine o_nil ?_
            refine c_inBlock ?_
            refine c_region ?_
            refine o_val (v_move rfl) (dd rfl) ?_
            refine o_val ((by first | exact v_add64 rfl rfl (by omega) | exact v_add rfl rfl)) (dd rfl) ?_
            refine o_val (v_assign rfl) (dd rfl) ?_
            refine o_nil ?_
            rw [hcv]
            refine c_use (IH2 ((j + 1, 10 * n + (((leftB B at0)[j - at0]'hjl).toNat : Int) - 48)) (by first | omega | (dsimp only; omega)) (⟨by dsimp only; omega, by dsimp only; omega, by dsimp only; rw [htk, hnx]; exact (if_pos hd).symm⟩)) (by repeat (first | exact trivial | refine ⟨rfl, ?_⟩)) (eX (by repeat constructor))
          · refine c_skip ?_
            refine c_inBlock ?_
            refine c_region ?_
            refine o_val (v_move rfl) (dd rfl) ?_
            refine o_val ((by first | exact v_add64 rfl rfl (by omega) | exact v_add rfl rfl)) (dd rfl) ?_
            refine o_val (v_assign rfl) (dd rfl) ?_
            refine o_nil ?_
            refine c_use (IH2 ((j + 1, n)) (by first | omega | (dsimp only; omega)) (⟨by dsimp only; omega, by dsimp only; omega, by dsimp only; rw [htk, hnx]; exact (if_neg hd).symm⟩)) (by repeat (first | exact trivial | refine ⟨rfl, ?_⟩)) (eX (by repeat constructor))
        · have hje : j = k := by omega
          subst hje
          have hkl : j - at0 ≠ 0 ∧ ¬ 14 < j - at0 := by omega
          have hbd := val_small (s := (leftB B at0).take (j - at0)) (by omega)
          have hs0 := sAt_get (B := B) (k := at0) (by omega)
          have hhd : ((leftB B at0).take (j - at0)).head? = some (B.data.toList[at0]'(by omega)) := by
            rw [List.head?_take, if_neg hkl.1, List.head?_eq_getElem?]
            exact leftB_get (B := B) (a := at0) (j := 0) (by omega)
          rw [← hn] at hbd
          have hex : B.extract ((at0 : Int).toNat) ((j : Int).toNat) = sB ((leftB B at0).take (j - at0)) := extract_left B at0 j
          refine c_exit rfl ?_
          refine c_seq ?_
          refine c_seq ?_
          refine c_region ?_
          refine o_val (v_fieldAddrC 0 Tryz.underlying48 rfl ti9 (by decide) rfl) (dd rfl) ?_
          refine o_val (v_load lone9 rfl (hX (by repeat constructor)) rfl) (dd rfl) ?_
          refine o_val (v_fieldAddrC 1 Tryz.underlying48 rfl ti3 (by decide) rfl) (dd rfl) ?_
          refine o_val (v_load lone3 rfl (hX (by repeat constructor)) rfl) (dd rfl) ?_
          refine o_val (v_index_str Tryz.underlying9 rfl rfl (by omega)) (dd rfl) ?_
          refine o_val (v_eq rfl rfl) (dd rfl) ?_
          refine o_nil ?_
          refine c_cond_p rfl (fun h45 => ?_) (fun h45 => ?_)
          · have hvS : valS ((leftB B at0).take (j - at0)) = 0 - n := by
              unfold valS
              rw [hhd, if_pos (congrArg some (UInt8.toNat_inj.1 (by rw [hs0] at h45; exact Int.ofNat.inj h45))), hn]
            refine c_region ?_
            refine o_val (v_move rfl) (dd rfl) ?_
            refine o_val ((by first | exact v_sub64 rfl rfl (by omega) | exact v_sub rfl rfl)) (dd rfl) ?_
            refine o_val (v_assign rfl) (dd rfl) ?_
            refine o_nil ?_
            refine c_seq ?_
            refine c_seq ?_
            refine c_held [BlkR b2 48 [.string B, .int .i64 at0, .bool bad]] rfl ?_
            refine a_take 0 rfl (by kernel_rfl) (by kernel_rfl) (by kernel_rfl) (v_move rfl) (eX (by repeat constructor)) (dd rfl) ?_
            refine a_take 2 rfl (by kernel_rfl) (by kernel_rfl) (by kernel_rfl) (v_fieldAddrC 0 Tryz.underlying48 rfl ti9 (by decide) rfl) (eX (by repeat constructor)) (dd rfl) ?_
            refine a_take 3 rfl (by kernel_rfl) (by kernel_rfl) (by kernel_rfl) (v_load lone9 rfl (hX (by repeat constructor)) rfl) (eX (by repeat constructor)) (dd rfl) ?_
            refine a_take 4 rfl (by kernel_rfl) (by kernel_rfl) (by kernel_rfl) (v_fieldAddrC 1 Tryz.underlying48 rfl ti3 (by decide) rfl) (eX (by repeat constructor)) (dd rfl) ?_
            refine a_take 5 rfl (by kernel_rfl) (by kernel_rfl) (by kernel_rfl) (v_load lone3 rfl (hX (by repeat constructor)) rfl) (eX (by repeat constructor)) (dd rfl) ?_
            refine a_take 6 rfl (by kernel_rfl) (by kernel_rfl) (by kernel_rfl) (v_move rfl) (eX (by repeat constructor)) (dd rfl) ?_
            refine a_take 7 rfl (by kernel_rfl) (by kernel_rfl) (by kernel_rfl) (v_cut Tryz.underlying9 rfl rfl rfl (by omega)) (eX (by repeat constructor)) (dd rfl) ?_
            refine a_one 1 rfl (by kernel_rfl) (s_callf_keep cl84 (digits_con (((0 - n)).natAbs + 2) (0 - n) (by split <;> omega) (by omega) (by omega)) rfl (dd rfl) (rX (by repeat constructor)) (fun _ => sX) (fun _ _ => a_on (eX (by repeat constructor)) ?_))
            refine a_take 8 rfl (by kernel_rfl) (by kernel_rfl) (by kernel_rfl) (v_sne rfl rfl) (eX (by repeat constructor)) (dd rfl) ?_
            refine a_done (by kernel_rfl) ?_ _
            rw [hex]
            refine c_cond_p rfl (fun hq => ?_) (fun hq => ?_)
            · have hno : numS ((leftB B at0).take (j - at0)) = none := by
                unfold numS
                rw [hvS, if_neg fun k => hq (by rw [k])]
              refine c_seq ?_
              refine c_region ?_
              refine o_val (v_assign rfl) (dd rfl) ?_
              refine o_val (v_assign rfl) (dd rfl) ?_
              refine o_val (v_assign rfl) (dd rfl) ?_
              refine o_nil ?_
              refine c_ret3 Tryz.func91 rfl rfl rfl rfl fun w O hS => ?_
              exact ⟨(), by rw [hat, hno]; rfl, trivial, trivial⟩
            · have hyes : numS ((leftB B at0).take (j - at0)) = some ((0 - n)) := by
                unfold numS
                rw [hvS, if_pos (sB_inj (Classical.not_not.1 hq))]
              have hki : (at0 : Int) + ((j - at0 + 1 : Nat) : Int) = (j : Int) + 1 := by omega
              refine c_skip ?_
              refine c_seq ?_
              refine c_region ?_
              refine o_val (v_move rfl) (dd rfl) ?_
              refine o_val (v_move rfl) (dd rfl) ?_
              refine o_val ((by first | exact v_add64 rfl rfl (by omega) | exact v_add rfl rfl)) (dd rfl) ?_
              refine o_val (v_assign rfl) (dd rfl) ?_
              refine o_val (v_assign rfl) (dd rfl) ?_
              refine o_val (v_assign rfl) (dd rfl) ?_
              refine o_nil ?_
              refine c_ret3 Tryz.func91 rfl rfl rfl rfl fun w O hS => ?_
              refine ⟨(), ?_, trivial, trivial⟩
              rw [hat, hyes]
              simp only [Option.map_some, Option.getD_some, Option.isSome_some, hki]
          · have hvS : valS ((leftB B at0).take (j - at0)) = n := by
              unfold valS
              rw [hhd, if_neg (fun k => h45 (by rw [hs0, Option.some.inj k]; rfl)), hn]
            refine c_skip ?_
            refine c_seq ?_
            refine c_seq ?_
            refine c_held [BlkR b2 48 [.string B, .int .i64 at0, .bool bad]] rfl ?_
            refine a_take 0 rfl (by kernel_rfl) (by kernel_rfl) (by kernel_rfl) (v_move rfl) (eX (by repeat constructor)) (dd rfl) ?_
            refine a_take 2 rfl (by kernel_rfl) (by kernel_rfl) (by kernel_rfl) (v_fieldAddrC 0 Tryz.underlying48 rfl ti9 (by decide) rfl) (eX (by repeat constructor)) (dd rfl) ?_
            refine a_take 3 rfl (by kernel_rfl) (by kernel_rfl) (by kernel_rfl) (v_load lone9 rfl (hX (by repeat constructor)) rfl) (eX (by repeat constructor)) (dd rfl) ?_
            refine a_take 4 rfl (by kernel_rfl) (by kernel_rfl) (by kernel_rfl) (v_fieldAddrC 1 Tryz.underlying48 rfl ti3 (by decide) rfl) (eX (by repeat constructor)) (dd rfl) ?_
            refine a_take 5 rfl (by kernel_rfl) (by kernel_rfl) (by kernel_rfl) (v_load lone3 rfl (hX (by repeat constructor)) rfl) (eX (by repeat constructor)) (dd rfl) ?_
            refine a_take 6 rfl (by kernel_rfl) (by kernel_rfl) (by kernel_rfl) (v_move rfl) (eX (by repeat constructor)) (dd rfl) ?_
            refine a_take 7 rfl (by kernel_rfl) (by kernel_rfl) (by kernel_rfl) (v_cut Tryz.underlying9 rfl rfl rfl (by omega)) (eX (by repeat constructor)) (dd rfl) ?_
            refine a_one 1 rfl (by kernel_rfl) (s_callf_keep cl84 (digits_con ((n).natAbs + 2) n (by split <;> omega) (by omega) (by omega)) rfl (dd rfl) (rX (by repeat constructor)) (fun _ => sX) (fun _ _ => a_on (eX (by repeat constructor)) ?_))
            refine a_take 8 rfl (by kernel_rfl) (by kernel_rfl) (by kernel_rfl) (v_sne rfl rfl) (eX (by repeat constructor)) (dd rfl) ?_
            refine a_done (by kernel_rfl) ?_ _
            rw [hex]
            refine c_cond_p rfl (fun hq => ?_) (fun hq => ?_)
            · have hno : numS ((leftB B at0).take (j - at0)) = none := by
                unfold numS
                rw [hvS, if_neg fun k => hq (by rw [k])]
              refine c_seq ?_
              refine c_region ?_
              refine o_val (v_assign rfl) (dd rfl) ?_
              refine o_val (v_assign rfl) (dd rfl) ?_
              refine o_val (v_assign rfl) (dd rfl) ?_
              refine o_nil ?_
              refine c_ret3 Tryz.func91 rfl rfl rfl rfl fun w O hS => ?_
              exact ⟨(), by rw [hat, hno]; rfl, trivial, trivial⟩
            · have hyes : numS ((leftB B at0).take (j - at0)) = some (n) := by
                unfold numS
                rw [hvS, if_pos (sB_inj (Classical.not_not.1 hq))]
              have hki : (at0 : Int) + ((j - at0 + 1 : Nat) : Int) = (j : Int) + 1 := by omega
              refine c_skip ?_
              refine c_seq ?_
              refine c_region ?_
              refine o_val (v_move rfl) (dd rfl) ?_
              refine o_val (v_move rfl) (dd rfl) ?_
              refine o_val ((by first | exact v_add64 rfl rfl (by omega) | exact v_add rfl rfl)) (dd rfl) ?_
              refine o_val (v_assign rfl) (dd rfl) ?_
              refine o_val (v_assign rfl) (dd rfl) ?_
              refine o_val (v_assign rfl) (dd rfl) ?_
              refine o_nil ?_
              refine c_ret3 Tryz.func91 rfl rfl rfl rfl fun w O hS => ?_
              refine ⟨(), ?_, trivial, trivial⟩
              rw [hat, hyes]
              simp only [Option.map_some, Option.getD_some, Option.isSome_some, hki]
  · have hke : k = B.size := by have := of_decide_eq_false g; omega
    have hno : num9 e (leftB B at0, bad) = none := num9_none (find_nowhere fun j h h1 => hk3 j h h1 (by omega))
    refine o_off rfl rfl rfl (dd rfl) ?_
    refine o_off rfl rfl rfl (dd rfl) ?_
    refine o_off rfl rfl rfl (dd rfl) ?_
    refine o_off rfl rfl rfl (dd rfl) ?_
    refine o_off rfl rfl rfl (dd rfl) ?_
    refine o_off rfl rfl rfl (dd rfl) ?_
    refine o_val (v_pick_f rfl rfl) (dd rfl) ?_
    refine o_nil ?_
    refine c_cond_f rfl ?_
    refine c_exit rfl ?_
    refine c_seq ?_
    refine c_seq ?_
    refine c_env (env' := [(2, _), (4, _), (5, _), (6, _), (7, _)]) (by repeat (first | exact trivial | refine ⟨rfl, ?_⟩)) ?_
    refine c_joinb (d := 48) (decide (True)) ?_ ?_
    rotate_left
    · intro J
      refine c_region ?_
      refine o_val (v_fieldAddrC 2 Tryz.underlying48 rfl ti4 (by decide) rfl) (dd rfl) ?_
      refine o_val (v_load lone4 rfl (hX (by repeat constructor)) rfl) (dd rfl) ?_
      refine o_val (v_move rfl) (dd rfl) ?_
      first | refine o_guard_f rfl rfl (fun g29 => ?_) (fun g29 => ?_) | refine o_guard rfl rfl (fun g29 => ?_) (fun g29 => ?_)
      · refine o_val (v_move rfl) (dd rfl) ?_
        refine o_on rfl rfl ?_
        refine o_val (v_fieldAddrC 0 Tryz.underlying48 rfl ti9 (by decide) rfl) (dd rfl) ?_
        refine o_on rfl rfl ?_
        refine o_val (v_load lone9 rfl (hX (by repeat constructor)) rfl) (dd rfl) ?_
        refine o_on rfl rfl ?_
        refine o_val (v_len_str Tryz.underlying9 rfl) (dd rfl) ?_
        refine o_on rfl rfl ?_
        refine o_val (v_eq rfl rfl) (dd rfl) ?_
        refine o_val (v_pick_f rfl rfl) (dd rfl) ?_
        refine o_val (v_move rfl) (dd rfl) ?_
        first | refine o_guard_f rfl rfl (fun g36 => ?_) (fun g36 => ?_) | refine o_guard rfl rfl (fun g36 => ?_) (fun g36 => ?_)
        · refine o_val (v_move rfl) (dd rfl) ?_
          refine o_on rfl rfl ?_
          refine o_val (v_fieldAddrC 1 Tryz.underlying48 rfl ti3 (by decide) rfl) (dd rfl) ?_
          refine o_on rfl rfl ?_
          refine o_val (v_load lone3 rfl (hX (by repeat constructor)) rfl) (dd rfl) ?_
          refine o_on rfl rfl ?_
          refine o_val (v_eq rfl rfl) (dd rfl) ?_
          refine o_val (v_pick_f rfl rfl) (dd rfl) ?_
          refine o_val (v_move rfl) (dd rfl) ?_
          first | refine o_guard_f rfl rfl (fun g42 => ?_) (fun g42 => ?_) | refine o_guard rfl rfl (fun g42 => ?_) (fun g42 => ?_)
          · refine o_val (v_move rfl) (dd rfl) ?_
            refine o_on rfl rfl ?_
            refine o_val (v_fieldAddrC 1 Tryz.underlying48 rfl ti3 (by decide) rfl) (dd rfl) ?_
            refine o_on rfl rfl ?_
            refine o_val (v_load lone3 rfl (hX (by repeat constructor)) rfl) (dd rfl) ?_
            refine o_on rfl rfl ?_
            refine o_val ((by first | exact v_add64 rfl rfl (by omega) | exact v_add rfl rfl)) (dd rfl) ?_
            refine o_on rfl rfl ?_
            refine o_val (v_gt rfl rfl) (dd rfl) ?_
            refine o_val (v_pick_f rfl rfl) (dd rfl) ?_
            refine o_nil ?_
            exact c_use J ⟨Env.as rfl (congrArg Value.bool (by first | rfl | (simp_all; done) | (simp_all; omega) | (simp; omega))), (by repeat (first | exact trivial | refine ⟨rfl, ?_⟩))⟩ (by first | exact Ent.refl _ | exact eX (by repeat constructor))
          · refine o_off rfl rfl rfl (dd rfl) ?_
            refine o_off rfl rfl rfl (dd rfl) ?_
            refine o_off rfl rfl rfl (dd rfl) ?_
            refine o_off rfl rfl rfl (dd rfl) ?_
            refine o_off rfl rfl rfl (dd rfl) ?_
            refine o_val (v_pick_t rfl rfl) (dd rfl) ?_
            refine o_nil ?_
            exact c_use J ⟨Env.as rfl (congrArg Value.bool (by first | rfl | (simp_all; done) | (simp_all; omega) | (simp; omega))), (by repeat (first | exact trivial | refine ⟨rfl, ?_⟩))⟩ (by first | exact Ent.refl _ | exact eX (by repeat constructor))
        · refine o_off rfl rfl rfl (dd rfl) ?_
          refine o_off rfl rfl rfl (dd rfl) ?_
          refine o_off rfl rfl rfl (dd rfl) ?_
          refine o_off rfl rfl rfl (dd rfl) ?_
          refine o_val (v_pick_t rfl rfl) (dd rfl) ?_
          refine o_val (v_move rfl) (dd rfl) ?_
          refine o_off rfl rfl rfl (dd rfl) ?_
          refine o_off rfl rfl rfl (dd rfl) ?_
          refine o_off rfl rfl rfl (dd rfl) ?_
          refine o_off rfl rfl rfl (dd rfl) ?_
          refine o_off rfl rfl rfl (dd rfl) ?_
          refine o_val (v_pick_t rfl rfl) (dd rfl) ?_
          refine o_nil ?_
          exact c_use J ⟨Env.as rfl (congrArg Value.bool (by first | rfl | (simp_all; done) | (simp_all; omega) | (simp; omega))), (by repeat (first | exact trivial | refine ⟨rfl, ?_⟩))⟩ (by first | exact Ent.refl _ | exact eX (by repeat constructor))
      · refine o_off rfl rfl rfl (dd rfl) ?_
        refine o_off rfl rfl rfl (dd rfl) ?_
        refine o_off rfl rfl rfl (dd rfl) ?_
        refine o_off rfl rfl rfl (dd rfl) ?_
        refine o_off rfl rfl rfl (dd rfl) ?_
        refine o_val (v_pick_t rfl rfl) (dd rfl) ?_
        refine o_val (v_move rfl) (dd rfl) ?_
        refine o_off rfl rfl rfl (dd rfl) ?_
        refine o_off rfl rfl rfl (dd rfl) ?_
        refine o_off rfl rfl rfl (dd rfl) ?_
        refine o_off rfl rfl rfl (dd rfl) ?_
        refine o_val (v_pick_t rfl rfl) (dd rfl) ?_
        refine o_val (v_move rfl) (dd rfl) ?_
        refine o_off rfl rfl rfl (dd rfl) ?_
        refine o_off rfl rfl rfl (dd rfl) ?_
        refine o_off rfl rfl rfl (dd rfl) ?_
        refine o_off rfl rfl rfl (dd rfl) ?_
        refine o_off rfl rfl rfl (dd rfl) ?_
        refine o_val (v_pick_t rfl rfl) (dd rfl) ?_
        refine o_nil ?_
        exact c_use J ⟨Env.as rfl (congrArg Value.bool (by first | rfl | (simp_all; done) | (simp_all; omega) | (simp; omega))), (by repeat (first | exact trivial | refine ⟨rfl, ?_⟩))⟩ (by first | exact Ent.refl _ | exact eX (by repeat constructor))
    refine c_cond_p rfl (fun hp => ?_) (fun hp => ?_)
    · refine c_seq ?_
      refine c_region ?_
      refine o_val (v_assign rfl) (dd rfl) ?_
      refine o_val (v_assign rfl) (dd rfl) ?_
      refine o_val (v_assign rfl) (dd rfl) ?_
      refine o_nil ?_
      refine c_ret3 Tryz.func91 rfl rfl rfl rfl fun w O hS => ?_
      exact ⟨(), by rw [hno]; rfl, trivial, trivial⟩
    · exact absurd trivial hp
end Go.Proofs.YtmgkeippepeggaaGreatDoor
