/- Cuts with explicit values; slices that may be appended to without being owned (their capacity is their length). -/
import Derived.Test.YtnamhhmfnokfiaaQ7
namespace Go.SL
open Go

section
variable {K : Act → World → Prop} {X : Cx} {ops : Array Oper} {rest : List Oper} {kk : List Item} {env : Env} {L L1 L2 : List A} {d : Nat} {T : TypeId} {pos : String} {af : Array Edge} {x y : Operand}
variable {α : Type} {e : Enc α} {v u : Value} {zs ys : List α} {E : TypeId}

def cutV (a0 : Option Addr) (l h c n : Nat) : Value := .slice (if c = l then a0 else a0.map (·.add (l * n))) (h - l) (c - l)
theorem v_slice {t : TypeId} {z0 : Value} {bt n len cap : Nat} {a0 : Option Addr} {lo hi mx : Option Operand} {l h c : Nat} (hu : X.P.underlying t = some (.slice E)) (hE : TI X.P E z0 n bt) (hx : env.eval x = some (.slice a0 len cap))
    (hlo : (lo = none ∧ l = 0) ∨ ∃ o K n, lo = some o ∧ env.eval o = some (.int K n) ∧ 0 ≤ n ∧ n.toNat = l)
    (hhi : (hi = none ∧ h = len ∧ mx = none) ∨ ∃ o K n, hi = some o ∧ env.eval o = some (.int K n) ∧ 0 ≤ n ∧ n.toNat = h)
    (hmx : (mx = none ∧ c = cap) ∨ ∃ o K n, mx = some o ∧ env.eval o = some (.int K n) ∧ 0 ≤ n ∧ n.toNat = c)
    (h1 : l ≤ h) (h2 : h ≤ c) (h3 : c ≤ cap) :
    Val X env L (.slice t x lo hi mx) T (cutV a0 l h c n) := by
  intro _ _ _ _ a w O ha _
  obtain ⟨ti, hi', _, hsz, _⟩ := hE
  have hbl : ∀ {o : Operand} {K : IntKind} {n : Int} {m : Nat} {c : BoundsCode}, env.eval o = some (.int K n) → 0 ≤ n → n.toNat ≤ m → (Instr.sliceBound (a.eval o) m c).run X.P w = .ok n.toNat w := by
    intro o K n m c ho h0 hm
    rw [ha.eval ho, run_sliceBound (w := w) K n m c h0 (by omega)]
  have hbd : (Instr.sliceBounds true len cap (lo.map a.eval) (hi.map a.eval) (mx.map a.eval)).run X.P w = .ok (l, h, c) w := by
    rcases hmx with ⟨rfl, rfl⟩ | ⟨o3, K3, n3, rfl, ho3, hn3, rfl⟩
    · rcases hlo with ⟨rfl, rfl⟩ | ⟨o1, K1, n1, rfl, ho1, hn1, rfl⟩ <;> rcases hhi with ⟨rfl, rfl, _⟩ | ⟨o2, K2, n2, rfl, ho2, hn2, rfl⟩
      · simp [Instr.sliceBounds]
      · simp [Instr.sliceBounds, hbl (m := c) (c := .sliceAcap) ho2 hn2 (by omega)]
      · simp [Instr.sliceBounds, hbl (m := h) (c := .sliceB) ho1 hn1 (by omega)]
      · simp [Instr.sliceBounds, hbl (m := c) (c := .sliceAcap) ho2 hn2 (by omega), hbl (m := n2.toNat) (c := .sliceB) ho1 hn1 (by omega)]
    · rcases hhi with ⟨_, _, h⟩ | ⟨o2, K2, n2, rfl, ho2, hn2, rfl⟩
      · cases h
      · rcases hlo with ⟨rfl, rfl⟩ | ⟨o1, K1, n1, rfl, ho1, hn1, rfl⟩
        · simp [Instr.sliceBounds, hbl (m := cap) (c := .slice3Acap) ho3 hn3 (by omega), hbl (m := n3.toNat) (c := .slice3B) ho2 hn2 (by omega)]
        · simp [Instr.sliceBounds, hbl (m := cap) (c := .slice3Acap) ho3 hn3 (by omega), hbl (m := n3.toNat) (c := .slice3B) ho2 hn2 (by omega), hbl (m := n2.toNat) (c := .slice3C) ho1 hn1 (by omega)]
  have hst : (Instr.sliceAt t (.slice a0 len cap) (lo.map a.eval) (hi.map a.eval) (mx.map a.eval)).run X.P w = .ok (cutV a0 l h c n) w := by
    simp [Instr.sliceAt, Instr.slice, run_underlying hu, hbd, sizeOf, typeInfo, hi', hsz, cutV]
  simp [execOp, ha.eval hx, hst]

theorem Sl.cutV {w : World} {O : Perm} {a0 : Option Addr} {cap lo hi c : Nat} (h : (Sl e (.slice a0 zs.length cap) zs).h w O) (h1 : lo ≤ hi) (h2 : hi ≤ zs.length) (h3 : hi ≤ c) (h4 : c ≤ cap) :
    (Sl e (cutV a0 lo hi c e.n) ((zs.take hi).drop lo)).h w O := SlP.cut h h1 h2 h3 h4
/-- A slice's explicit form. -/
theorem Sl.form {w : World} {O : Perm} (h : (Sl e v zs).h w O) : ∃ a0 cap, v = .slice a0 zs.length cap ∧ zs.length ≤ cap ∧ cap ≤ maxLen := by
  obtain ⟨a0, cap, hv, h1, h2, _⟩ := h
  exact ⟨a0, cap, hv, h1, h2⟩

/-- What may be appended to: a row of one's own, or one whose capacity is its length. -/
def Apd {α : Type} (e : Enc α) (T : TypeId) (v : Value) (xs : List α) : A where
  h := fun w O => (Own e T v xs).h w O ∨ ∃ a, v = .slice a xs.length xs.length ∧ SlP e w O v xs
  mono := fun h hO => h.imp (fun h => (Own e T v xs).mono h hO) (fun ⟨a, h1, h2⟩ => ⟨a, h1, h2.mono hO⟩)
  loc := fun h hw => h.imp (fun h => (Own e T v xs).loc h hw) (fun ⟨a, h1, h2⟩ => ⟨a, h1, h2.loc hw⟩)
theorem Apd.sl {w : World} {O : Perm} (h : (Apd e E v zs).h w O) : (Sl e v zs).h w O := by
  rcases h with h | ⟨_, _, h⟩
  · exact Own.sl h
  · exact h
theorem Own.apd {w : World} {O : Perm} (h : (Own e E v zs).h w O) : (Apd e E v zs).h w O := .inl h
theorem Has.sl_apd {α : Type} {e : Enc α} {T : TypeId} {v : Value} {xs : List α} {L : List A} : Has (Apd e T v xs :: L) (Sl e v xs) := Has.here.imp fun _ _ h => Apd.sl h

/-- A new row behind an append to what is not owned. -/
theorem tight_grow {w w' : World} {O O1 O2 O3 O4 : Perm} {v' : Value} {c0 cs' : List Value} {a' : A} (hdom : ∀ b, O b ≠ 0 → b < w.heap.size) (s : Split O O1 O2) (hO : Rows e w (fun b => min (O1 b) 1) c0 zs)
    (s3 : Split O2 O3 O4) (hsl : a'.h w (fun b => min (O3 b) 1)) (hs4 : Stars L2 w O4) (hr : Rows e w (fun b => min (O3 b) 1) cs' ys)
    (hrow : w'.ownsRow w.heap.size E e.n v' (zs.length + ys.length) (c0 ++ cs')) (hg : w.grownBy w' none) :
    ∃ P, Stars (Own e E v' (zs ++ ys) :: a' :: L2) w' P ∧ Rel w O w' P := by
  have hblk : ∀ b, v'.ownBlock = some b → b < w'.heap.size ∧ w.heap.size ≤ b := by
    intro b hb
    rcases hrow.2 with ⟨rfl, _⟩ | ⟨g, cap, cur, rfl, hbase, hgg, _⟩
    · simp [Value.ownBlock] at hb
    · simp only [Value.ownBlock, Option.some.injEq] at hb
      subst hb
      refine ⟨?_, hbase⟩
      rcases Nat.lt_or_ge g w'.heap.size with h | h
      · exact h
      · rw [Array.getElem?_eq_none h] at hgg; cases hgg
  have hold : ∀ b, b < w.heap.size → w'.heap[b]? = w.heap[b]? := fun b hb => hg.block b hb (by simp)
  have d1 : ∀ b, O1 b ≠ 0 → b < w.heap.size := fun b hb => hdom b (by have := s.l b; omega)
  have d2 : ∀ b, O2 b ≠ 0 → b < w.heap.size := fun b hb => hdom b (by have := s.r b; omega)
  have d3 : ∀ b, O3 b ≠ 0 → b < w.heap.size := fun b hb => d2 b (by have := s3.l b; omega)
  have d4 : ∀ b, O4 b ≠ 0 → b < w.heap.size := fun b hb => d2 b (by have := s3.r b; omega)
  have n1 : ∀ b, min (O1 b) 1 ≠ 0 → b < w.heap.size := fun b hb => d1 b (by intro h; rw [h] at hb; exact hb rfl)
  have n3 : ∀ b, min (O3 b) 1 ≠ 0 → b < w.heap.size := fun b hb => d3 b (by intro h; rw [h] at hb; exact hb rfl)
  have hr1 : Rows e w' (fun b => max (min (O1 b) 1) (min (O3 b) 1)) c0 zs := (hO.loc fun b hb => hold b (n1 b hb)).mono fun b => Nat.le_max_left _ _
  have hr2 : Rows e w' (fun b => max (min (O1 b) 1) (min (O3 b) 1)) cs' ys := (hr.loc fun b hb => hold b (n3 b hb)).mono fun b => Nat.le_max_right _ _
  have hlen : (zs ++ ys).length = zs.length + ys.length := List.length_append
  have hrow0 : w'.ownsRow 0 E e.n v' (zs ++ ys).length (c0 ++ cs') := by
    rw [hlen]; exact ⟨hrow.1, hrow.2.imp id fun ⟨g, cap, cur, e1, _, r⟩ => ⟨g, cap, cur, e1, Nat.zero_le _, r⟩⟩
  let NB : Perm := fun b => if v'.ownBlock = some b then 2 else 0
  have nb : ∀ b, NB b = if v'.ownBlock = some b then 2 else 0 := fun _ => rfl
  have nbo : ∀ b, b < w.heap.size → NB b = 0 := fun b hb => by
    rw [nb]
    by_cases h : v'.ownBlock = some b
    · have := (hblk b h).2; omega
    · rw [if_neg h]
  have m1 : ∀ b, min (O1 b) 1 ≤ O1 b := fun b => Nat.min_le_left _ _
  have m1' : ∀ b, min (O1 b) 1 ≤ 1 := fun b => Nat.min_le_right _ _
  have m3 : ∀ b, min (O3 b) 1 ≤ O3 b := fun b => Nat.min_le_left _ _
  have m3' : ∀ b, min (O3 b) 1 ≤ 1 := fun b => Nat.min_le_right _ _
  have hown : (Own e E v' (zs ++ ys)).h w' (fun b => max (NB b) (max (min (O1 b) 1) (min (O3 b) 1))) := by
    refine Own.of_row hrow0 (hr1.append hr2) (fun b hb => ?_) (fun b => ?_) (fun b => ?_) (fun b hb => ?_)
    · have h := (hblk b hb).2
      have h1 : min (O1 b) 1 = 0 := by
        rcases Nat.eq_zero_or_pos (min (O1 b) 1) with h0 | h0
        · exact h0
        · have := n1 b (by omega); omega
      have h3 : min (O3 b) 1 = 0 := by
        rcases Nat.eq_zero_or_pos (min (O3 b) 1) with h0 | h0
        · exact h0
        · have := n3 b (by omega); omega
      show max _ _ = 0; rw [h1, h3]; rfl
    · exact Nat.max_le.2 ⟨m1' b, m3' b⟩
    · exact Nat.le_max_right _ _
    · show 2 ≤ max _ _
      have : NB b = 2 := by rw [nb, if_pos hb]
      rw [this]; exact Nat.le_max_left _ _
  have hrel : Rel w O w' (fun b => max (NB b) (O b)) := by
    refine ⟨hg.os, hg.tape, hg.output, hg.size, fun b hb _ => hold b hb, fun b hb => ?_, fun b hb => ?_⟩
    · show max _ _ ≤ _; rw [nbo b hb]; omega
    · by_cases h : v'.ownBlock = some b
      · exact (hblk b h).1
      · have hb' : max (NB b) (O b) ≠ 0 := hb
        rw [nb, if_neg h] at hb'
        have := hdom b (by omega); have := hg.size; omega
  refine ⟨_, ⟨fun b => max (NB b) (max (min (O1 b) 1) (min (O3 b) 1)), fun b => max (min (O3 b) 1) (O4 b), ⟨fun b => ?_, fun b => ?_, fun b hb => ?_, fun b hb => ?_⟩, hown, fun b => min (O3 b) 1, O4, ⟨fun b => ?_, fun b => ?_, fun b hb => ?_, fun b hb => ?_⟩, a'.loc hsl fun b hb => hold b (n3 b hb), hs4.loc fun b hb => hold b (d4 b hb)⟩, hrel⟩
  · have := s.l b; have := s.r b; have := s3.l b; have := m1 b; have := m3 b
    show max _ (max _ _) ≤ max _ _
    refine Nat.max_le.2 ⟨Nat.le_max_left _ _, Nat.max_le.2 ⟨Nat.le_trans ?_ (Nat.le_max_right _ _), Nat.le_trans ?_ (Nat.le_max_right _ _)⟩⟩ <;> omega
  · have := s.r b; have := s3.l b; have := s3.r b; have := m3 b
    show max _ _ ≤ max _ _
    refine Nat.max_le.2 ⟨Nat.le_trans ?_ (Nat.le_max_right _ _), Nat.le_trans ?_ (Nat.le_max_right _ _)⟩ <;> omega
  · have h1 : v'.ownBlock = some b := by
      by_cases h : v'.ownBlock = some b
      · exact h
      · have hb' : 2 ≤ max (NB b) (max (min (O1 b) 1) (min (O3 b) 1)) := hb
        rw [nb, if_neg h] at hb'
        have := m1' b; have := m3' b
        have : max (min (O1 b) 1) (min (O3 b) 1) ≤ 1 := Nat.max_le.2 ⟨m1' b, m3' b⟩
        omega
    have h2 := (hblk b h1).2
    have h3 : min (O3 b) 1 = 0 := by
      rcases Nat.eq_zero_or_pos (min (O3 b) 1) with h0 | h0
      · exact h0
      · have := n3 b (by omega); omega
    have h4 : O4 b = 0 := by
      rcases Nat.eq_zero_or_pos (O4 b) with h0 | h0
      · exact h0
      · have := d4 b (by omega); omega
    show max _ _ = 0; rw [h3, h4]; rfl
  · have h1 : 2 ≤ O4 b := by
      have hb' : 2 ≤ max (min (O3 b) 1) (O4 b) := hb
      have := m3' b
      omega
    have h2 := s3.rl b h1
    have h3 := s3.r b
    have h4 := s.rl b (by omega)
    have h5 := nbo b (d4 b (by omega))
    show max _ (max _ _) = 0
    rw [h2, h4, h5]; rfl
  · exact Nat.le_max_left _ _
  · exact Nat.le_max_right _ _
  · have h' : 2 ≤ min (O3 b) 1 := hb; have := m3' b; omega
  · have h1 := s3.rl b hb
    show min _ _ = 0; rw [h1]; rfl

theorem add_off (b off j : Nat) : (⟨b, off, none⟩ : Addr).add j = ⟨b, off + j, none⟩ := by
  unfold Addr.add; split
  · rename_i h; rw [h, Nat.add_zero]
  · rfl
/-- append(x, y...) of what may be appended to. -/
theorem s_append_apd {t : TypeId} {z : Value} {nb sz : Nat} (hu : X.P.underlying t = some (.slice E)) (hE : TI X.P E z sz nb) (hzs : z.cells.size = sz) (hn : 0 < sz)
    (hx : env.eval x = some v) (hy : env.eval y = some u) (hd : d < X.fn.ntmps) (hp : Pick (Apd e E v zs) L L1) (hq : Pick (Sl e u ys) L1 L2) (hsz0 : e.n = sz) (hb : (zs.length + ys.length) * nb ≤ 140737488355328)
    (hb2 : zs.length + ys.length ≤ maxLen)
    (k : ∀ v', Kont X ((d, v') :: env) (Apd e E v' (zs ++ ys) :: Sl e u ys :: L2) K) :
    StepK X kk ⟨some d, .call ⟨.builtin .append, #[x, y], #[t, t]⟩, T, pos, af, none⟩ env L K := by
  subst hsz0
  intro a w O ha hst hrel
  obtain ⟨O1, O2, s, hO, hs2⟩ := hp w O hst
  rcases hO with hO | ⟨a1, rfl, hO⟩
  · have h1 : Stars (Own e E v zs :: L1) w O := ⟨O1, O2, s, hO, hs2⟩
    have := s_append (K := K) (X := X) (kk := kk) (T := T) (pos := pos) (af := af) (L := Own e E v zs :: L1) hu hE hzs hn hx hy hd Pick.here hq rfl hb hb2 (fun v' => fun a w O ha hs hr => k v' a w O ha (Ent.head (fun _ _ h => Own.apd h) w O hs) hr)
    exact this a w O ha h1 hrel
  · have main : StepK X kk ⟨some d, .call ⟨.builtin .append, #[x, y], #[t, t]⟩, T, pos, af, none⟩ env (Sl e (.slice a1 zs.length zs.length) zs :: L1) K := by
      refine s_main (γ := Value) (V := fun u => u) (pu := fun _ => True) (L' := fun v' => Apd e E v' (zs ++ ys) :: Sl e u ys :: L2) ?_ hd (fun u _ => k u)
      intro a w O ha hst hdom
      obtain ⟨O1, O2, s, hO, hs2⟩ := hst
      obtain ⟨O3, O4, s3, hsl, hs4⟩ := hq w O2 hs2
      have hOD := SlP.dup hO
      have hslD := SlP.dup hsl
      obtain ⟨ti, hi, hz0, hsz, hbt⟩ := hE
      obtain ⟨a0, cap, rfl, q1, q2, q3⟩ := id hslD
      obtain ⟨a2, cap2, hv2, p1, p2, p3⟩ := id hOD
      simp only [Value.slice.injEq] at hv2
      obtain ⟨rfl, _, rfl⟩ := hv2
      have keep : ys.length = 0 → ∃ P, Stars (Apd e E (.slice a1 zs.length zs.length) (zs ++ ys) :: Sl e (.slice a0 ys.length cap) ys :: L2) w P ∧ Rel w O w P := fun h0 => by
        have : ys = [] := List.eq_nil_of_length_eq_zero h0
        subst this
        refine ⟨O, ⟨O1, O2, s, .inr ⟨a1, by simp, by rw [List.append_nil]; exact hO⟩, ⟨O3, O4, s3, hsl, hs4⟩⟩, Rel.refl hdom⟩
      have hsrc : (a0 = none ∧ ys.length = 0) ∨ ∃ a cs', a0 = some a ∧ cs'.length = ys.length * e.n ∧ (∀ j u, cs'[j]? = some u → w.cell? (a.add j) = some u) ∧ (∀ u ∈ cs', u.oneCell' = true) ∧ Rows e w (fun b => min (O3 b) 1) cs' ys := by
        rcases q3 with ⟨_, rfl⟩ | ⟨b, off, cs', rfl, hb1, hr, hc⟩
        · cases a0 with
          | none => exact .inl ⟨rfl, rfl⟩
          | some a => exact .inr ⟨a, [], rfl, by simp, (fun j u hj => by simp at hj), (fun u hu => by cases hu), rfl⟩
        · exact .inr ⟨_, cs', rfl, hr.length, fun j u hj => by rw [add_off]; exact hc j u hj, hr.one, hr⟩
      have fin : ∀ {v' : Value} {w' : World} {P : Perm}, (Builtin.append_ #[t, t] T #[.slice a1 zs.length zs.length, .slice a0 ys.length cap]).run X.P w = .ok v' w' → Stars (Apd e E v' (zs ++ ys) :: Sl e (.slice a0 ys.length cap) ys :: L2) w' P → Rel w O w' P →
          ∃ g w' O', (execOp a.eval ⟨some d, .call ⟨.builtin .append, #[x, y], #[t, t]⟩, T, pos, af, none⟩).run X.P w = .ok (.value g) w' ∧ True ∧ Stars (Apd e E g (zs ++ ys) :: Sl e (.slice a0 ys.length cap) ys :: L2) w' O' ∧ Rel w O w' O' := by
        intro v' w' P hrun hs hr
        have hruns : (Builtin.append_ #[t, t] T #[a.eval x, a.eval y]).run X.P w = .ok v' w' := by rw [ha.eval hx, ha.eval hy]; exact hrun
        exact ⟨v', w', P, by simp [execOp, resolve, invoke, builtin, hruns], trivial, hs, hr⟩
      by_cases h0 : ys.length = 0
      · obtain ⟨P, hP, hR⟩ := keep h0
        refine fin ?_ hP hR
        rcases hsrc with ⟨rfl, _⟩ | ⟨a, cs', rfl, hl, _, _, _⟩
        · cases a1 <;> simp [Builtin.append_, run_underlying hu, sizeOf, typeInfo, hi, Builtin.lenOf, Builtin.firstCells, storeCells, h0]
        · cases a1 <;> simp [Builtin.append_, run_underlying hu, sizeOf, typeInfo, hi, Builtin.lenOf, Builtin.firstCells, storeCells, loadCells, loadCellsFrom, h0]
      · obtain ⟨a, cs', rfl, hl, hnews, h1, hr⟩ := hsrc.resolve_left (fun h => h0 h.2)
        have hgrow : ∃ v' w' c0, (Builtin.append_ #[t, t] T #[.slice a1 zs.length zs.length, .slice (some a) ys.length cap]).run X.P w = .ok v' w' ∧ w'.ownsRow w.heap.size E e.n v' (zs.length + ys.length) (c0 ++ cs') ∧ w.grownBy w' none ∧ Rows e w (fun b => min (O1 b) 1) c0 zs := by
          rcases p3 with ⟨_, rfl⟩ | ⟨b, off, c0, rfl, hb1, hr0, hc⟩
          · cases a1 with
            | some a1 =>
              obtain ⟨v', w', hrun, hown', hgr⟩ := run_append_arg_grows (P := X.P) (w := w) t T E ti z e.n nb hu hi hz0 hsz hbt hzs hn a1 0 0 [] (by simp) (fun j u hj => by simp at hj) a ys.length cap cs' hl hnews (Nat.lt_add_of_pos_right (Nat.pos_of_ne_zero h0)) (by simpa using hb2) (by simpa using hb)
              exact ⟨v', w', [], hrun, by simpa using hown', hgr, rfl⟩
            | none =>
            have g1' : w.ownsRow w.heap.size E e.n (.slice none 0 0) 0 [] := ⟨by simp, .inl ⟨rfl, rfl⟩⟩
            obtain ⟨v', w', hrun, hown', hgr, _⟩ := run_append_own (P := X.P) w w.heap.size t T E ti z e.n nb hu hi hz0 hsz hbt hzs hn _ 0 [] g1' a ys.length cap cs' hl hnews h1 (by simpa using hb2) (by simpa using hb) (Nat.le_refl _)
            exact ⟨v', w', [], hrun, by simpa using hown', hgr, rfl⟩
          · obtain ⟨v', w', hrun, hown', hgr⟩ := run_append_arg_grows (P := X.P) (w := w) t T E ti z e.n nb hu hi hz0 hsz hbt hzs hn ⟨b, off, none⟩ zs.length zs.length c0 hr0.length (fun j u hj => by rw [add_off]; exact hc j u hj) a ys.length cap cs' hl hnews (Nat.lt_add_of_pos_right (Nat.pos_of_ne_zero h0)) hb2 hb
            exact ⟨v', w', c0, hrun, hown', hgr, hr0⟩
        obtain ⟨v', w', c0, hrun, hown', hgr, hr0⟩ := hgrow
        obtain ⟨P, hP, hR⟩ := tight_grow (a' := Sl e (.slice (some a) ys.length cap) ys) hdom s hr0 s3 hslD hs4 hr hown' hgr
        exact fin hrun (Ent.head (fun _ _ h => Own.apd h) w' P hP) hR
    exact main a w O ha ⟨O1, O2, s, hO, hs2⟩ hrel
theorem Pick.beside {a : A} {L : List A} (h : ∀ w, a.h w fun _ => 0) : Pick a L L := fun w O hs =>
  ⟨fun _ => 0, O, ⟨fun b => Nat.zero_le _, fun b => Nat.le_refl _, fun b h => by omega, fun b h => rfl⟩, h w, hs⟩
theorem Pick.sl_nil {α : Type} {e : Enc α} {L : List A} : Pick (Sl e (.slice none 0 0) []) L L := Pick.beside fun w => Sl.nil e w _
theorem Pick.own_nil {α : Type} {e : Enc α} {T : TypeId} {L : List A} : Pick (Own e T (.slice none 0 0) []) L L := Pick.beside fun w => Own.nil e T w _
theorem Pick.apd_sl {α : Type} {e : Enc α} {T : TypeId} {v : Value} {xs : List α} {L : List A} : Pick (Sl e v xs) (Apd e T v xs :: L) L := Pick.of Pick.here fun _ _ h => Apd.sl h
theorem Has.sl_nil {α : Type} {e : Enc α} {L : List A} : Has L (Sl e (.slice none 0 0) []) := fun w O _ => Sl.nil e w O
theorem Ent.get {L L' : List A} {w : World} {O : Perm} (hs : Stars L w O) (h : Ent L L') : Stars L' w O := h w O hs
theorem stars_own_nil {α : Type} {e : Enc α} {T : TypeId} {w : World} {O : Perm} : Stars [Own e T (.slice none 0 0) ([] : List α)] w O := Ent.get (L := []) trivial (Ent.beside fun w _ _ => Own.nil e T w _)
end
end Go.SL
