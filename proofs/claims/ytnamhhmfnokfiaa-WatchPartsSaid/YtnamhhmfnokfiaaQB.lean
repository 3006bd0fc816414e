/- Cuts in regions that draw their order; facts of what a contract takes. -/
import Derived.Test.YtnamhhmfnokfiaaQA
namespace Go.SL
open Go

theorem Con.fact {P : Program} {f : FuncId} {args : List Value} {L : List A} {γ : Type} {ret : γ → Value} {pu : γ → Prop} {L' : γ → List A} {p : Prop}
    (hp : ∀ w O, Stars L w O → p) (h : p → Con P f args L ret pu L') : Con P f args L ret pu L' :=
  fun w O hs hd => h (hp w O hs) w O hs hd
theorem Con.form {P : Program} {f : FuncId} {args : List Value} {L : List A} {γ : Type} {ret : γ → Value} {pu : γ → Prop} {L' : γ → List A} {α : Type} {e : Enc α} {v : Value} {xs : List α}
    (hp : Has L (Sl e v xs)) (h : ∀ a0 cap, v = .slice a0 xs.length cap → xs.length ≤ cap → cap ≤ maxLen → Con P f args L ret pu L') : Con P f args L ret pu L' :=
  fun w O hs hd => by
    obtain ⟨a0, cap, h1, h2, h3⟩ := Sl.form (hp w O hs)
    exact h a0 cap h1 h2 h3 w O hs hd
theorem Sl.none_nil {α : Type} {e : Enc α} {n c : Nat} {xs : List α} {w : World} {O : Perm} (h : (Sl e (.slice none n c) xs).h w O) : xs = [] := by
  obtain ⟨a, cap, hv, h1, h2, h3⟩ := h
  cases hv
  rcases h3 with ⟨_, h⟩ | ⟨_, _, _, h, _⟩
  · exact h
  · cases h
theorem Sl.apdCut {α : Type} {e : Enc α} {E : TypeId} {zs : List α} {a0 : Option Addr} {k cap : Nat} {w : World} {O : Perm} (h : (Sl e (.slice a0 zs.length cap) zs).h w O) (h1 : k ≤ zs.length) (h2 : zs.length ≤ cap) :
    (Apd e E (Go.SL.cutV a0 0 k k e.n) (zs.take k)).h w O := by
  have h3 := Go.SL.Sl.cutV (lo := 0) (hi := k) (c := k) h (Nat.zero_le _) h1 (Nat.le_refl _) (by omega)
  rw [List.drop_zero] at h3
  refine .inr ⟨if k = 0 then a0 else a0.map (·.add (0 * e.n)), ?_, h3⟩
  simp only [Go.SL.cutV, List.length_take, Nat.sub_zero]
  rw [Nat.min_eq_left h1]
theorem Own.form {α : Type} {e : Enc α} {T : TypeId} {v : Value} {xs : List α} {w : World} {O : Perm} (h : (Own e T v xs).h w O) : (v = .slice none 0 0 ∧ xs = []) ∨ ∃ g cap, v = .slice (some ⟨g, 0, none⟩) xs.length cap ∧ xs.length ≤ cap := by
  obtain ⟨O1, O2, cs, s, h1, h2, h3⟩ := h
  rcases h1.2 with ⟨rfl, h0⟩ | ⟨g, cap, cur, rfl, _, hg, hle, _⟩
  · exact .inl ⟨rfl, List.eq_nil_of_length_eq_zero h0⟩
  · exact .inr ⟨g, cap, rfl, hle⟩
theorem Con.own {P : Program} {f : FuncId} {args : List Value} {L : List A} {γ : Type} {ret : γ → Value} {pu : γ → Prop} {L' : γ → List A} {α : Type} {e : Enc α} {T : TypeId} {v : Value} {xs : List α}
    (hp : Has L (Own e T v xs)) (h0 : v = .slice none 0 0 → xs = [] → Con P f args L ret pu L') (h1 : ∀ g cap, v = .slice (some ⟨g, 0, none⟩) xs.length cap → xs.length ≤ cap → Con P f args L ret pu L') : Con P f args L ret pu L' :=
  fun w O hs hd => by
    rcases Own.form (hp w O hs) with ⟨h, h'⟩ | ⟨g, cap, h, h'⟩
    · exact h0 h h' w O hs hd
    · exact h1 g cap h h' w O hs hd
theorem Pick.r_blk {b : Nat} {T : TypeId} {cs : List Value} {L : List A} : Pick (BlkR b T cs) (Blk b T cs :: L) L := Pick.of Pick.here fun _ _ h => Blk.r h
theorem cutV_zero (a0 : Option Addr) (h c n : Nat) : cutV a0 0 h c n = .slice a0 h c := by
  have h1 : a0.map (·.add (0 * n)) = a0 := by cases a0 <;> simp [Addr.add]
  simp only [Go.SL.cutV, h1, ite_self, Nat.sub_zero]
/-- A contract of a function that leaves the world as it is. -/
theorem con_pure {P : Program} {f : FuncId} {args : List Value} {v : Value} {L : List A} (h : ∀ w O, Stars L w O → Calls P f args.toArray w fun e w' => e = .returned v ∧ w' = w) :
    Con P f args L (γ := Unit) (fun _ => v) (fun _ => True) (fun _ => []) := fun w O hs hd => (h w O hs).mono fun e w' ⟨he, hw⟩ => by
  subst hw
  exact ⟨(), O, he, trivial, trivial, Rel.refl hd⟩
theorem Env.int {e : Env} {t : Nat} {K : IntKind} {a b : Int} (h : e.look t = some (.int K a)) (hab : a = b) : e.look t = some (.int K b) := by rw [h, hab]
theorem Env.as {e : Env} {t : Nat} {a b : Value} (h : e.look t = some a) (hab : a = b) : e.look t = some b := by rw [h, hab]
theorem wrap_add (a b : Int) : IntKind.i64.wrap (IntKind.i64.wrap a + b) = IntKind.i64.wrap (a + b) := by
  rw [IntKind.wrap_i64, IntKind.wrap_i64, IntKind.wrap_i64]; omega
theorem has_cell {b off : Nat} {T : TypeId} {cs : List Value} {L : List A} {u : Value} (h : Has L (BlkR b T cs)) (hc : cs[off]? = some u) {w : World} {O : Perm} (hs : Stars L w O) : w.cell? ⟨b, off, none⟩ = some u := by
  obtain ⟨_, fz, hh⟩ := h w O hs
  rw [blk_cell hh]; simpa using hc
/-- A contract of a function that hands out a new row of scalars. -/
theorem con_newrow {P : Program} {f : FuncId} {args : List Value} {L : List A} {α : Type} {e : Enc α} {E : TypeId} {xs : List α} {g : α → Value} (hn : e.n = 1) (hg : ∀ w O x, e.rd w O [g x] x) (hl : xs.length ≤ maxLen)
    (h : ∀ w O, Stars L w O → Calls P f args.toArray w fun r w' => r = .returned (.slice (some ⟨w.heap.size, 0, none⟩) xs.length xs.length) ∧ w' = w.alloc (.cells (xs.map g).toArray E)) :
    Con P f args L (γ := Value) (fun r => r) (fun _ => True) (fun r => [Own e E r xs]) := fun w O hs hd => (h w O hs).mono fun r w' ⟨he, hw⟩ => by
  subst hw
  have hrows : ∀ (ys : List α) (w : World) (O : Perm), Rows e w O (ys.map g) ys := by
    intro ys w O
    induction ys with
    | nil => exact rfl
    | cons y ys ih => exact ⟨[g y], ys.map g, rfl, hg w O y, ih⟩
  refine ⟨_, fresh w O, he, trivial, ⟨fresh w O, fun _ => 0, ⟨fun b => Nat.le_refl _, fun b => Nat.zero_le _, fun _ _ => rfl, fun b h => absurd h (by simp)⟩, ?_, trivial⟩, rel_alloc _ hd⟩
  refine ⟨fresh w O, fun _ => 0, xs.map g, ⟨fun b => Nat.le_refl _, fun b => Nat.zero_le _, fun _ _ => rfl, fun b h => absurd h (by simp)⟩, ?_, fun k hk => ?_, hrows xs _ _⟩
  · rw [hn]
    exact World.ownsRow_lit w (xs.map g).toArray xs.length (Nat.zero_le _) hl (by simp)
  · simp only [Value.ownBlock, Option.some.injEq] at hk
    subst hk; simp [fresh]

section
variable {X : Cx} {ops : Array Oper} {rest : List Oper} {kk : List Item} {env : Env} {L L1 : List A} {d : Nat} {T : TypeId} {pos : String} {af : Array Edge} {x : Operand}
theorem c_join2 {γ : Type} {k : List Item} (J : γ → Prop) (E : γ → Env) (LL : γ → List A) {i j : Item} (hj : ∀ g, J g → Cfg X k (E g) (LL g)) (h : (∀ g, J g → Cfg X k (E g) (LL g)) → Cfg X (i :: j :: k) env L) : Cfg X (i :: j :: k) env L := h hj
theorem v_len_form {t : TypeId} {E : TypeId} {a0 : Option Addr} {n c : Nat} (hu : X.P.underlying t = some (.slice E)) (hx : env.eval x = some (.slice a0 n c)) : Val X env L (.call ⟨.builtin .len, #[x], #[t]⟩) T (.int .i64 n) :=
  fun _ _ _ _ a w O ha hl => by
    simp [execOp, resolve, invoke, builtin, Builtin.len_, ha.eval hx, run_underlying hu, goInt]
theorem q_ent (h1 : Ent L L1) (h2 : Ent L1 L) (h : Qops X ops rest kk env L1) : Qops X ops rest kk env L := by
  have e : QC X L = QC X L1 := funext fun w => propext ⟨fun ⟨O, hs, hr⟩ => ⟨O, h1 w O hs, hr⟩, fun ⟨O, hs, hr⟩ => ⟨O, h2 w O hs, hr⟩⟩
  unfold Qops
  rw [e]
  exact h
theorem q_slice {α : Type} {e : Enc α} {zs : List α} {E : TypeId} {t : TypeId} {z0 : Value} {bt cap : Nat} {a0 : Option Addr} {lo hi mx : Option Operand} {l h c : Nat} (hu : X.P.underlying t = some (.slice E)) (hE : TI X.P E z0 e.n bt)
    (hx : env.eval x = some (.slice a0 zs.length cap)) (hp : Pick (Sl e (.slice a0 zs.length cap) zs) L L1)
    (hlo : (lo = none ∧ l = 0) ∨ ∃ o K n, lo = some o ∧ env.eval o = some (.int K n) ∧ 0 ≤ n ∧ n.toNat = l)
    (hhi : (hi = none ∧ h = zs.length ∧ mx = none) ∨ ∃ o K n, hi = some o ∧ env.eval o = some (.int K n) ∧ 0 ≤ n ∧ n.toNat = h)
    (hmx : (mx = none ∧ c = cap) ∨ ∃ o K n, mx = some o ∧ env.eval o = some (.int K n) ∧ 0 ≤ n ∧ n.toNat = c)
    (h1 : l ≤ h) (h2 : h ≤ zs.length) (h3 : h ≤ c) (h4 : c ≤ cap) (hd : d < X.fn.ntmps)
    (hback : Ent (Sl e (.slice a0 zs.length cap) zs :: L1) L)
    (k : Qops X ops rest kk ((d, cutV a0 l h c e.n) :: env) (Sl e (cutV a0 l h c e.n) ((zs.take h).drop l) :: Sl e (.slice a0 zs.length cap) zs :: L1)) :
    Qops X ops (⟨some d, .slice t x lo hi mx, T, pos, af, none⟩ :: rest) kk env L :=
  q_val (v_slice hu hE hx hlo hhi hmx h1 h3 h4) hd
    (q_ent (Ent.share hp (Sl.isDup _ _ _) fun _ _ h => Sl.cutV h h1 h2 h3 h4) (fun w O hs => hback w O (Ent.drop w O hs)) k)
/-- An element that is a slice. -/
theorem s_load_sl {α : Type} {e : Enc α} {v : Value} {K : Act → World → Prop} {i : Nat} {z : List α} {t : TypeId} (ht : Lone X.P t) (hx : env.eval x = some (.pointer (some (elemAddr v i 1)))) (hd : d < X.fn.ntmps)
    (he : Elem L (eSl e) v i z) (k : ∀ u, Kont X ((d, u) :: env) (Sl e u z :: L) K) : StepK X kk ⟨some d, .load t x, T, pos, af, none⟩ env L K :=
  s_load_elem (e := eSl e) ht rfl hx hd he fun u a w O ha hs hr => k u a w O ha (Ent.head (fun w O h => by
    obtain ⟨u', h1, h2⟩ := h
    cases h1
    exact h2) w O hs) hr
theorem beside_sl {α : Type} {e : Enc α} (ps : List (Value × List α)) (h : Picks (ps.map fun p => Sl e p.1 p.2) L L) : Beside (RowsA (eSl e) (ps.map (·.1)) (ps.map (·.2))) L := by
  intro w O hs
  obtain ⟨O1, O2, s, h1, h2⟩ := h.split w O hs
  refine ⟨O1, O2, s, ?_, h2⟩
  clear h h2 s hs
  induction ps generalizing O1 with
  | nil => exact ⟨rfl, fun v hv => by cases hv⟩
  | cons p ps ih =>
    obtain ⟨P1, P2, s1, g1, g2⟩ := h1
    obtain ⟨k1, k2⟩ := ih P2 g2
    have g1' : SlP e w P1 p.1 p.2 := g1
    obtain ⟨a0, cap, hv, _⟩ := id g1'
    have hc : p.1.cells = #[p.1] := by rw [hv]; rfl
    refine ⟨⟨[p.1], _, by simp [hc], ⟨p.1, rfl, SlP.mono g1' s1.l⟩, k1.mono s1.r⟩, fun v hv => ?_⟩
    simp only [List.map_cons, List.mem_cons] at hv
    rcases hv with rfl | hv
    · rw [hc]; rfl
    · exact k2 v hv
theorem beside_sl1 {α : Type} {e : Enc α} (v : Value) (xs : List α) (h : Picks [Sl e v xs] L L) : Beside (RowsA (eSl e) [v] [xs]) L := beside_sl [(v, xs)] h
theorem beside_sl2 {α : Type} {e : Enc α} (v u : Value) (xs ys : List α) (h : Picks [Sl e v xs, Sl e u ys] L L) : Beside (RowsA (eSl e) [v, u] [xs, ys]) L := beside_sl [(v, xs), (u, ys)] h
theorem beside_sl3 {α : Type} {e : Enc α} (v u t : Value) (xs ys zs : List α) (h : Picks [Sl e v xs, Sl e u ys, Sl e t zs] L L) : Beside (RowsA (eSl e) [v, u, t] [xs, ys, zs]) L := beside_sl [(v, xs), (u, ys), (t, zs)] h
end
end Go.SL
