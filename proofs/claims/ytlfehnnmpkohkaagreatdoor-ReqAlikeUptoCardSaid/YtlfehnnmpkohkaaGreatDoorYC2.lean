/- The texts QZ, QP, Sh, QG, QU, D1, D2, D3, D4, D5, D6, Tb, O1, D7, D8, I0, W1, W2, W3, O2, O3, I1, one behind the other. -/
import Derived.Test.YtlfehnnmpkohkaaGreatDoorYC1
import Derived.Shelf.Strings.SlTrimAscii
import Derived.Shelf.Strings.Trim
import Derived.Shelf.Small.Utf8
import Derived.Shelf.Small.Strs
import Derived.Shelf.Strconv.Atoi
import Derived.Shelf.Strconv.Itoa0
import Derived.Shelf.Strconv.Itoa1
import Derived.Shelf.LaysM
import Derived.Shelf.Strconv.Itoa2
import Derived.Shelf.Strconv.Itoa3
import Derived.Shelf.Strconv.AtoiErrFast
import Derived.Shelf.Strconv.ParseIntEmpty
import Derived.Shelf.Strconv.AtoiFail
import Derived.Shelf.Strconv.Clone
import Derived.Shelf.Strconv.SyntaxError
import Derived.Shelf.LaysC
import Derived.Shelf.Strconv.ToError
import Derived.Shelf.Strconv.Lower
import Derived.Shelf.Strconv.ParseUint10
import Derived.Shelf.Strconv.ParseUint10Empty
import Derived.Shelf.Strconv.ParseUint10Any
import Derived.Shelf.Strconv.ParseInt10
import Derived.Shelf.Strconv.AtoiLong
import Derived.Shelf.Strconv.AtoiInnerAll
import Derived.Shelf.Strconv.RangeError
import Derived.Shelf.Strconv.ToErrorRange
import Derived.Shelf.Strconv.AtoiAll
import Derived.Shelf.Strconv.ErrVarAll
import Derived.Shelf.Strings.Search1
import Derived.Shelf.Strings.Search2
import Derived.Shelf.Strings.Search3
import Derived.Shelf.Strings.Shaped
import Derived.Shelf.Strconv.AppendUint10
import Derived.Shelf.Strconv.AppendInt10
import Derived.Shelf.Strconv.AppendIntPublic10
import Derived.Shelf.Unicode.Decode
import Derived.Shelf.Strings.Runes
import Derived.Shelf.Strings.AsciiSet
import Derived.Shelf.Unicode.DecodeSlow
import Derived.Shelf.Unicode.DecodeAny
import Derived.Shelf.Unicode.DecodeLast
import Derived.Shelf.Slices.Equal
import Derived.Shelf.Bytes.SlIndexAt
import Derived.Shelf.Slices.Empties2
import Derived.Shelf.Bytes.IndexByte
import Derived.Test.YtlfehnnmpkohkaaGreatDoorProg
import Derived.ProofKit
import Derived.OpenShut
import Derived.ShutString
import Derived.ChangeOld
import Derived.Below
import Derived.Carry
import Derived.SizedLaws
import Derived.LaidMore
import Derived.LaidLaws
import Derived.HandedShaped
import Derived.WalkKit
import Derived.SevenTiedAt
import Derived.Shelf.Vars
import Derived.Lib.AtoiTie
import Derived.Lib.ItoaNum
import Derived.KernelRfl
import Derived.Lib.ItoaLen
import Derived.Lib.AtoiBound
set_option linter.unusedVariables false
set_option linter.unusedSimpArgs false
/- What is taken, kept, read: found by constructors, one after the other (short words for the walks). -/
namespace Go.SL
open Go
inductive HX : List A → A → Prop
  | here {a : A} {L : List A} : HX (a :: L) a
  | apd {α : Type} {e : Enc α} {T : TypeId} {v : Value} {xs : List α} {L : List A} : HX (Apd e T v xs :: L) (Sl e v xs)
  | own {α : Type} {e : Enc α} {T : TypeId} {v : Value} {xs : List α} {L : List A} : HX (Own e T v xs :: L) (Sl e v xs)
  | ownO {α : Type} {e : Enc α} {T : TypeId} {v : Value} {xs : List α} {L : List A} : HX (OwnO e T v xs :: L) (Sl e v xs)
  | and {a b : A} {L : List A} : HX (AndA a b :: L) b
  | blk {b : Nat} {T : TypeId} {cs : List Value} {L : List A} : HX (Blk b T cs :: L) (BlkR b T cs)
  | there {a b : A} {L : List A} (h : HX L a) : HX (b :: L) a
theorem hX {L : List A} {a : A} (h : HX L a) : Has L a := by
  induction h with
  | here => exact Has.here
  | apd => exact Has.sl_apd
  | own => exact Has.sl_own
  | ownO => exact Has.sl_ownO
  | and => exact Has.and_snd
  | blk => exact Has.r_blk
  | there _ ih => exact Has.there ih
inductive PX : A → List A → List A → Prop
  | sl {α : Type} {e : Enc α} {v : Value} {xs : List α} {L : List A} : PX (Sl e v xs) (Sl e v xs :: L) (Sl e v xs :: L)
  | rd {b : Nat} {T : TypeId} {cs : List Value} {L : List A} : PX (BlkR b T cs) (BlkR b T cs :: L) (BlkR b T cs :: L)
  | fld {p : Addr} {u : Value} {L : List A} : PX (FldCell p u) (FldCell p u :: L) (FldCell p u :: L)
  | here {a : A} {L : List A} : PX a (a :: L) L
  | own {α : Type} {e : Enc α} {T : TypeId} {v : Value} {xs : List α} {L : List A} : PX (Sl e v xs) (Own e T v xs :: L) L
  | ownO {α : Type} {e : Enc α} {T : TypeId} {v : Value} {xs : List α} {L : List A} : PX (Sl e v xs) (OwnO e T v xs :: L) L
  | and {a b : A} {L : List A} : PX a (AndA a b :: L) L
  | apd {α : Type} {e : Enc α} {T : TypeId} {v : Value} {xs : List α} {L : List A} : PX (Sl e v xs) (Apd e T v xs :: L) L
  | blk {b : Nat} {T : TypeId} {cs : List Value} {L : List A} : PX (BlkR b T cs) (Blk b T cs :: L) L
  | nil {α : Type} {e : Enc α} {L : List A} : PX (Sl e (.slice none 0 0) []) L L
  | nilO {α : Type} {e : Enc α} {T : TypeId} {L : List A} : PX (Own e T (.slice none 0 0) []) L L
  | map {κ : Type} [DecidableEq κ] {ke : KeyEnc κ} {it : Nat} {o : Option Nat} {m : List (κ × Value)} {pre : List κ} {L : List A} : PX (MapO ke o m) (MapItO ke it o m pre :: L) L
  | there {a b : A} {L L' : List A} (h : PX a L L') : PX a (b :: L) (b :: L')
theorem pX {a : A} {L L' : List A} (h : PX a L L') : Pick a L L' := by
  induction h with
  | sl => exact Pick.keep (Sl.isDup _ _ _)
  | rd => exact Pick.keep (BlkR.isDup _ _ _)
  | fld => exact Pick.keep (FldCell.isDup _ _)
  | here => exact Pick.here
  | own => exact Pick.own_sl
  | ownO => exact Pick.ownO_sl
  | and => exact Pick.and_fst
  | apd => exact Pick.apd_sl
  | blk => exact Pick.r_blk
  | nil => exact Pick.sl_nil
  | nilO => exact Pick.own_nil
  | map => exact Pick.map_itO _
  | there _ ih => exact Pick.there ih
inductive PXs : List A → List A → List A → Prop
  | nil {L : List A} : PXs [] L L
  | cons {a : A} {az L L1 L2 : List A} (h : PX a L L1) (t : PXs az L1 L2) : PXs (a :: az) L L2
theorem pXs {az L L' : List A} (h : PXs az L L') : Picks az L L' := by
  induction h with
  | nil => exact .nil
  | cons h _ ih => exact .cons (pX h) ih
theorem eX {az L L' : List A} (h : PXs az L L') : Ent L az := (pXs h).ent
inductive PB : A → List A → List A → Prop
  | here {a : A} {L : List A} : PB a (a :: L) L
  | nil {α : Type} {e : Enc α} {T : TypeId} {L : List A} : PB (Own e T (.slice none 0 0) []) L L
  | there {a b : A} {L L' : List A} (h : PB a L L') : PB a (b :: L) (b :: L')
theorem pB {a : A} {L L' : List A} (h : PB a L L') : Pick a L L' := by
  induction h with
  | here => exact Pick.here
  | nil => exact Pick.own_nil
  | there _ ih => exact Pick.there ih
inductive RX (L : List A) : List A → Prop
  | nil : RX L []
  | sl {α : Type} {e : Enc α} {v : Value} {xs : List α} {az : List A} (h : HX L (Sl e v xs)) (t : RX L az) : RX L (Sl e v xs :: az)
  | blk {b : Nat} {T : TypeId} {cs : List Value} {az : List A} (h : HX L (BlkR b T cs)) (t : RX L az) : RX L (BlkR b T cs :: az)
  | rd {α : Type} {e : Enc α} {cs : List Value} {x : α} {az : List A} (h : HX L (Rd e cs x)) (t : RX L az) : RX L (Rd e cs x :: az)
  | pu {p : Prop} {az : List A} (h : HX L (Pu p)) (t : RX L az) : RX L (Pu p :: az)
  | fld {p : Addr} {u : Value} {az : List A} (h : HX L (FldCell p u)) (t : RX L az) : RX L (FldCell p u :: az)
theorem rX {L az : List A} (h : RX L az) : Reads L az := by
  induction h with
  | nil => exact .nil
  | sl h _ ih => exact .cons (Sl.isDup _ _ _) (hX h) ih
  | blk h _ ih => exact .cons (BlkR.isDup _ _ _) (hX h) ih
  | rd h _ ih => exact .cons (Rd.isDup _ _ _) (hX h) ih
  | pu h _ ih => exact .cons (Pu.isDup _) (hX h) ih
  | fld h _ ih => exact .cons (FldCell.isDup _ _) (hX h) ih
section
variable {α : Type} {e : Enc α} {T : TypeId} {v : Value} {zs : List α} {L : List A} {i : Nat}
theorem el1 (h : i < zs.length) : Elem (Sl e v zs :: L) e v i zs[i] := Elem.sl (List.getElem?_eq_getElem h)
theorem el2 (h : i < zs.length) : Elem (Own e T v zs :: L) e v i zs[i] := Elem.own (List.getElem?_eq_getElem h)
theorem el3 (h : i < zs.length) : Elem (OwnO e T v zs :: L) e v i zs[i] := Elem.ownO (List.getElem?_eq_getElem h)
end
theorem dd {a b : Nat} (h : Nat.ble a b = true) : a ≤ b := Nat.le_of_ble_eq_true h
/-- Encodings whose reading hangs on nothing else. -/
class PureC {α : Type} (e : Enc α) : Prop where
  h : e.Pure
instance {k : IntKind} : PureC (eInt k) := ⟨eInt_pure k⟩
instance : PureC eStr := ⟨eStr_pure⟩
instance : PureC eBool := ⟨eBool_pure⟩
instance : PureC eByte := ⟨eByte_pure⟩
instance : PureC eRaw := ⟨eRaw_pure⟩
instance {α β : Type} {e : Enc α} {f : Enc β} [PureC e] [PureC f] : PureC (ePair e f) := ⟨ePair_pure PureC.h PureC.h⟩
instance {α β : Type} {g : α → β} {e : Enc β} [PureC e] : PureC (eMap g e) := ⟨eMap_pure PureC.h⟩
/-- What stands by itself. -/
class SepC (a : A) : Prop where
  h : a.Sep
instance {b : Nat} {T : TypeId} {cs : List Value} : SepC (Blk b T cs) := ⟨Blk.sep⟩
instance {b : Nat} {o : Obj} : SepC (ObjA b o) := ⟨ObjA.sep⟩
instance {p : Prop} : SepC (Pu p) := ⟨Pu.sep p⟩
instance {κ : Type} [DecidableEq κ] {ke : KeyEnc κ} {b : Nat} {m : List (κ × Value)} : SepC (MapA ke b m) := ⟨MapA.sep⟩
instance {κ : Type} [DecidableEq κ] {ke : KeyEnc κ} {o : Option Nat} {m : List (κ × Value)} : SepC (MapO ke o m) := ⟨by cases o with | none => exact Pu.sep _ | some b => exact MapA.sep⟩
instance {α : Type} {e : Enc α} {T : TypeId} {v : Value} {xs : List α} : SepC (OwnO e T v xs) := ⟨OwnO.sep⟩
instance {α : Type} {e : Enc α} [PureC e] {T : TypeId} {v : Value} {xs : List α} : SepC (Own e T v xs) := ⟨Own.sep PureC.h⟩
class SepsC (l : List A) : Prop where
  h : Seps l
instance : SepsC [] := ⟨.nil⟩
instance {a : A} {l : List A} [SepC a] [SepsC l] : SepsC (a :: l) := ⟨.cons SepC.h SepsC.h⟩
instance {l : List A} [SepsC l] : SepC (AllA l) := ⟨AllA.sep SepsC.h⟩
instance {γ : Type} {f : γ → A} [∀ g, SepC (f g)] : SepC (ExA f) := ⟨ExA.sep fun _ => SepC.h⟩
theorem sX {l : List A} [SepsC l] : Seps l := SepsC.h
end Go.SL
/- Short forms of the steps that the walks take most: what is found by looking is found by the form itself. -/
namespace Go.SL
open Go
section
variable {X : Cx} {ops : Array Oper} {rest : List Oper} {kk : List Item} {env : Env} {L L1 S : List A} {fuel : Nat} {listed : Array Bool} {d : Nat} {T : TypeId} {pos : String} {af : Array Edge} {x y c : Operand} {v u : Value}
theorem oV {op : Op} (h : Val X env L op T v) (k : Ops X ops rest kk ((d, v) :: env) L) (hd : d < X.fn.ntmps := by exact dd rfl) : Ops X ops (⟨some d, op, T, pos, af, none⟩ :: rest) kk env L := o_val h hd k
theorem qV {op : Op} (h : Val X env L op T v) (k : Qops X ops rest kk ((d, v) :: env) L) (hd : d < X.fn.ntmps := by exact dd rfl) : Qops X ops (⟨some d, op, T, pos, af, none⟩ :: rest) kk env L := q_val h hd k
theorem oN {j s : Nat} {want : Bool} {d : Option Nat} {op : Op} (h : Ops X ops (⟨d, op, T, pos, af, none⟩ :: rest) kk env L) (hj : (ops[j]?).bind (·.dst) = some s := by exact rfl) (ht : env.look s = some (.bool want) := by exact rfl) : Ops X ops (⟨d, op, T, pos, af, some (j, want)⟩ :: rest) kk env L := o_on hj ht h
theorem qN {j s : Nat} {want : Bool} {d : Option Nat} {op : Op} (h : Qops X ops (⟨d, op, T, pos, af, none⟩ :: rest) kk env L) (hj : (ops[j]?).bind (·.dst) = some s := by exact rfl) (ht : env.look s = some (.bool want) := by exact rfl) : Qops X ops (⟨d, op, T, pos, af, some (j, want)⟩ :: rest) kk env L := q_on hj ht h
theorem oX {j s : Nat} {t want : Bool} {op : Op} (h : Ops X ops rest kk ((d, undef) :: env) L) (hj : (ops[j]?).bind (·.dst) = some s := by exact rfl) (ht : env.look s = some (.bool t) := by exact rfl) (hne : t = !want := by exact rfl) (hd : d < X.fn.ntmps := by exact dd rfl) : Ops X ops (⟨some d, op, T, pos, af, some (j, want)⟩ :: rest) kk env L := o_off hj ht hne hd h
theorem qX {j s : Nat} {t want : Bool} {op : Op} (h : Qops X ops rest kk ((d, undef) :: env) L) (hj : (ops[j]?).bind (·.dst) = some s := by exact rfl) (ht : env.look s = some (.bool t) := by exact rfl) (hne : t = !want := by exact rfl) (hd : d < X.fn.ntmps := by exact dd rfl) : Qops X ops (⟨some d, op, T, pos, af, some (j, want)⟩ :: rest) kk env L := q_off hj ht hne hd h
theorem oU {j s : Nat} {want : Bool} {op : Op} (h : Ops X ops rest kk ((d, undef) :: env) L) (hj : (ops[j]?).bind (·.dst) = some s := by exact rfl) (ht : env.look s = some undef := by exact rfl) (hd : d < X.fn.ntmps := by exact dd rfl) : Ops X ops (⟨some d, op, T, pos, af, some (j, want)⟩ :: rest) kk env L := o_offu hj ht hd h
theorem vM (hx : env.eval x = some v := by exact rfl) : Val X env L (.move x) T v := v_move hx
theorem vA (hx : env.eval x = some v := by exact rfl) : Val X env L (.assign x) T v := v_assign hx
theorem vT (hc : env.eval c = some (.bool true) := by exact rfl) (hx : env.eval x = some v := by exact rfl) : Val X env L (.pick c x y) T v := v_pick_t hc hx
theorem vQ (hc : env.eval c = some (.bool false) := by exact rfl) (hy : env.eval y = some v := by exact rfl) : Val X env L (.pick c x y) T v := v_pick_f hc hy
theorem vE {vs : Array Value} {i : Nat} (hx : env.eval x = some (.tuple vs) := by exact rfl) (hv : vs[i]? = some v := by exact rfl) : Val X env L (.extract x i) T v := v_extract hx hv
theorem vF {t ft : TypeId} {fs : Array Field} {i : Nat} {p : Addr} {z : Value} {n bt : Nat} (off : Nat) (hu : X.P.underlying t = some (.struct fs)) (ht : TI X.P ft z n bt) (hf : (fs[i]?).map (fun f => (f.offset, f.type)) = some (off, ft) := by exact rfl) (hn : n ≠ 0 := by decide) (hx : env.eval x = some (.pointer (some p)) := by exact rfl) : Val X env L (.fieldAddr t x i) T (.pointer (some (p.add off))) := v_fieldAddrC off hu hf ht hn hx
theorem vL {t : TypeId} {b off : Nat} {bt : TypeId} {cs : List Value} (ht : Lone X.P t) (hx : env.eval x = some (.pointer (some ⟨b, off, none⟩)) := by exact rfl) (hb : Has L (BlkR b bt cs) := by exact hX (by repeat constructor)) (hc : cs[off]? = some u := by exact rfl) : Val X env L (.load t x) T u := v_load ht hx hb hc
theorem vW {t : TypeId} {b n : Nat} {bt : TypeId} {cs : List Value} {z0 : Value} {nb : Nat} {fs : Array Field} (ht : X.P.underlying t = some (.struct fs)) (hE : TI X.P t z0 n nb) (hx : env.eval x = some (.pointer (some ⟨b, 0, none⟩)) := by exact rfl) (hb : Has L (BlkR b bt cs) := by exact hX (by repeat constructor)) (hn : cs.length = n := by exact rfl) : Val X env L (.load t x) T (.agg cs.toArray) := v_load_all ⟨_, ht⟩ hE hx hb hn
theorem aT (i : Nat) {op : Op} (hi : ops[i]? = some ⟨some d, op, T, pos, af, none⟩) (hv : Val X env S op T v) (k : Any X ops S fuel (listed.setIfInBounds i true) kk ((d, v) :: env) L) (hs : Region.noSelect ops = true := by kernel_rfl) (hf : Region.free .any ops listed i = true := by kernel_rfl) (hr : (Region.ready .any ops listed).contains i = true := by kernel_rfl) (hS : Ent L S := by exact eX (by repeat constructor)) (hd : d < X.fn.ntmps := by exact dd rfl) : Any X ops S (fuel + 1) listed kk env L := a_take i hi hs hf hr hv hS hd k
theorem aN (i : Nat) {j s : Nat} {want : Bool} {op : Op} (hi : ops[i]? = some ⟨some d, op, T, pos, af, some (j, want)⟩) (hv : Val X env S op T v) (k : Any X ops S fuel (listed.setIfInBounds i true) kk ((d, v) :: env) L) (hj : (ops[j]?).bind (·.dst) = some s := by exact rfl) (ht : env.look s = some (.bool want) := by exact rfl) (hs : Region.noSelect ops = true := by kernel_rfl) (hf : Region.free .any ops listed i = true := by kernel_rfl) (hr : (Region.ready .any ops listed).contains i = true := by kernel_rfl) (hS : Ent L S := by exact eX (by repeat constructor)) (hd : d < X.fn.ntmps := by exact dd rfl) : Any X ops S (fuel + 1) listed kk env L := a_take_on i hi hj ht hs hf hr hv hS hd k
theorem aX (i : Nat) {j s : Nat} {t want : Bool} {op : Op} (hi : ops[i]? = some ⟨some d, op, T, pos, af, some (j, want)⟩) (k : Any X ops S fuel (listed.setIfInBounds i true) kk ((d, undef) :: env) L) (hj : (ops[j]?).bind (·.dst) = some s := by exact rfl) (ht : env.look s = some (.bool t) := by exact rfl) (hne : t = !want := by exact rfl) (hs : Region.noSelect ops = true := by kernel_rfl) (hf : Region.free .any ops listed i = true := by kernel_rfl) (hr : (Region.ready .any ops listed).contains i = true := by kernel_rfl) (hS : Ent L S := by exact eX (by repeat constructor)) (hd : d < X.fn.ntmps := by exact dd rfl) : Any X ops S (fuel + 1) listed kk env L := a_take_off i hi hj ht hne hs hf hr hS hd k
theorem aO (i : Nat) {d : Option Nat} {op : Op} (hi : ops[i]? = some ⟨d, op, T, pos, af, none⟩) (h : StepK X kk ⟨d, op, T, pos, af, none⟩ env L fun a w => (∃ O, Stars S w O) ∧ wpAnyH X.P .any ops (Qn X kk) (fun w => ∃ O, Stars S w O) fuel (listed.setIfInBounds i true) a w) (hr : Region.ready .any ops listed = [i] := by kernel_rfl) : Any X ops S (fuel + 1) listed kk env L := a_one i hi hr h
theorem aP (i : Nat) {j s : Nat} {want : Bool} {d : Option Nat} {op : Op} (hi : ops[i]? = some ⟨d, op, T, pos, af, some (j, want)⟩) (h : StepK X kk ⟨d, op, T, pos, af, none⟩ env L fun a w => (∃ O, Stars S w O) ∧ wpAnyH X.P .any ops (Qn X kk) (fun w => ∃ O, Stars S w O) fuel (listed.setIfInBounds i true) a w) (hj : (ops[j]?).bind (·.dst) = some s := by exact rfl) (ht : env.look s = some (.bool want) := by exact rfl) (hr : Region.ready .any ops listed = [i] := by kernel_rfl) : Any X ops S (fuel + 1) listed kk env L := a_one_on i hi hj ht hr h
theorem oS {t : TypeId} {b n : Nat} {bt : TypeId} {cs new : List Value} {z : Value} {nb : Nat} (ht : TI X.P t z n nb) (k : Ops X ops rest kk env (Blk b bt new :: L1)) (hx : env.eval x = some (.pointer (some ⟨b, 0, none⟩)) := by exact rfl) (hy : env.eval y = some u := by exact rfl)
    (hc : CellsV L u new := by first | exact CellsV.lit rfl | exact CellsV.one (by first | exact OneC.lit rfl | exact OneC.sl (hX (by repeat constructor)))) (h1 : OneAll L new := by repeat (first | exact OneAll.nil | (refine OneAll.cons ?_ ?_; · first | exact OneC.lit rfl | exact OneC.sl (hX (by repeat constructor))) | exact OneAll.rd (hX (by repeat constructor)))) (hn : new.length = n := by exact rfl) (hp : Pick (Blk b bt cs) L L1 := by exact pB (by repeat constructor)) (hl : cs.length = n := by exact rfl) :
    Ops X ops (⟨none, .store t x y, T, pos, af, none⟩ :: rest) kk env L := o_step (s_store_all ht hx hy hc h1 hn hp hl k)
theorem aS (i : Nat) {t : TypeId} {b n : Nat} {bt : TypeId} {cs new : List Value} {z : Value} {nb : Nat} (hi : ops[i]? = some ⟨none, .store t x y, T, pos, af, none⟩) (ht : TI X.P t z n nb) (k : Any X ops S fuel (listed.setIfInBounds i true) kk env (Blk b bt new :: L1)) (hx : env.eval x = some (.pointer (some ⟨b, 0, none⟩)) := by exact rfl) (hy : env.eval y = some u := by exact rfl)
    (hc : CellsV L u new := by first | exact CellsV.lit rfl | exact CellsV.one (by first | exact OneC.lit rfl | exact OneC.sl (hX (by repeat constructor)))) (h1 : OneAll L new := by repeat (first | exact OneAll.nil | (refine OneAll.cons ?_ ?_; · first | exact OneC.lit rfl | exact OneC.sl (hX (by repeat constructor))) | exact OneAll.rd (hX (by repeat constructor)))) (hn : new.length = n := by exact rfl) (hp : Pick (Blk b bt cs) L L1 := by exact pB (by repeat constructor)) (hl : cs.length = n := by exact rfl)
    (hr : Region.ready .any ops listed = [i] := by kernel_rfl) (hS : Ent (Blk b bt new :: L1) S := by exact eX (by repeat constructor)) : Any X ops S (fuel + 1) listed kk env L := a_one i hi hr (s_store_all ht hx hy hc h1 hn hp hl (a_on hS k))
theorem oC {γ : Type} {ret : γ → Value} {pu : γ → Prop} {L' : γ → List A} {g : FuncId} {xs : List Operand} {args : List Value} {ts : Array TypeId} {Lp : List A} (hc : Callable X.P g) (spec : Con X.P g args Lp ret pu L') (k : ∀ g, pu g → Ops X ops rest kk ((d, ret g) :: env) (L' g ++ L1))
    (hx : evalAll env xs = some args := by exact rfl) (hd : d < X.fn.ntmps := by exact dd rfl) (hp : Picks Lp L L1 := by exact pXs (by repeat constructor)) : Ops X ops (⟨some d, .call ⟨.value (.func g), xs.toArray, ts⟩, T, pos, af, none⟩ :: rest) kk env L := o_step (s_callf hc spec hx hd hp k)
theorem aK (h : Any X ops S fuel listed kk env L) (hS : Ent L S := by exact eX (by repeat constructor)) : Kont X env L fun a w => (∃ O, Stars S w O) ∧ wpAnyH X.P .any ops (Qn X kk) (fun w => ∃ O, Stars S w O) fuel listed a w := a_on hS h
end
section
variable {X : Cx} {k : List Item} {env env' : Env} {L L' : List A}
theorem cU (h : Cfg X k env' L') (he : Env.Le env' env := by repeat (first | exact trivial | refine ⟨rfl, ?_⟩)) (hl : Ent L L' := by exact eX (by repeat constructor)) : Cfg X k env L := c_use h he hl
theorem cJ {d : Nat} {b c : Bool} (h : Cfg X k ((d, .bool b) :: env') L') (ha : env.look d = some (.bool c)) (hv : c = b) (he : Env.Le env' env := by repeat (first | exact trivial | refine ⟨rfl, ?_⟩)) (hl : Ent L L' := by first | exact Ent.refl _ | exact eX (by repeat constructor)) : Cfg X k env L := c_use h ⟨Env.as ha (congrArg Value.bool hv), he⟩ hl
end
end Go.SL
/-
  DERIVED: THE SHELF's CONTRACTS AT THIS DUMP, IN PLAIN WORDS (tools/lay-plain.mjs out of 'TryzShelf.lean', which tools/lay-shelf.mjs wrote): THE SAME DECLARATIONS UNDER THE SAME NAMES: 'import', 'namespace', 'open', 'def', 'theorem' AND NOTHING ELSE: no command of the shelf's: FOR A HAND-IN. Each laying: the table of numbers ('.._ren') and one theorem, a field a fact of the dump's own or the kernel's comparison; each contract: ONE APPLICATION.
-/
namespace Go.Proofs
open Go.Shelf
def Tryz.lays160_ren : Go.Shelf.Ren := ⟨fun | 160 => 126 | 232 => 149 | 231 => 148 | 227 => 150 | 234 => 152 | 233 => 151 | 236 => 154 | 235 => 153 | 228 => 165 | 271 => 168 | 151 => 167 | 197 => 166 | 120 => 183 | 152 => 182 | 260 => 181 | 137 => 196 | 119 => 197 | 224 => 186 | 225 => 185 | 217 => 184 | 266 => 198 | n => n, fun | 9 => 9 | 4 => 4 | 3 => 3 | 5 => 5 | 117 => 176 | 116 => 175 | 0 => 0 | 124 => 179 | 21 => 21 | 105 => 188 | 46 => 206 | 119 => 217 | 139 => 220 | 138 => 219 | n => n, fun | 3 => 4 | 4 => 5 | n => n⟩
theorem Tryz.lays160 : Go.Proofs.Lays.n160 Tryz.prog Tryz.lays160_ren := {
  mixed := by kernel_rfl
  f119 := Tryz.func197.trans (congrArg some (by kernel_rfl))
  f120 := Tryz.func183.trans (congrArg some (by kernel_rfl))
  f137 := Tryz.func196.trans (congrArg some (by kernel_rfl))
  f151 := Tryz.func167.trans (congrArg some (by kernel_rfl))
  f152 := Tryz.func182.trans (congrArg some (by kernel_rfl))
  f160 := Tryz.func126.trans (congrArg some (by kernel_rfl))
  f197 := Tryz.func166.trans (congrArg some (by kernel_rfl))
  f217 := Tryz.func184.trans (congrArg some (by kernel_rfl))
  f224 := Tryz.func186.trans (congrArg some (by kernel_rfl))
  f225 := Tryz.func185.trans (congrArg some (by kernel_rfl))
  f227 := Tryz.func150.trans (congrArg some (by kernel_rfl))
  f228 := Tryz.func165.trans (congrArg some (by kernel_rfl))
  f231 := Tryz.func148.trans (congrArg some (by kernel_rfl))
  f232 := Tryz.func149.trans (congrArg some (by kernel_rfl))
  f233 := Tryz.func151.trans (congrArg some (by kernel_rfl))
  f234 := Tryz.func152.trans (congrArg some (by kernel_rfl))
  f235 := Tryz.func153.trans (congrArg some (by kernel_rfl))
  f236 := Tryz.func154.trans (congrArg some (by kernel_rfl))
  f260 := Tryz.func181.trans (congrArg some (by kernel_rfl))
  f266 := Tryz.func198.trans (congrArg some (by kernel_rfl))
  f271 := Tryz.func168.trans (congrArg some (by kernel_rfl))
  t0 := Tryz.underlying0
  a0 := Tryz.isAgg0
  z0 := Tryz.sizeOf0
  v0 := Tryz.zeroValue0
  t3 := Tryz.underlying3
  a3 := Tryz.isAgg3
  z3 := Tryz.sizeOf3
  v3 := Tryz.zeroValue3
  t4 := Tryz.underlying4
  a4 := Tryz.isAgg4
  z4 := Tryz.sizeOf4
  v4 := Tryz.zeroValue4
  t5 := Tryz.underlying5
  a5 := Tryz.isAgg5
  z5 := Tryz.sizeOf5
  v5 := Tryz.zeroValue5
  t9 := Tryz.underlying9
  a9 := Tryz.isAgg9
  z9 := Tryz.sizeOf9
  v9 := Tryz.zeroValue9
  t21 := Tryz.underlying21
  a21 := Tryz.isAgg21
  z21 := Tryz.sizeOf21
  v21 := Tryz.zeroValue21
  t46 := Tryz.underlying206
  a46 := Tryz.isAgg206
  z46 := Tryz.sizeOf206
  v46 := Tryz.zeroValue206
  t105 := Tryz.underlying188
  a105 := Tryz.isAgg188
  z105 := Tryz.sizeOf188
  v105 := Tryz.zeroValue188
  t116 := Tryz.underlying175
  a116 := Tryz.isAgg175
  z116 := Tryz.sizeOf175
  t117 := Tryz.underlying176
  a117 := Tryz.isAgg176
  z117 := Tryz.sizeOf176
  v117 := Tryz.zeroValue176
  t119 := Tryz.underlying217
  a119 := Tryz.isAgg217
  z119 := Tryz.sizeOf217
  t124 := Tryz.underlying179
  a124 := Tryz.isAgg179
  z124 := Tryz.sizeOf179
  v124 := Tryz.zeroValue179
  t138 := Tryz.underlying219
  a138 := Tryz.isAgg219
  z138 := Tryz.sizeOf219
  v138 := Tryz.zeroValue219
  t139 := Tryz.underlying220
  a139 := Tryz.isAgg220
  z139 := Tryz.sizeOf220
  v139 := Tryz.zeroValue220
  g3 := by kernel_rfl
  g4 := by kernel_rfl }
def Tryz.lays172_ren : Go.Shelf.Ren := ⟨fun | 172 => 138 | 244 => 162 | 245 => 163 | 247 => 175 | 279 => 176 | 280 => 177 | 281 => 178 | 282 => 179 | 287 => 193 | 316 => 194 | 171 => 139 | 205 => 195 | 321 => 202 | 322 => 203 | 243 => 164 | 246 => 180 | 283 => 171 | 284 => 172 | 285 => 173 | 286 => 174 | 129 => 189 | 317 => 188 | 318 => 190 | 319 => 191 | 320 => 192 | 337 => 200 | 338 => 201 | n => n, fun | 9 => 9 | 3 => 3 | 75 => 165 | 76 => 166 | 4 => 4 | 5 => 5 | 167 => 196 | 37 => 38 | 0 => 0 | 85 => 197 | 2 => 2 | 168 => 199 | 53 => 184 | 175 => 212 | 46 => 206 | 210 => 215 | 127 => 226 | 145 => 229 | 143 => 227 | 21 => 21 | 171 => 191 | 173 => 194 | 212 => 208 | 51 => 209 | 20 => 20 | 213 => 210 | 232 => 230 | 233 => 231 | 80 => 147 | n => n, fun | 15 => 2 | 16 => 3 | 17 => 1 | 18 => 6 | 19 => 7 | n => n⟩
theorem Tryz.lays172 : Go.Proofs.Lays.n172 Tryz.prog Tryz.lays172_ren := {
  mixed := by kernel_rfl
  f129 := Tryz.func189.trans (congrArg some (by kernel_rfl))
  f171 := Tryz.func139.trans (congrArg some (by kernel_rfl))
  f172 := Tryz.func138.trans (congrArg some (by kernel_rfl))
  f205 := Tryz.func195.trans (congrArg some (by kernel_rfl))
  f243 := Tryz.func164.trans (congrArg some (by kernel_rfl))
  f244 := Tryz.func162.trans (congrArg some (by kernel_rfl))
  f245 := Tryz.func163.trans (congrArg some (by kernel_rfl))
  f246 := Tryz.func180.trans (congrArg some (by kernel_rfl))
  f247 := Tryz.func175.trans (congrArg some (by kernel_rfl))
  f279 := Tryz.func176.trans (congrArg some (by kernel_rfl))
  f280 := Tryz.func177.trans (congrArg some (by kernel_rfl))
  f281 := Tryz.func178.trans (congrArg some (by kernel_rfl))
  f282 := Tryz.func179.trans (congrArg some (by kernel_rfl))
  f283 := Tryz.func171.trans (congrArg some (by kernel_rfl))
  f284 := Tryz.func172.trans (congrArg some (by kernel_rfl))
  f285 := Tryz.func173.trans (congrArg some (by kernel_rfl))
  f286 := Tryz.func174.trans (congrArg some (by kernel_rfl))
  f287 := Tryz.func193.trans (congrArg some (by kernel_rfl))
  f316 := Tryz.func194.trans (congrArg some (by kernel_rfl))
  f317 := Tryz.func188.trans (congrArg some (by kernel_rfl))
  f318 := Tryz.func190.trans (congrArg some (by kernel_rfl))
  f319 := Tryz.func191.trans (congrArg some (by kernel_rfl))
  f320 := Tryz.func192.trans (congrArg some (by kernel_rfl))
  f321 := Tryz.func202.trans (congrArg some (by kernel_rfl))
  f322 := Tryz.func203.trans (congrArg some (by kernel_rfl))
  f337 := Tryz.func200.trans (congrArg some (by kernel_rfl))
  f338 := Tryz.func201.trans (congrArg some (by kernel_rfl))
  t0 := Tryz.underlying0
  a0 := Tryz.isAgg0
  z0 := Tryz.sizeOf0
  v0 := Tryz.zeroValue0
  t2 := Tryz.underlying2
  a2 := Tryz.isAgg2
  z2 := Tryz.sizeOf2
  v2 := Tryz.zeroValue2
  t3 := Tryz.underlying3
  a3 := Tryz.isAgg3
  z3 := Tryz.sizeOf3
  v3 := Tryz.zeroValue3
  t4 := Tryz.underlying4
  a4 := Tryz.isAgg4
  z4 := Tryz.sizeOf4
  v4 := Tryz.zeroValue4
  t5 := Tryz.underlying5
  a5 := Tryz.isAgg5
  z5 := Tryz.sizeOf5
  v5 := Tryz.zeroValue5
  t9 := Tryz.underlying9
  a9 := Tryz.isAgg9
  z9 := Tryz.sizeOf9
  v9 := Tryz.zeroValue9
  t20 := Tryz.underlying20
  a20 := Tryz.isAgg20
  z20 := Tryz.sizeOf20
  v20 := Tryz.zeroValue20
  t21 := Tryz.underlying21
  a21 := Tryz.isAgg21
  z21 := Tryz.sizeOf21
  v21 := Tryz.zeroValue21
  t37 := Tryz.underlying38
  a37 := Tryz.isAgg38
  z37 := Tryz.sizeOf38
  v37 := Tryz.zeroValue38
  t46 := Tryz.underlying206
  a46 := Tryz.isAgg206
  z46 := Tryz.sizeOf206
  v46 := Tryz.zeroValue206
  t51 := Tryz.underlying209
  a51 := Tryz.isAgg209
  z51 := Tryz.sizeOf209
  v51 := Tryz.zeroValue209
  t53 := Tryz.underlying184
  a53 := Tryz.isAgg184
  z53 := Tryz.sizeOf184
  v53 := Tryz.zeroValue184
  t75 := Tryz.underlying165
  a75 := Tryz.isAgg165
  z75 := Tryz.sizeOf165
  v75 := Tryz.zeroValue165
  t76 := Tryz.underlying166
  a76 := Tryz.isAgg166
  z76 := Tryz.sizeOf166
  v76 := Tryz.zeroValue166
  t85 := Tryz.underlying197
  a85 := Tryz.isAgg197
  z85 := Tryz.sizeOf197
  v85 := Tryz.zeroValue197
  t127 := Tryz.underlying226
  a127 := Tryz.isAgg226
  z127 := Tryz.sizeOf226
  v127 := Tryz.zeroValue226
  t143 := Tryz.underlying227
  a143 := Tryz.isAgg227
  z143 := Tryz.sizeOf227
  v143 := Tryz.zeroValue227
  t145 := Tryz.underlying229
  a145 := Tryz.isAgg229
  z145 := Tryz.sizeOf229
  v145 := Tryz.zeroValue229
  t167 := Tryz.underlying196
  a167 := Tryz.isAgg196
  z167 := Tryz.sizeOf196
  v167 := Tryz.zeroValue196
  t168 := Tryz.underlying199
  a168 := Tryz.isAgg199
  z168 := Tryz.sizeOf199
  v168 := Tryz.zeroValue199
  t171 := Tryz.underlying191
  a171 := Tryz.isAgg191
  z171 := Tryz.sizeOf191
  v171 := Tryz.zeroValue191
  t173 := Tryz.underlying194
  a173 := Tryz.isAgg194
  z173 := Tryz.sizeOf194
  v173 := Tryz.zeroValue194
  t175 := Tryz.underlying212
  a175 := Tryz.isAgg212
  z175 := Tryz.sizeOf212
  v175 := Tryz.zeroValue212
  t210 := Tryz.underlying215
  a210 := Tryz.isAgg215
  z210 := Tryz.sizeOf215
  v210 := Tryz.zeroValue215
  t212 := Tryz.underlying208
  a212 := Tryz.isAgg208
  z212 := Tryz.sizeOf208
  v212 := Tryz.zeroValue208
  t213 := Tryz.underlying210
  a213 := Tryz.isAgg210
  z213 := Tryz.sizeOf210
  t232 := Tryz.underlying230
  a232 := Tryz.isAgg230
  z232 := Tryz.sizeOf230
  v232 := Tryz.zeroValue230
  t233 := Tryz.underlying231
  a233 := Tryz.isAgg231
  z233 := Tryz.sizeOf231
  v233 := Tryz.zeroValue231
  g15 := by kernel_rfl
  g16 := by kernel_rfl
  g17 := by kernel_rfl
  g18 := by kernel_rfl
  g19 := by kernel_rfl }
open Go.RowKit in
theorem Tryz.strconv_Atoi (s : ByteArray) (n : Int) (hl : s.size ≤ 18) (h : Lib.atoi s.data.toList = some n) (w : World) :
    Calls Tryz.prog 138 #[.string s] w fun e w' => e = .returned (.tuple #[.int .i64 n, .nilIface]) ∧ ∃ t, w' = Lib.bytesWorld w 5 t := Any.strconv_Atoi Tryz.lays172 s n hl h w
def Tryz.lays283_ren : Go.Shelf.Ren := ⟨fun | 283 => 171 | n => n, fun | 3 => 3 | 9 => 9 | 4 => 4 | n => n, fun | n => n⟩
theorem Tryz.lays283 : Go.Proofs.Lays.n283 Tryz.prog Tryz.lays283_ren := {
  mixed := by kernel_rfl
  f283 := Tryz.func171.trans (congrArg some (by kernel_rfl))
  t3 := Tryz.underlying3
  a3 := Tryz.isAgg3
  z3 := Tryz.sizeOf3
  v3 := Tryz.zeroValue3
  t4 := Tryz.underlying4
  a4 := Tryz.isAgg4
  z4 := Tryz.sizeOf4
  v4 := Tryz.zeroValue4
  t9 := Tryz.underlying9
  a9 := Tryz.isAgg9
  z9 := Tryz.sizeOf9
  v9 := Tryz.zeroValue9 }
open Go.Lib in
theorem Tryz.internal_strconv_small (i : Nat) (h : i < 100) (w : World) :
    Calls Tryz.prog 171 #[.int .i64 i] w fun e w' => e = .returned (.string ⟨(Lib.decDigits i).toArray⟩) ∧ w' = w := Any.internal_strconv_small Tryz.lays283 i h w
def Tryz.laysM284_ren : Go.Shelf.Ren := ⟨fun | 284 => 172 | 129 => 189 | 317 => 188 | 318 => 190 | n => n, fun | 53 => 184 | 3 => 3 | 212 => 208 | 0 => 0 | 4 => 4 | 46 => 206 | 5 => 5 | 9 => 9 | n => n, fun | 17 => 1 | n => n⟩
theorem Tryz.laysM284 : Go.Proofs.LaysM.n284 Tryz.prog Tryz.laysM284_ren := {
  mixed := by kernel_rfl
  f129 := Tryz.func189.trans (congrArg some (by kernel_rfl))
  f284 := Tryz.func172.trans (congrArg some (by kernel_rfl))
  f317 := Tryz.func188.trans (congrArg some (by kernel_rfl))
  f318 := Tryz.func190.trans (congrArg some (by kernel_rfl))
  t0 := Tryz.underlying0
  a0 := Tryz.isAgg0
  z0 := Tryz.sizeOf0
  v0 := Tryz.zeroValue0
  t3 := Tryz.underlying3
  a3 := Tryz.isAgg3
  z3 := Tryz.sizeOf3
  v3 := Tryz.zeroValue3
  t4 := Tryz.underlying4
  a4 := Tryz.isAgg4
  z4 := Tryz.sizeOf4
  v4 := Tryz.zeroValue4
  t5 := Tryz.underlying5
  a5 := Tryz.isAgg5
  z5 := Tryz.sizeOf5
  v5 := Tryz.zeroValue5
  t9 := Tryz.underlying9
  a9 := Tryz.isAgg9
  z9 := Tryz.sizeOf9
  v9 := Tryz.zeroValue9
  t46 := Tryz.underlying206
  a46 := Tryz.isAgg206
  z46 := Tryz.sizeOf206
  v46 := Tryz.zeroValue206
  t53 := Tryz.underlying184
  a53 := Tryz.isAgg184
  z53 := Tryz.sizeOf184
  v53 := Tryz.zeroValue184
  t212 := Tryz.underlying208
  a212 := Tryz.isAgg208
  z212 := Tryz.sizeOf208
  v212 := Tryz.zeroValue208
  g17 := by kernel_rfl
  i0 := by kernel_rfl
  i3 := by kernel_rfl
  i4 := by kernel_rfl
  i5 := by kernel_rfl
  i9 := by kernel_rfl
  i46 := by kernel_rfl
  i53 := by kernel_rfl
  i212 := by kernel_rfl
  m17 := by kernel_rfl }
open Go.Lib in
theorem Tryz.internal_strconv_numDigits (u : Nat) (h1 : 1 ≤ u) (h2 : u < 18446744073709551616) (w : World) (htab : Lib.TabIs Tryz.prog w "internal/strconv.uint64pow10" .u64 Lib.pow10Tab) :
    Calls Tryz.prog 172 #[.int .u64 u] w fun e w' => e = .returned (.int .i64 (Lib.nDigits u)) ∧ w' = w := Any.internal_strconv_numDigits Tryz.laysM284 u h1 h2 w htab
def Tryz.lays285_ren : Go.Shelf.Ren := ⟨fun | 285 => 173 | n => n, fun | 37 => 38 | 53 => 184 | 3 => 3 | 4 => 4 | 51 => 209 | 9 => 9 | 5 => 5 | 0 => 0 | n => n, fun | n => n⟩
theorem Tryz.lays285 : Go.Proofs.Lays.n285 Tryz.prog Tryz.lays285_ren := {
  mixed := by kernel_rfl
  f285 := Tryz.func173.trans (congrArg some (by kernel_rfl))
  t0 := Tryz.underlying0
  a0 := Tryz.isAgg0
  z0 := Tryz.sizeOf0
  v0 := Tryz.zeroValue0
  t3 := Tryz.underlying3
  a3 := Tryz.isAgg3
  z3 := Tryz.sizeOf3
  v3 := Tryz.zeroValue3
  t4 := Tryz.underlying4
  a4 := Tryz.isAgg4
  z4 := Tryz.sizeOf4
  v4 := Tryz.zeroValue4
  t5 := Tryz.underlying5
  a5 := Tryz.isAgg5
  z5 := Tryz.sizeOf5
  v5 := Tryz.zeroValue5
  t9 := Tryz.underlying9
  a9 := Tryz.isAgg9
  z9 := Tryz.sizeOf9
  v9 := Tryz.zeroValue9
  t37 := Tryz.underlying38
  a37 := Tryz.isAgg38
  z37 := Tryz.sizeOf38
  v37 := Tryz.zeroValue38
  t51 := Tryz.underlying209
  a51 := Tryz.isAgg209
  z51 := Tryz.sizeOf209
  v51 := Tryz.zeroValue209
  t53 := Tryz.underlying184
  a53 := Tryz.isAgg184
  z53 := Tryz.sizeOf184
  v53 := Tryz.zeroValue184 }
open Go.RowKit Go.Sort Go.Lib in
theorem Tryz.internal_strconv_formatBase10 (blk off cap : Nat) (u : Nat) (d : Array UInt8) (w : World) (hH : Holds (fun (b : UInt8) => Value.int .u8 (b.toNat : Int)) w blk off d) (hu : u < 10 ^ d.size) (hu64 : u < 18446744073709551616) (hsz : d.size < 4611686018427387904) :
    Calls Tryz.prog 173 #[.slice (some ⟨blk, off, none⟩) d.size cap, .int .u64 u] w fun e w' =>
      e = .returned (.tuple #[]) ∧ ∃ (n v' : Nat) (dk : Array UInt8), w' = (putRow (fun (b : UInt8) => Value.int .u8 (b.toNat : Int)) w blk off dk).drewN n ∧ FmtInv d.size u 0 v' dk := Any.internal_strconv_formatBase10 Tryz.lays285 blk off cap u d w hH hu hu64 hsz
def Tryz.laysM171_ren : Go.Shelf.Ren := ⟨fun | 171 => 139 | 243 => 164 | 246 => 180 | 283 => 171 | 284 => 172 | 285 => 173 | 286 => 174 | 129 => 189 | 317 => 188 | 318 => 190 | 319 => 191 | 320 => 192 | 337 => 200 | 338 => 201 | n => n, fun | 3 => 3 | 9 => 9 | 2 => 2 | 4 => 4 | 171 => 191 | 0 => 0 | 53 => 184 | 37 => 38 | 5 => 5 | 173 => 194 | 212 => 208 | 51 => 209 | 20 => 20 | 213 => 210 | 46 => 206 | 232 => 230 | 233 => 231 | n => n, fun | 17 => 1 | 18 => 6 | 19 => 7 | n => n⟩
theorem Tryz.laysM171 : Go.Proofs.LaysM.n171 Tryz.prog Tryz.laysM171_ren := {
  mixed := by kernel_rfl
  f129 := Tryz.func189.trans (congrArg some (by kernel_rfl))
  f171 := Tryz.func139.trans (congrArg some (by kernel_rfl))
  f243 := Tryz.func164.trans (congrArg some (by kernel_rfl))
  f246 := Tryz.func180.trans (congrArg some (by kernel_rfl))
  f283 := Tryz.func171.trans (congrArg some (by kernel_rfl))
  f284 := Tryz.func172.trans (congrArg some (by kernel_rfl))
  f285 := Tryz.func173.trans (congrArg some (by kernel_rfl))
  f286 := Tryz.func174.trans (congrArg some (by kernel_rfl))
  f317 := Tryz.func188.trans (congrArg some (by kernel_rfl))
  f318 := Tryz.func190.trans (congrArg some (by kernel_rfl))
  f319 := Tryz.func191.trans (congrArg some (by kernel_rfl))
  f320 := Tryz.func192.trans (congrArg some (by kernel_rfl))
  f337 := Tryz.func200.trans (congrArg some (by kernel_rfl))
  f338 := Tryz.func201.trans (congrArg some (by kernel_rfl))
  t0 := Tryz.underlying0
  a0 := Tryz.isAgg0
  z0 := Tryz.sizeOf0
  v0 := Tryz.zeroValue0
  t2 := Tryz.underlying2
  a2 := Tryz.isAgg2
  z2 := Tryz.sizeOf2
  v2 := Tryz.zeroValue2
  t3 := Tryz.underlying3
  a3 := Tryz.isAgg3
  z3 := Tryz.sizeOf3
  v3 := Tryz.zeroValue3
  t4 := Tryz.underlying4
  a4 := Tryz.isAgg4
  z4 := Tryz.sizeOf4
  v4 := Tryz.zeroValue4
  t5 := Tryz.underlying5
  a5 := Tryz.isAgg5
  z5 := Tryz.sizeOf5
  v5 := Tryz.zeroValue5
  t9 := Tryz.underlying9
  a9 := Tryz.isAgg9
  z9 := Tryz.sizeOf9
  v9 := Tryz.zeroValue9
  t20 := Tryz.underlying20
  a20 := Tryz.isAgg20
  z20 := Tryz.sizeOf20
  v20 := Tryz.zeroValue20
  t37 := Tryz.underlying38
  a37 := Tryz.isAgg38
  z37 := Tryz.sizeOf38
  v37 := Tryz.zeroValue38
  t46 := Tryz.underlying206
  a46 := Tryz.isAgg206
  z46 := Tryz.sizeOf206
  v46 := Tryz.zeroValue206
  t51 := Tryz.underlying209
  a51 := Tryz.isAgg209
  z51 := Tryz.sizeOf209
  v51 := Tryz.zeroValue209
  t53 := Tryz.underlying184
  a53 := Tryz.isAgg184
  z53 := Tryz.sizeOf184
  v53 := Tryz.zeroValue184
  t171 := Tryz.underlying191
  a171 := Tryz.isAgg191
  z171 := Tryz.sizeOf191
  v171 := Tryz.zeroValue191
  t173 := Tryz.underlying194
  a173 := Tryz.isAgg194
  z173 := Tryz.sizeOf194
  v173 := Tryz.zeroValue194
  t212 := Tryz.underlying208
  a212 := Tryz.isAgg208
  z212 := Tryz.sizeOf208
  v212 := Tryz.zeroValue208
  t213 := Tryz.underlying210
  a213 := Tryz.isAgg210
  z213 := Tryz.sizeOf210
  t232 := Tryz.underlying230
  a232 := Tryz.isAgg230
  z232 := Tryz.sizeOf230
  v232 := Tryz.zeroValue230
  t233 := Tryz.underlying231
  a233 := Tryz.isAgg231
  z233 := Tryz.sizeOf231
  v233 := Tryz.zeroValue231
  g17 := by kernel_rfl
  g18 := by kernel_rfl
  g19 := by kernel_rfl
  i0 := by kernel_rfl
  i2 := by kernel_rfl
  i3 := by kernel_rfl
  i4 := by kernel_rfl
  i5 := by kernel_rfl
  i9 := by kernel_rfl
  i20 := by kernel_rfl
  i37 := by kernel_rfl
  i46 := by kernel_rfl
  i51 := by kernel_rfl
  i53 := by kernel_rfl
  i171 := by kernel_rfl
  i173 := by kernel_rfl
  i212 := by kernel_rfl
  i232 := by kernel_rfl
  i233 := by kernel_rfl
  m17 := by kernel_rfl
  m18 := by kernel_rfl
  m19 := by kernel_rfl }
open Go.RowKit Go.Sort Go.Lib in
theorem Tryz.strconv_Itoa (n : Int) (h0 : -9223372036854775808 ≤ n) (h1 : n ≤ 9223372036854775807) (w : World) (htab : Lib.TabIs Tryz.prog w "internal/strconv.uint64pow10" .u64 Lib.pow10Tab) :
    Calls Tryz.prog 139 #[.int .i64 n] w fun e w' => e = .returned (.string ⟨(Lib.itoa n).toArray⟩) ∧ ∃ k os, w' = grow (w.drewN k) os := Any.strconv_Itoa Tryz.laysM171 n h0 h1 w htab
def Tryz.laysC172_ren : Go.Shelf.Ren := ⟨fun | 172 => 138 | 244 => 162 | 245 => 163 | 247 => 175 | 279 => 176 | 280 => 177 | 281 => 178 | 282 => 179 | 287 => 193 | 316 => 194 | 171 => 139 | 205 => 195 | 321 => 202 | 322 => 203 | 243 => 164 | 246 => 180 | 283 => 171 | 284 => 172 | 285 => 173 | 286 => 174 | 129 => 189 | 317 => 188 | 318 => 190 | 319 => 191 | 320 => 192 | 337 => 200 | 338 => 201 | n => n, fun | 9 => 9 | 3 => 3 | 75 => 165 | 76 => 166 | 4 => 4 | 5 => 5 | 167 => 196 | 37 => 38 | 0 => 0 | 85 => 197 | 2 => 2 | 168 => 199 | 53 => 184 | 175 => 212 | 46 => 206 | 210 => 215 | 127 => 226 | 145 => 229 | 143 => 227 | 21 => 21 | 171 => 191 | 173 => 194 | 212 => 208 | 51 => 209 | 20 => 20 | 213 => 210 | 232 => 230 | 233 => 231 | 80 => 147 | n => n, fun | 15 => 2 | 16 => 3 | 17 => 1 | 18 => 6 | 19 => 7 | n => n⟩
theorem Tryz.laysC172 : Go.Proofs.LaysC.n172 Tryz.prog Tryz.laysC172_ren := {
  mixed := by kernel_rfl
  f129 := Tryz.func189.trans (congrArg some (by kernel_rfl))
  f171 := Tryz.func139.trans (congrArg some (by kernel_rfl))
  f172 := Tryz.func138.trans (congrArg some (by kernel_rfl))
  f205 := Tryz.func195.trans (congrArg some (by kernel_rfl))
  f243 := Tryz.func164.trans (congrArg some (by kernel_rfl))
  f244 := Tryz.func162.trans (congrArg some (by kernel_rfl))
  f245 := Tryz.func163.trans (congrArg some (by kernel_rfl))
  f246 := Tryz.func180.trans (congrArg some (by kernel_rfl))
  f247 := Tryz.func175.trans (congrArg some (by kernel_rfl))
  f279 := Tryz.func176.trans (congrArg some (by kernel_rfl))
  f280 := Tryz.func177.trans (congrArg some (by kernel_rfl))
  f281 := Tryz.func178.trans (congrArg some (by kernel_rfl))
  f282 := Tryz.func179.trans (congrArg some (by kernel_rfl))
  f283 := Tryz.func171.trans (congrArg some (by kernel_rfl))
  f284 := Tryz.func172.trans (congrArg some (by kernel_rfl))
  f285 := Tryz.func173.trans (congrArg some (by kernel_rfl))
  f286 := Tryz.func174.trans (congrArg some (by kernel_rfl))
  f287 := Tryz.func193.trans (congrArg some (by kernel_rfl))
  f316 := Tryz.func194.trans (congrArg some (by kernel_rfl))
  f317 := Tryz.func188.trans (congrArg some (by kernel_rfl))
  f318 := Tryz.func190.trans (congrArg some (by kernel_rfl))
  f319 := Tryz.func191.trans (congrArg some (by kernel_rfl))
  f320 := Tryz.func192.trans (congrArg some (by kernel_rfl))
  f321 := Tryz.func202.trans (congrArg some (by kernel_rfl))
  f322 := Tryz.func203.trans (congrArg some (by kernel_rfl))
  f337 := Tryz.func200.trans (congrArg some (by kernel_rfl))
  f338 := Tryz.func201.trans (congrArg some (by kernel_rfl))
  t0 := Tryz.underlying0
  a0 := Tryz.isAgg0
  z0 := Tryz.sizeOf0
  v0 := Tryz.zeroValue0
  t2 := Tryz.underlying2
  a2 := Tryz.isAgg2
  z2 := Tryz.sizeOf2
  v2 := Tryz.zeroValue2
  t3 := Tryz.underlying3
  a3 := Tryz.isAgg3
  z3 := Tryz.sizeOf3
  v3 := Tryz.zeroValue3
  t4 := Tryz.underlying4
  a4 := Tryz.isAgg4
  z4 := Tryz.sizeOf4
  v4 := Tryz.zeroValue4
  t5 := Tryz.underlying5
  a5 := Tryz.isAgg5
  z5 := Tryz.sizeOf5
  v5 := Tryz.zeroValue5
  t9 := Tryz.underlying9
  a9 := Tryz.isAgg9
  z9 := Tryz.sizeOf9
  v9 := Tryz.zeroValue9
  t20 := Tryz.underlying20
  a20 := Tryz.isAgg20
  z20 := Tryz.sizeOf20
  v20 := Tryz.zeroValue20
  t21 := Tryz.underlying21
  a21 := Tryz.isAgg21
  z21 := Tryz.sizeOf21
  v21 := Tryz.zeroValue21
  t37 := Tryz.underlying38
  a37 := Tryz.isAgg38
  z37 := Tryz.sizeOf38
  v37 := Tryz.zeroValue38
  t46 := Tryz.underlying206
  a46 := Tryz.isAgg206
  z46 := Tryz.sizeOf206
  v46 := Tryz.zeroValue206
  t51 := Tryz.underlying209
  a51 := Tryz.isAgg209
  z51 := Tryz.sizeOf209
  v51 := Tryz.zeroValue209
  t53 := Tryz.underlying184
  a53 := Tryz.isAgg184
  z53 := Tryz.sizeOf184
  v53 := Tryz.zeroValue184
  t75 := Tryz.underlying165
  a75 := Tryz.isAgg165
  z75 := Tryz.sizeOf165
  v75 := Tryz.zeroValue165
  t76 := Tryz.underlying166
  a76 := Tryz.isAgg166
  z76 := Tryz.sizeOf166
  v76 := Tryz.zeroValue166
  t85 := Tryz.underlying197
  a85 := Tryz.isAgg197
  z85 := Tryz.sizeOf197
  v85 := Tryz.zeroValue197
  t127 := Tryz.underlying226
  a127 := Tryz.isAgg226
  z127 := Tryz.sizeOf226
  v127 := Tryz.zeroValue226
  t143 := Tryz.underlying227
  a143 := Tryz.isAgg227
  z143 := Tryz.sizeOf227
  v143 := Tryz.zeroValue227
  t145 := Tryz.underlying229
  a145 := Tryz.isAgg229
  z145 := Tryz.sizeOf229
  v145 := Tryz.zeroValue229
  t167 := Tryz.underlying196
  a167 := Tryz.isAgg196
  z167 := Tryz.sizeOf196
  v167 := Tryz.zeroValue196
  t168 := Tryz.underlying199
  a168 := Tryz.isAgg199
  z168 := Tryz.sizeOf199
  v168 := Tryz.zeroValue199
  t171 := Tryz.underlying191
  a171 := Tryz.isAgg191
  z171 := Tryz.sizeOf191
  v171 := Tryz.zeroValue191
  t173 := Tryz.underlying194
  a173 := Tryz.isAgg194
  z173 := Tryz.sizeOf194
  v173 := Tryz.zeroValue194
  t175 := Tryz.underlying212
  a175 := Tryz.isAgg212
  z175 := Tryz.sizeOf212
  v175 := Tryz.zeroValue212
  t210 := Tryz.underlying215
  a210 := Tryz.isAgg215
  z210 := Tryz.sizeOf215
  v210 := Tryz.zeroValue215
  t212 := Tryz.underlying208
  a212 := Tryz.isAgg208
  z212 := Tryz.sizeOf208
  v212 := Tryz.zeroValue208
  t213 := Tryz.underlying210
  a213 := Tryz.isAgg210
  z213 := Tryz.sizeOf210
  t232 := Tryz.underlying230
  a232 := Tryz.isAgg230
  z232 := Tryz.sizeOf230
  v232 := Tryz.zeroValue230
  t233 := Tryz.underlying231
  a233 := Tryz.isAgg231
  z233 := Tryz.sizeOf231
  v233 := Tryz.zeroValue231
  g15 := by kernel_rfl
  g16 := by kernel_rfl
  g17 := by kernel_rfl
  g18 := by kernel_rfl
  g19 := by kernel_rfl
  t80 := Tryz.underlying147
  a80 := Tryz.isAgg147
  z80 := Tryz.sizeOf147
  v80 := Tryz.zeroValue147
  i0 := by kernel_rfl
  i2 := by kernel_rfl
  i3 := by kernel_rfl
  i4 := by kernel_rfl
  i5 := by kernel_rfl
  i9 := by kernel_rfl
  i20 := by kernel_rfl
  i21 := by kernel_rfl
  i37 := by kernel_rfl
  i46 := by kernel_rfl
  i51 := by kernel_rfl
  i53 := by kernel_rfl
  i75 := by kernel_rfl
  i76 := by kernel_rfl
  i80 := by kernel_rfl
  i85 := by kernel_rfl
  i127 := by kernel_rfl
  i143 := by kernel_rfl
  i145 := by kernel_rfl
  i167 := by kernel_rfl
  i168 := by kernel_rfl
  i171 := by kernel_rfl
  i173 := by kernel_rfl
  i175 := by kernel_rfl
  i210 := by kernel_rfl
  i212 := by kernel_rfl
  i232 := by kernel_rfl
  i233 := by kernel_rfl
  m15 := by kernel_rfl
  m16 := by kernel_rfl
  m17 := by kernel_rfl
  m18 := by kernel_rfl
  m19 := by kernel_rfl
  c0 := by kernel_rfl
  c2 := by kernel_rfl
  c3 := by kernel_rfl
  c4 := by kernel_rfl
  c5 := by kernel_rfl
  c9 := by kernel_rfl
  c20 := by kernel_rfl
  c21 := by kernel_rfl
  c37 := by kernel_rfl
  c46 := by kernel_rfl
  c51 := by kernel_rfl
  c53 := by kernel_rfl
  c75 := by kernel_rfl
  c76 := by kernel_rfl
  c80 := by kernel_rfl
  c85 := by kernel_rfl
  c127 := by kernel_rfl
  c143 := by kernel_rfl
  c145 := by kernel_rfl
  c167 := by kernel_rfl
  c168 := by kernel_rfl
  c171 := by kernel_rfl
  c173 := by kernel_rfl
  c175 := by kernel_rfl
  c210 := by kernel_rfl
  c212 := by kernel_rfl
  c213 := by kernel_rfl
  c232 := by kernel_rfl
  c233 := by kernel_rfl }
open Go.RowKit in
theorem Tryz.strconv_Atoi_syntax (s : ByteArray) (hlim : s.size ≤ 281474976710656) (h : Lib.atoiAll s.data.toList = Lib.NumEnd.ofOption none) (ev : Value) (w : World) (hv : w.cell? ⟨2, 0, none⟩ = some ev) (hev : ev = .nilIface ∨ ∃ te pe, ev = .iface te pe) :
    Calls Tryz.prog 138 #[.string s] w fun e w' => ∃ N, e = .returned (.tuple #[.int .i64 (0), .iface 199 (.pointer (some ⟨N, 0, none⟩))]) ∧ w.heap.size ≤ N ∧ w'.heap[N]? = some (.cells #[.string ⟨#[65, 116, 111, 105]⟩, .string s, ev] 215 (0, 0)) ∧ Below w.heap.size w w' := Any.strconv_Atoi_syntax Tryz.laysC172 s hlim h ev w hv hev
def Tryz.lays144_ren : Go.Shelf.Ren := ⟨fun | 144 => 130 | 143 => 157 | 219 => 170 | 217 => 184 | 225 => 185 | 224 => 186 | 267 => 187 | 266 => 198 | 314 => 199 | n => n, fun | 9 => 9 | 4 => 4 | 3 => 3 | 5 => 5 | 46 => 206 | 146 => 222 | 51 => 209 | n => n, fun | 1 => 0 | n => n⟩
theorem Tryz.lays144 : Go.Proofs.Lays.n144 Tryz.prog Tryz.lays144_ren := {
  mixed := by kernel_rfl
  f143 := Tryz.func157.trans (congrArg some (by kernel_rfl))
  f144 := Tryz.func130.trans (congrArg some (by kernel_rfl))
  f217 := Tryz.func184.trans (congrArg some (by kernel_rfl))
  f219 := Tryz.func170.trans (congrArg some (by kernel_rfl))
  f224 := Tryz.func186.trans (congrArg some (by kernel_rfl))
  f225 := Tryz.func185.trans (congrArg some (by kernel_rfl))
  f266 := Tryz.func198.trans (congrArg some (by kernel_rfl))
  f267 := Tryz.func187.trans (congrArg some (by kernel_rfl))
  f314 := Tryz.func199.trans (congrArg some (by kernel_rfl))
  t3 := Tryz.underlying3
  a3 := Tryz.isAgg3
  z3 := Tryz.sizeOf3
  v3 := Tryz.zeroValue3
  t4 := Tryz.underlying4
  a4 := Tryz.isAgg4
  z4 := Tryz.sizeOf4
  v4 := Tryz.zeroValue4
  t5 := Tryz.underlying5
  a5 := Tryz.isAgg5
  z5 := Tryz.sizeOf5
  v5 := Tryz.zeroValue5
  t9 := Tryz.underlying9
  a9 := Tryz.isAgg9
  z9 := Tryz.sizeOf9
  v9 := Tryz.zeroValue9
  t46 := Tryz.underlying206
  a46 := Tryz.isAgg206
  z46 := Tryz.sizeOf206
  v46 := Tryz.zeroValue206
  t51 := Tryz.underlying209
  a51 := Tryz.isAgg209
  z51 := Tryz.sizeOf209
  v51 := Tryz.zeroValue209
  t146 := Tryz.underlying222
  a146 := Tryz.isAgg222
  z146 := Tryz.sizeOf222
  v146 := Tryz.zeroValue222
  g1 := by kernel_rfl }
open Go.RowKit Go.Lib in
theorem Tryz.strings_Contains_one (s : ByteArray) (c : UInt8) (w : World) :
    Calls Tryz.prog 130 #[.string s, .string ⟨#[c]⟩] w fun e w' => e = .returned (.bool (decide (0 ≤ Lib.indexByte s.data.toList c))) ∧ w' = w := Any.strings_Contains_one Tryz.lays144 s c w
def Tryz.lays187_ren : Go.Shelf.Ren := ⟨fun | 187 => 137 | 255 => 161 | n => n, fun | 37 => 38 | 5 => 5 | 3 => 3 | n => n, fun | n => n⟩
theorem Tryz.lays187 : Go.Proofs.Lays.n187 Tryz.prog Tryz.lays187_ren := {
  mixed := by kernel_rfl
  f187 := Tryz.func137.trans (congrArg some (by kernel_rfl))
  f255 := Tryz.func161.trans (congrArg some (by kernel_rfl))
  t3 := Tryz.underlying3
  a3 := Tryz.isAgg3
  z3 := Tryz.sizeOf3
  v3 := Tryz.zeroValue3
  t5 := Tryz.underlying5
  a5 := Tryz.isAgg5
  z5 := Tryz.sizeOf5
  v5 := Tryz.zeroValue5
  t37 := Tryz.underlying38
  a37 := Tryz.isAgg38
  z37 := Tryz.sizeOf38
  v37 := Tryz.zeroValue38 }
theorem Tryz.strings_Trim_set (s cutset : ByteArray) (w : World) (hs : s.size ≤ 9223372036854775807) (hcs : cutset.size < 4294967281) (hascii : ∀ (j : Nat) b, cutset.data.toList[j]? = some b → b.toNat < 128) :
    Calls Tryz.prog 126 #[.string s, .string cutset] w fun e w' => e = .returned (.string ⟨(Lib.trimS s.data.toList cutset.data.toList).toArray⟩) ∧ Go.RowKit.Below w.heap.size w w' := Any.strings_Trim_laid Tryz.lays160 (by kernel_rfl) s cutset w hs hcs hascii
end Go.Proofs
/- Rows: what a law's arguments are, opened as the engine's assertions; the row of a law that returns true and leaves its arguments. -/
namespace Go.SL
open Go Go.RowKit

/-- All that there is may be read. -/
def readAll (w : World) : Perm := fun b => if b < w.heap.size then 1 else 0
theorem readAll_dom {w : World} : ∀ b, readAll w b ≠ 0 → b < w.heap.size := fun b h => by
  unfold readAll at h; split at h
  · assumption
  · exact absurd rfl h
theorem readAll_lt {w : World} {b : Nat} (h : b < w.heap.size) : 1 ≤ readAll w b := by unfold readAll; rw [if_pos h]; exact Nat.le_refl _
theorem readAll_one {w : World} (b : Nat) : readAll w b ≤ 1 := by unfold readAll; split <;> omega
theorem below_of_rel {w w' : World} {O' : Perm} (h : Rel w (readAll w) w' O') : Below w.heap.size w w' :=
  ⟨h.os, h.tape, h.output, h.size, fun b hb => h.old b hb (by have := readAll_one (w := w) b; omega)⟩
theorem split_dup {O : Perm} (h : ∀ b, O b ≤ 1) : Split O O O := ⟨fun _ => Nat.le_refl _, fun _ => Nat.le_refl _, fun b hb => by have := h b; omega, fun b hb => by have := h b; omega⟩
theorem stars_all {w : World} {O : Perm} (h : ∀ b, O b ≤ 1) : ∀ {L : List A}, (∀ a ∈ L, a.h w O) → Stars L w O
  | [], _ => trivial
  | a :: L, k => ⟨O, O, split_dup h, k a (by simp), stars_all h fun b hb => k b (by simp [hb])⟩
theorem calls_of_con {P : Program} {f : FuncId} {args : List Value} {L : List A} {v : Value} (h : Con P f args L (γ := Unit) (fun _ => v) (fun _ => True) (fun _ => [])) {w : World} (hL : ∀ a ∈ L, a.h w (readAll w)) :
    Calls P f args.toArray w fun e w' => e = .returned v ∧ Below w.heap.size w w' :=
  (h w (readAll w) (stars_all readAll_one hL) readAll_dom).mono fun _ _ ⟨_, _, he, _, _, hr⟩ => ⟨he, below_of_rel hr⟩

/-! ### opening -/
def Opens {α : Type} (P : Program) (t : TypeId) (e : Enc α) (good : α → Prop) : Prop :=
  ∀ (H : Type) (enc : TypeId × Value → H) (W : World) (fuel : Nat) (cs : List Value) (x : DataW H × List MemPlace), DataW.trod enc P W 0 (fun _ => true) true fuel t cs = some x → (∀ n ∈ x.1.weights P t, n ≤ reachBytes) →
    ∃ z, e.rd W (readAll W) cs z ∧ good z
theorem opens_str {P : Program} {t : TypeId} (ht : P.underlying t = some .string) : Opens P t eStr (fun s => s.size ≤ reachBytes) := by
  intro H enc W fuel cs x h hw
  obtain ⟨s, rfl, rfl, _⟩ := DataW.trod_string ht h
  refine ⟨s, rfl, ?_⟩
  have := hw s.data.toList.length (by simp [DataW.weights])
  rwa [← Lib.size_eq] at this
theorem opens_int {P : Program} {t : TypeId} {K : IntKind} (ht : P.underlying t = some (.int K)) : Opens P t (eInt K) (fun n => (Lit.int K n).wf = true) := by
  intro H enc W fuel cs x h hw
  obtain ⟨n, rfl, rfl, hn⟩ := DataW.trod_int ht h
  exact ⟨n, rfl, hn⟩
theorem opens_bool {P : Program} {t : TypeId} (ht : P.underlying t = some .bool) : Opens P t eBool (fun _ => True) := by
  intro H enc W fuel cs x h hw
  obtain ⟨n, rfl, rfl⟩ := DataW.trod_bool ht h
  exact ⟨n, rfl, trivial⟩
theorem weights_all {H : Type} {P : Program} {u : TypeId} {n : Nat} : ∀ {l : List (DataW H)} {d : DataW H}, d ∈ l → n ∈ d.weights P u → n ∈ DataW.weightsAll P u l
  | d0 :: l, d, hd, hn => by
    simp only [DataW.weightsAll, List.mem_append]
    rcases List.mem_cons.1 hd with rfl | hd
    · exact .inl hn
    · exact .inr (weights_all hd hn)
theorem weights_each {H : Type} {P : Program} {n : Nat} : ∀ {ts : List TypeId} {l : List (DataW H)} {i : Nat} {u : TypeId} {d : DataW H}, ts[i]? = some u → l[i]? = some d → n ∈ d.weights P u → n ∈ DataW.weightsEach P ts l
  | t :: ts, d0 :: l, 0, u, d, ht, hd, hn => by
    simp at ht hd; subst ht; subst hd
    simp only [DataW.weightsEach, List.mem_append]; exact .inl hn
  | t :: ts, d0 :: l, i + 1, u, d, ht, hd, hn => by
    simp at ht hd
    simp only [DataW.weightsEach, List.mem_append]; exact .inr (weights_each ht hd hn)
  | [], _, _, _, _, ht, _, _ => by simp at ht
  | _ :: _, [], _, _, _, _, hd, _ => by simp at hd

theorem opens_slice {α : Type} {P : Program} {t u : TypeId} {e : Enc α} {good : α → Prop} (ht : P.underlying t = some (.slice u)) (hc : P.cellsOf u = e.n) (hn : 0 < e.n) (h : Opens P u e good) :
    Opens P t (eSl e) (fun xs => xs.length * P.bytesOf u ≤ reachBytes ∧ ∀ x ∈ xs, good x) := by
  intro H enc W fuel cs x hx hw
  rcases DataW.trod_slice ht hx with ⟨rfl, rfl⟩ | ⟨a, len, cap, elems, rest, n, _, rfl, rfl, _, hl, hm, hlen, hel, hsp, _⟩
  · exact ⟨[], ⟨_, rfl, none, 0, rfl, Nat.le_refl _, Nat.zero_le _, .inl ⟨.inl rfl, rfl⟩⟩, by simp, fun x hx => by cases hx⟩
  obtain ⟨hrl, hr⟩ := hsp rfl
  have hwt : ∀ y ∈ elems, ∀ k ∈ y.1.weights P u, k ≤ reachBytes := fun y hy k hk => hw k (by
    simp only [DataW.weights, ht, List.mem_cons, List.mem_append]
    exact .inr (.inl (weights_all (List.mem_map_of_mem hy) hk)))
  have hbytes : len * P.bytesOf u ≤ reachBytes := by
    have := hw ((elems.length + rest.length) * P.bytesOf u) (by simp [DataW.weights, ht])
    rw [hlen] at this
    exact Nat.le_trans (Nat.mul_le_mul_right _ (Nat.le_add_right _ _)) this
  rw [hc] at hel hr
  by_cases hcap : cap = 0
  · refine ⟨[], ⟨_, rfl, some a, cap, ?_, Nat.zero_le _, hm, .inl ⟨.inr hcap, rfl⟩⟩, by simp, fun x hx => by cases hx⟩
    rw [show len = 0 by omega]; rfl
  · -- the first cell is there
    have hfirst : ∃ u0, W.cell? a = some u0 := by
      have key : ∃ c0 y0, W.cells? 0 (a.add (0 * e.n)) e.n = some c0 ∧ some y0 = (some y0 : Option (DataW H × List MemPlace)) := by
        by_cases h0 : len = 0
        · have := hr 0 (by omega)
          rw [h0, List.getElem?_eq_getElem (by omega), Option.bind_eq_some_iff] at this
          obtain ⟨c0, hc0, _⟩ := this
          exact ⟨c0, rest[0], by simpa using hc0, rfl⟩
        · have := hel 0 (by omega)
          rw [List.getElem?_eq_getElem (by omega), Option.bind_eq_some_iff] at this
          obtain ⟨c0, hc0, _⟩ := this
          exact ⟨c0, elems[0], hc0, rfl⟩
      obtain ⟨c0, _, hc0, _⟩ := key
      obtain ⟨_, hl0, hg⟩ := World.cells?_some hc0
      have := hg 0 hn
      rw [List.getElem?_eq_getElem (by omega)] at this
      exact ⟨_, by simpa [Addr.add] using this⟩
    obtain ⟨u0, hu0⟩ := hfirst
    have hspot : a.spot = none := by
      unfold World.cell? at hu0
      split at hu0
      · split at hu0
        · cases hu0
        · rename_i hs; simpa using hs
      · cases hu0
    have hblk : a.block < W.heap.size := by
      unfold World.cell? at hu0
      split at hu0
      · rename_i hh
        rcases Nat.lt_or_ge a.block W.heap.size with h | h
        · exact h
        · rw [Array.getElem?_eq_none h] at hh; cases hh
      · cases hu0
    obtain ⟨b, off, sp⟩ := a
    simp only at hspot hblk
    subst hspot
    have hadd : ∀ j : Nat, (⟨b, off, none⟩ : Addr).add j = ⟨b, off + j, none⟩ := fun j => by
      unfold Addr.add; split
      · rename_i h; rw [h, Nat.add_zero]
      · rfl
    have main : ∀ k, k ≤ len → ∃ cs xs, xs.length = k ∧ Rows e W (readAll W) cs xs ∧ (∀ j v, cs[j]? = some v → W.cell? ⟨b, off + j, none⟩ = some v) ∧ ∀ x ∈ xs, good x := by
      intro k
      induction k with
      | zero => exact fun _ => ⟨[], [], rfl, rfl, fun j v hj => by simp at hj, fun x hx => by cases hx⟩
      | succ k ih =>
        intro hk
        obtain ⟨cs, xs, h1, h2, h3, h4⟩ := ih (by omega)
        have := hel k (by omega)
        rw [List.getElem?_eq_getElem (by omega), Option.bind_eq_some_iff] at this
        obtain ⟨c0, hc0, hy0⟩ := this
        obtain ⟨z, hz, hg⟩ := h H enc W n c0 _ hy0 (hwt _ (List.getElem_mem _))
        obtain ⟨_, hl0, hcell⟩ := World.cells?_some hc0
        refine ⟨cs ++ c0, xs ++ [z], by simp [h1], h2.append ⟨c0, [], by simp, hz, rfl⟩, fun j v hj => ?_, fun x hx => ?_⟩
        · have hcl : cs.length = k * e.n := by rw [h2.length, h1]
          rcases Nat.lt_or_ge j cs.length with hj1 | hj1
          · rw [List.getElem?_append_left hj1] at hj; exact h3 j v hj
          · rw [List.getElem?_append_right hj1] at hj
            have hj2 : j - cs.length < e.n := by
              rcases Nat.lt_or_ge (j - cs.length) c0.length with h | h
              · omega
              · rw [List.getElem?_eq_none h] at hj; cases hj
            have := hcell (j - cs.length) hj2
            rw [hadd, hj] at this
            rw [← this, show (⟨b, off + k * e.n, none⟩ : Addr).add (j - cs.length) = ⟨b, off + j, none⟩ from ?_]
            unfold Addr.add
            split
            · rename_i h; congr 1; omega
            · show (⟨b, off + k * e.n + (j - cs.length), none⟩ : Addr) = _
              congr 1; omega
        · rcases List.mem_append.1 hx with hx | hx
          · exact h4 x hx
          · rw [List.mem_singleton.1 hx]; exact hg
    obtain ⟨cs, xs, h1, h2, h3, h4⟩ := main len (Nat.le_refl _)
    refine ⟨xs, ⟨_, rfl, some ⟨b, off, none⟩, cap, by rw [h1], by omega, hm, .inr ⟨b, off, cs, rfl, readAll_lt hblk, h2, h3⟩⟩, by rw [h1]; exact hbytes, h4⟩

theorem opens_good {α : Type} {P : Program} {t : TypeId} {e : Enc α} {good good' : α → Prop} (h : Opens P t e good) (hg : ∀ x, good x → good' x) : Opens P t e good' := fun H enc W fuel cs x hx hw => by
  obtain ⟨z, h1, h2⟩ := h H enc W fuel cs x hx hw
  exact ⟨z, h1, hg z h2⟩

/-- The fields of a struct from number i on, whose cells begin at off. -/
def OpensFrom {α : Type} (P : Program) (fs : Array Field) (i off : Nat) (e : Enc α) (good : α → Prop) : Prop :=
  ∀ (H : Type) (enc : TypeId × Value → H) (W : World) (n : Nat) (cs : List Value) (xs : List (DataW H × List MemPlace)), cs.length = off + e.n → xs.length = fs.size →
    (∀ (j : Nat) (f : Field), i ≤ j → fs[j]? = some f → DataW.trod enc P W 0 (fun _ => true) true n f.type ((cs.drop f.offset).take (P.cellsOf f.type)) = xs[j]?) →
    (∀ (j : Nat) (f : Field) (y : DataW H × List MemPlace), i ≤ j → fs[j]? = some f → xs[j]? = some y → ∀ k ∈ y.1.weights P f.type, k ≤ reachBytes) →
    ∃ z, e.rd W (readAll W) (cs.drop off) z ∧ good z
theorem opens_last {α : Type} {P : Program} {fs : Array Field} {i off : Nat} {f : Field} {e : Enc α} {good : α → Prop} (hf : fs[i]? = some f) (ho : f.offset = off) (hc : P.cellsOf f.type = e.n) (h : Opens P f.type e good) : OpensFrom P fs i off e good := by
  intro H enc W n cs xs hl hx hr hw
  have hi : i < fs.size := by
    rcases Nat.lt_or_ge i fs.size with h | h
    · exact h
    · rw [Array.getElem?_eq_none h] at hf; cases hf
  have h1 := hr i f (Nat.le_refl _) hf
  have hxi : xs[i]? = some (xs[i]'(by omega)) := List.getElem?_eq_getElem (by omega)
  rw [hxi, ho, hc, List.take_of_length_le (by simp; omega)] at h1
  exact h H enc W n _ _ h1 (hw i f _ (Nat.le_refl _) hf hxi)
theorem opens_cons {α β : Type} {P : Program} {fs : Array Field} {i off : Nat} {f : Field} {e : Enc α} {e' : Enc β} {good : α → Prop} {good' : β → Prop} (hf : fs[i]? = some f) (ho : f.offset = off) (hc : P.cellsOf f.type = e.n) (h : Opens P f.type e good)
    (hs : OpensFrom P fs (i + 1) (off + e.n) e' good') : OpensFrom P fs i off (ePair e e') (fun x => good x.1 ∧ good' x.2) := by
  intro H enc W n cs xs hl hx hr hw
  have hl' : cs.length = off + (e.n + e'.n) := hl
  have hi : i < fs.size := by
    rcases Nat.lt_or_ge i fs.size with h | h
    · exact h
    · rw [Array.getElem?_eq_none h] at hf; cases hf
  have h1 := hr i f (Nat.le_refl _) hf
  have hxi : xs[i]? = some (xs[i]'(by omega)) := List.getElem?_eq_getElem (by omega)
  rw [hxi, ho, hc] at h1
  obtain ⟨z1, a1, b1⟩ := h H enc W n _ _ h1 (hw i f _ (Nat.le_refl _) hf hxi)
  obtain ⟨z2, a2, b2⟩ := hs H enc W n cs xs (by omega) hx (fun j f hj => hr j f (by omega)) (fun j f y hj => hw j f y (by omega))
  refine ⟨(z1, z2), ⟨_, _, ?_, a1, a2⟩, b1, b2⟩
  rw [← List.drop_drop, List.take_append_drop]
theorem opens_struct {α : Type} {P : Program} {t : TypeId} {fs : Array Field} {e : Enc α} {good : α → Prop} (ht : P.underlying t = some (.struct fs)) (hc : P.cellsOf t = e.n) (h : OpensFrom P fs 0 0 e good) : Opens P t e good := by
  intro H enc W fuel cs x hx hw
  obtain ⟨xs, n, _, rfl, hl, hlen, hr⟩ := DataW.trod_struct ht hx
  obtain ⟨z, h1, h2⟩ := h H enc W n cs xs (by omega) hlen (fun j f _ hj => hr j f hj) fun j f y _ hj hy k hk => hw k (by
    simp only [DataW.weights, ht]
    exact weights_each (i := j) (u := f.type) (d := y.1) (by rw [List.getElem?_map, Array.getElem?_toList, hj]; rfl) (by rw [List.getElem?_map, hy]; rfl) hk)
  exact ⟨z, by simpa using h1, h2⟩

/-! ### the arguments of a call -/
theorem open_arg {α : Type} {P : Program} {t : TypeId} {e : Enc α} {good : α → Prop} {H : Type} {enc : TypeId × Value → H} {W : World} {v : Value} {d : DataW H} {ps : List MemPlace} (ho : Opens P t e good)
    (h : DataW.Trod enc P W 0 (fun _ => true) true t v d ps) (hw : ∀ n ∈ d.weights P t, n ≤ reachBytes) : ∃ z, e.rd W (readAll W) v.cells.toList z ∧ good z := by
  obtain ⟨fuel, hf⟩ := h
  exact ho H enc W fuel _ _ hf hw
theorem arg_struct {α : Type} {P : Program} {t : TypeId} {fs : Array Field} {e : Enc α} {W : World} {base : Nat} {v : Value} {x : α} {O : Perm} (ht : P.underlying t = some (.struct fs)) (hv : Value.okWide P W .any base t v) (h : e.rd W O v.cells.toList x) :
    ∃ cs : List Value, v = .agg cs.toArray ∧ (Rd e cs x).h W O := by
  obtain ⟨cs, rfl, _⟩ := WideShapes.okWide_struct ht hv
  exact ⟨cs.toList, by simp, h⟩

theorem trodAll_below {H : Type} {enc : TypeId × Value → H} {P : Program} (hl : laidOutB P = true) {W W' : World} (hb : Below W.heap.size W W') : ∀ {ts : List TypeId} {vs : List Value} {ds : List (DataW H)} {ps : List MemPlace},
    (ts.all fun t => P.readableRec t && decide (t < P.types.size)) = true → DataW.TrodAll enc P W 0 (fun _ => true) true ts vs ds ps → DataW.TrodAll enc P W' 0 (fun b => decide (b < W.heap.size)) true ts vs ds ps
  | [], [], [], _, _, h => h
  | t :: ts, v :: vs, d :: ds, ps, ha, h => by
    obtain ⟨p, q, h1, h2, rfl⟩ := h
    simp only [List.all_cons, Bool.and_eq_true, decide_eq_true_iff] at ha
    refine ⟨p, q, Below.trod hl ha.1.1 ha.1.2 h1 hb ?_, trodAll_below hl hb (by simpa using ha.2) h2, rfl⟩
    obtain ⟨m, hm⟩ := h1
    exact DataW.trod_lt m _ _ _ hm

end Go.SL
/- Results in two cells; contracts of functions that make blocks of their own alone. -/
namespace Go.SL
open Go Go.RowKit
theorem results_cc {fn : Func} {t s : Nat} {ty ty2 : TypeId} {tmps : Array Value} {P : Program} {w : World} {v u : Value} {p q : Addr} (h : fn.results = #[.cell t ty, .cell s ty2]) (hv : tmps[t]? = some (.pointer (some p))) (hl : (loadVar ty p).run P w = .ok v w) (hu : tmps[s]? = some (.pointer (some q))) (hm : (loadVar ty2 q).run P w = .ok u w) : (results fn tmps).run P w = .ok (.tuple #[v, u]) w := by
  have h1 : tmps[t]?.getD undef = .pointer (some p) := by rw [hv]; rfl
  have h2 : tmps[s]?.getD undef = .pointer (some q) := by rw [hu]; rfl
  simp [results, h, asAddr, hl, hm, h1, h2]
theorem c_ret_cc {X : Cx} {k : List Item} {env : Env} {L : List A} {t s b c : Nat} {ty ty2 bt ct : TypeId} {cs ds : List Value} {z z2 : Value} {nb nb2 : Nat} (hf : X.P.funcs[X.f]? = some X.fn) (h : X.fn.results = #[.cell t ty, .cell s ty2]) (hu : ∃ fs, X.P.underlying ty = some (.struct fs)) (ht : TI X.P ty z cs.length nb) (hu2 : ∃ fs, X.P.underlying ty2 = some (.struct fs)) (ht2 : TI X.P ty2 z2 ds.length nb2)
    (hv : env.look t = some (.pointer (some ⟨b, 0, none⟩))) (hs' : env.look s = some (.pointer (some ⟨c, 0, none⟩))) (hb : Has L (BlkR b bt cs)) (hc : Has L (BlkR c ct ds)) (fin : ∀ w O, Stars L w O → X.R (.tuple #[.agg cs.toArray, .agg ds.toArray]) w O) (hrd : X.rd = none := by rfl) (hdf : X.defs = [] := by rfl) : Cfg X (.code .ret :: k) env L :=
  c_ret_any (fun a w O ha hs _ => by
    obtain ⟨_, fz, hh⟩ := hb w O hs
    obtain ⟨_, fz2, hh2⟩ := hc w O hs
    obtain ⟨ti, hi, _, hsz, _⟩ := ht
    obtain ⟨ti2, hi2, _, hsz2, _⟩ := ht2
    exact ⟨_, results_cc h (ha.look t _ hv) (run_loadAgg hu hi hsz fun j u hj => by rw [add_off, blk_cell hh]; simpa using hj) (ha.look s _ hs') (run_loadAgg hu2 hi2 hsz2 fun j u hj => by rw [add_off, blk_cell hh2]; simpa using hj), fin w O hs⟩) hf hrd hdf fun _ _ _ _ _ hb => steps_ret hb
/-- A contract of a function that makes blocks of its own, and keeps all that was there. -/
theorem con_below {P : Program} {f : FuncId} {args : List Value} {γ : Type} {ret : γ → Value} {pu : γ → Prop} {L : List A} (h : ∀ w O, Stars L w O → Calls P f args.toArray w fun e w' => (∃ g, e = .returned (ret g) ∧ pu g) ∧ Below w.heap.size w w') :
    Con P f args L (γ := γ) ret pu (fun _ => []) := fun w O hs hd => (h w O hs).mono fun e w' ⟨⟨g, he, hp⟩, hb⟩ =>
  ⟨g, O, he, hp, trivial, ⟨hb.os, hb.tape, hb.output, hb.size, fun b h _ => hb.block b h, fun _ _ => Nat.le_refl _, fun b h => Nat.lt_of_lt_of_le (hd b h) hb.size⟩⟩
theorem con_pu {γ : Type} {P : Program} {f : FuncId} {args : List Value} {L0 : List A} {ret : γ → Value} {pu p : γ → Prop} {L' : γ → List A} (h : Con P f args L0 ret pu L') (hp : ∀ g w O, Stars (L' g) w O → p g) : Con P f args L0 ret (fun g => pu g ∧ p g) L' := fun w O hs hd =>
  (h w O hs hd).mono fun _ _ ⟨g, O', h1, h2, h3, h4⟩ => ⟨g, O', h1, ⟨h2, hp g _ _ h3⟩, h3, h4⟩
theorem form_of {α : Type} {e : Enc α} {T : TypeId} {v : Value} {xs : List α} {Lr : List A} {w : World} {O : Perm} (h : Stars (Own e T v xs :: Lr) w O) : ∃ a0 cap, v = .slice a0 xs.length cap := by
  obtain ⟨O1, O2, _, h1, _⟩ := h
  obtain ⟨a0, cap, hv, _⟩ := Own.sl h1
  exact ⟨a0, cap, hv⟩
/-- An interface's value held against nil. -/
theorem v_ne_nilI {X : Cx} {env : Env} {L : List A} {T xT yT : TypeId} {x : Operand} {ms : Array (String × TypeId)} (hu : X.P.underlying xT = some (.interface ms)) (hx : env.eval x = some .nilIface) : Val X env L (.binOp .neq xT x (.const .nilIface) yT) T (.bool false) := by
  intro _ _ _ _ a w O ha _
  have h : (Op.equal xT .nilIface .nilIface).run X.P w = .ok true w := by
    rw [equal_succ hu, Op.equalIn]
    simp only [Sem.run_bind, run_underlying hu, Result.andThen_ok]; rfl
  have hc : a.eval (.const .nilIface) = .nilIface := rfl
  simp [execOp, ha.eval hx, hc, eqGuard, binOp, h]
theorem v_ne_iface {X : Cx} {env : Env} {L : List A} {T xT yT tp : TypeId} {x : Operand} {p : Value} {ms : Array (String × TypeId)} (hu : X.P.underlying xT = some (.interface ms)) (hx : env.eval x = some (.iface tp p)) : Val X env L (.binOp .neq xT x (.const .nilIface) yT) T (.bool true) := by
  intro _ _ _ _ a w O ha _
  have h : (Op.equal xT (.iface tp p) .nilIface).run X.P w = .ok false w := by
    rw [equal_succ hu, Op.equalIn]
    simp only [Sem.run_bind, run_underlying hu, Result.andThen_ok]; rfl
  have hc : a.eval (.const .nilIface) = .nilIface := rfl
  simp [execOp, ha.eval hx, hc, eqGuard, binOp, h]
theorem v_load_byte {X : Cx} {env : Env} {L : List A} {T : TypeId} {x : Operand} {v : Value} {i : Nat} {z : UInt8} {t : TypeId} (ht : Lone X.P t) (hx : env.eval x = some (.pointer (some (elemAddr v i 1)))) (he : Elem L eByte v i z) : Val X env L (.load t x) T (.int .u8 (z.toNat : Int)) :=
  v_load_val (e := eByte) (f := fun b => .int .u8 (b.toNat : Int)) ht (fun _ _ _ _ h => h) hx he
theorem v_neg_u {X : Cx} {env : Env} {L : List A} {T xT : TypeId} {x : Operand} {m : Int} (hx : env.eval x = some (.int .u64 m)) : Val X env L (.unOp .neg xT x) T (.int .u64 (IntKind.u64.wrap (-m))) :=
  fun _ _ _ _ a w O ha _ => by simp [execOp, ha.eval hx, Op.unary, Op.intArith]
section
variable {X : Cx} {env : Env} {L : List A} {T : TypeId} {x : Operand}
/-- The first cells of an array of one's own, as a slice. -/
theorem v_slice_arr {t E : TypeId} {len n bt b h : Nat} {z : Value} {o : Operand} {K : IntKind} {m : Int} (hu : X.P.underlying t = some (.array len E)) (hE : TI X.P E z n bt) (hx : env.eval x = some (.pointer (some ⟨b, 0, none⟩))) (ho : env.eval o = some (.int K m)) (h0 : m = (h : Int)) (h1 : h ≤ len) :
    Val X env L (.slice t x none (some o) none) T (.slice (some ⟨b, 0, none⟩) h len) := by
  subst h0
  intro _ _ _ _ a w O ha _
  obtain ⟨ti, hi', _, hsz, _⟩ := hE
  have hbd : (Instr.sliceBounds false len len none (some (a.eval o)) none).run X.P w = .ok (0, h, len) w := by
    rw [ha.eval ho]
    simp [Instr.sliceBounds, run_sliceBound (w := w) K (h : Int) len .sliceAlen (by omega) (by omega)]
  have hadd : (⟨b, 0, none⟩ : Addr).add 0 = ⟨b, 0, none⟩ := rfl
  have hst : (Instr.sliceAt t (.pointer (some ⟨b, 0, none⟩)) none (some (a.eval o)) none).run X.P w = .ok (.slice (some ⟨b, 0, none⟩) h len) w := by
    simp [Instr.sliceAt, Instr.sureAddr, run_underlying hu, hbd, sizeOf, typeInfo, hi', hsz, hadd]
  simp [execOp, ha.eval hx, hst]
end
/-- The first bytes of a block. -/
theorem bytes_sl {b T n c : Nat} {l : List UInt8} {cs : List Value} (hn : l.length = n) (hc : n ≤ c) (hm : c ≤ maxLen) : Ent [Blk b T ((l.map fun b => Value.int .u8 (b.toNat : Int)) ++ cs)] [Sl eByte (.slice (some ⟨b, 0, none⟩) n c) l] := fun w O hs => by
  subst hn
  obtain ⟨O1, O2, s, ⟨h2, hh⟩, _⟩ := hs
  have hb := s.l b
  refine ⟨O, fun _ => 0, ⟨fun _ => Nat.le_refl _, fun _ => Nat.zero_le _, fun _ _ => rfl, fun _ h => absurd h (by simp)⟩, ⟨some ⟨b, 0, none⟩, c, rfl, hc, hm, .inr ⟨b, 0, _, rfl, by omega, eByte_rows.2 rfl, fun j u hj => ?_⟩⟩, trivial⟩
  have hjl : j < (l.map fun b => Value.int .u8 (b.toNat : Int)).length := by
    rcases Nat.lt_or_ge j (l.map fun b => Value.int .u8 (b.toNat : Int)).length with h | h
    · exact h
    · rw [List.getElem?_eq_none h] at hj; cases hj
  simp only [World.cell?, hh, Nat.zero_add, List.getElem?_toArray]
  rw [List.getElem?_append_left hjl]; exact hj
section
variable {X : Cx} {ops : Array Oper} {kk : List Item} {env : Env} {L S : List A} {fuel : Nat} {listed : Array Bool}
end
section
variable {κ : Type} [DecidableEq κ] (ke : KeyEnc κ) {X : Cx} {env : Env} {L L1 : List A} {T : TypeId} {x y : Operand} {K : Act → World → Prop} {kk : List Item} {pos : String} {af : Array Edge}
/-- An entry of a map that is built. -/
theorem s_insert {t kt et : TypeId} {b : Nat} {m : List (κ × Value)} {k : κ} {u : Value} {z : Operand} (hu : X.P.underlying t = some (.map kt et)) (hk : X.P.underlying kt = some ke.desc) (hsc : ∀ a, (∃ n j, ke.val a = .int j n) ∨ ∃ s, ke.val a = .string s)
    (hx : env.eval x = some (.map (some b))) (hy : env.eval y = some (ke.val k)) (hz : env.eval z = some u) (hp : Pick (MapA ke b m) L L1) (kk' : Kont X env (MapA ke b (upd m k u) :: L1) K) :
    StepK X kk ⟨none, .insert t x y z, T, pos, af, none⟩ env L K :=
  fun a w O ha hst hrel => s_mapUpdate (T := T) (pos := pos) (af := af) (kk := kk) ke hu hk hsc hx hy hz hp kk' a w O ha hst hrel
/-- What a map has, or has not, where that is known. -/
theorem v_lookupS {t kt et : TypeId} {b : Nat} {m : List (κ × Value)} {k : κ} {v z : Value} {n nb : Nat} (hu : X.P.underlying t = some (.map kt et)) (hk : X.P.underlying kt = some ke.desc) (hz : TI X.P et z n nb)
    (hx : env.eval x = some (.map (some b))) (hy : env.eval y = some (ke.val k)) (hm : Has L (MapA ke b m)) (hl : look m k = some v) : Val X env L (.lookup t x y true) T (.tuple #[v, .bool true]) := by
  have h := v_lookupO2 (T := T) (L := L) ke (o := some b) hu hk hz hx hy hm
  rw [hl] at h; exact h
theorem v_lookupN {t kt et : TypeId} {b : Nat} {m : List (κ × Value)} {k : κ} {z : Value} {n nb : Nat} (hu : X.P.underlying t = some (.map kt et)) (hk : X.P.underlying kt = some ke.desc) (hz : TI X.P et z n nb)
    (hx : env.eval x = some (.map (some b))) (hy : env.eval y = some (ke.val k)) (hm : Has L (MapA ke b m)) (hl : look m k = none) : Val X env L (.lookup t x y true) T (.tuple #[z, .bool false]) := by
  have h := v_lookupO2 (T := T) (L := L) ke (o := some b) hu hk hz hx hy hm
  rw [hl] at h; exact h
end
end Go.SL
/- Chapter 09: numerals in plain words: what is written, what is read, and that these are each other's back. -/
namespace Go.Proofs.YtlfehnnmpkohkaaGreatDoor
open Go Go.Lib
theorem decFrom_app (d : UInt8) : ∀ (l : List UInt8) (acc : Nat), decFrom acc (l ++ [d]) = (decFrom acc l).bind fun n => (digitVal d).map fun k => n * 10 + k
  | [], acc => by
    rw [List.nil_append, decFrom, decFrom]
    cases digitVal d <;> rfl
  | b :: l, acc => by
    rw [List.cons_append, decFrom, decFrom]
    cases h : digitVal b with
    | none => rfl
    | some k => exact decFrom_app d l _
theorem ofNat_dig {k : Nat} (h : k < 10) : (UInt8.ofNat (48 + k)).toNat = 48 + k := by
  rw [UInt8.toNat_ofNat']; omega
theorem digitVal_ofNat {k : Nat} (h : k < 10) : digitVal (UInt8.ofNat (48 + k)) = some k := by
  unfold digitVal
  rw [ofNat_dig h, if_pos ⟨by omega, by omega⟩]
  congr 1; omega
theorem decDigits_ne (u : Nat) : decDigits u ≠ [] := by
  rw [decDigits]
  split <;> simp
theorem decFrom_dec (u : Nat) : decFrom 0 (decDigits u) = some u := by
  induction u using Nat.strongRecOn with
  | _ u ih =>
    rw [decDigits]
    split
    · rename_i h
      rw [show [UInt8.ofNat (48 + u)] = [] ++ [UInt8.ofNat (48 + u)] from rfl, decFrom_app, decFrom, digitVal_ofNat h]
      simp
    · rename_i h
      rw [decFrom_app, ih (u / 10) (by omega), digitVal_ofNat (by omega)]
      simp; omega
theorem decDigits_dig (u : Nat) : ∀ b ∈ decDigits u, 48 ≤ b.toNat ∧ b.toNat ≤ 57 := fun b hb => by
  obtain ⟨k, hk, rfl⟩ := List.mem_iff_getElem.1 hb
  obtain ⟨d, hd⟩ := digit_of_decFrom _ _ _ (decFrom_dec u) k _ (List.getElem?_eq_getElem hk)
  have := digitVal_eq hd
  exact ⟨this.1, this.2.1⟩
theorem decNat_dec (u : Nat) : decNat (decDigits u) = some u := by
  unfold decNat
  rw [if_neg (by simp [decDigits_ne]), decFrom_dec]
theorem atoi_itoa (n : Int) : atoi (itoa n) = some n := by
  unfold itoa
  split
  · rw [atoi, if_pos (by decide), decNat_dec]
    simp; omega
  · have h := decNat_dec n.toNat
    have hd := decDigits_dig n.toNat
    cases e : decDigits n.toNat with
    | nil => exact absurd e (decDigits_ne _)
    | cons b r =>
      have hb := hd b (by rw [e]; simp)
      rw [atoi, if_neg (by simp; intro k; rw [k] at hb; revert hb; decide), if_neg (by simp; intro k; rw [k] at hb; revert hb; decide), ← e, h]
      simp; omega
theorem itoa_neg {n : Int} (h : n < 0) : itoa n = 45 :: itoa (0 - n) := by
  unfold itoa
  rw [if_pos h, if_neg (by omega), show (0 - n).toNat = n.natAbs by omega]
theorem itoa_one {n : Int} (h0 : 0 ≤ n) (h : n ≤ 9) : itoa n = [UInt8.ofNat (48 + n.toNat)] := by
  unfold itoa
  rw [if_neg (by omega), decDigits, dif_pos (by omega)]
theorem itoa_more {n : Int} (h : 9 < n) : itoa n = itoa (n / 10) ++ itoa (n % 10) := by
  rw [itoa_one (n := n % 10) (by omega) (by omega)]
  unfold itoa
  rw [if_neg (by omega), if_neg (by omega), decDigits, dif_neg (by omega), show n.toNat / 10 = (n / 10).toNat by omega, show n.toNat % 10 = (n % 10).toNat by omega]
/-- A byte more of a number, as the document reads it: what is no digit is passed over. -/
def stepV (a : Int) (b : UInt8) : Int := if 48 ≤ b.toNat ∧ b.toNat ≤ 57 then 10 * a + b.toNat - 48 else a
def valR (s : List UInt8) : Int := s.foldl stepV 0
def valS (s : List UInt8) : Int := if s.head? = some 45 then 0 - valR s else valR s
/-- The number that these bytes are, if they are one. -/
def numS (s : List UInt8) : Option Int := if itoa (valS s) = s then some (valS s) else none
theorem val_dec : ∀ (l : List UInt8) (acc n : Nat), decFrom acc l = some n → l.foldl stepV (acc : Int) = (n : Int)
  | [], acc, n, h => by simp [decFrom] at h; simp [h]
  | b :: l, acc, n, h => by
    rw [decFrom] at h
    cases hd : digitVal b with
    | none => rw [hd] at h; cases h
    | some d =>
      rw [hd] at h
      obtain ⟨h1, h2, h3⟩ := digitVal_eq hd
      have := val_dec l _ n h
      rw [List.foldl_cons, stepV, if_pos ⟨h1, h2⟩, ← this]
      congr 1
      omega
theorem val_itoa (n : Int) : valS (itoa n) = n := by
  unfold valS valR itoa
  by_cases h : n < 0
  · rw [if_pos h, List.head?_cons, if_pos rfl, List.foldl_cons]
    have e : stepV 0 45 = ((0 : Nat) : Int) := by decide
    rw [e, val_dec _ 0 _ (decFrom_dec n.natAbs)]
    omega
  · rw [if_neg h]
    have hd := decDigits_dig n.toNat
    cases e : decDigits n.toNat with
    | nil => exact absurd e (decDigits_ne _)
    | cons b r =>
      have hb := hd b (by rw [e]; simp)
      rw [List.head?_cons, if_neg (by intro k; rw [Option.some.inj k] at hb; revert hb; decide), ← e]
      have h2 := val_dec _ 0 _ (decFrom_dec n.toNat)
      rw [show ((0 : Nat) : Int) = 0 from rfl] at h2
      rw [h2]; omega
theorem numS_itoa (n : Int) : numS (itoa n) = some n := by
  unfold numS
  rw [val_itoa, if_pos rfl]
theorem numS_some {s : List UInt8} {n : Int} (h : numS s = some n) : itoa n = s := by
  unfold numS at h
  split at h
  · rename_i k; rw [← Option.some.inj h]; exact k
  · cases h
/-- As the program reads it. -/
theorem numS_atoi (s : List UInt8) : numS s = (atoi s).bind fun n => if itoa n = s then some n else none := by
  cases h : numS s with
  | some n =>
    have e := numS_some h
    subst e
    rw [atoi_itoa]
    exact (if_pos rfl).symm
  | none =>
    cases ha : atoi s with
    | none => rfl
    | some n =>
      show none = if itoa n = s then some n else none
      rw [if_neg fun e => by rw [← e, numS_itoa] at h; cases h]
end Go.Proofs.YtlfehnnmpkohkaaGreatDoor
/- Chapter 09: what is written, and what is read, in plain words. -/
namespace Go.Proofs.YtlfehnnmpkohkaaGreatDoor
open Go Go.Lib
abbrev Pr9 := Int × ByteArray × ByteArray × Int × List ByteArray × List ByteArray
abbrev Pt9 := Int × ByteArray × List Int × List Pr9
abbrev far9 : Int := 1099511627776
def clamp9 (n : Int) : Int := min (max n (-far9)) far9
def numB (n : Int) : List UInt8 := itoa (clamp9 n) ++ [59]
def flagB (b : Bool) : List UInt8 := numB (if b then 1 else 0)
def textB (s : ByteArray) : List UInt8 := itoa s.size ++ [58] ++ s.data.toList ++ [44]
def manyB {α : Type} (put : α → List UInt8) (l : List α) : List UInt8 := numB l.length ++ (l.map put).flatten
def textsB (l : List ByteArray) : List UInt8 := manyB textB l
def primB (p : Pr9) : List UInt8 := numB p.1 ++ textB p.2.1 ++ textB p.2.2.1 ++ numB p.2.2.2.1 ++ textsB p.2.2.2.2.1 ++ textsB p.2.2.2.2.2
def primsB (l : List Pr9) : List UInt8 := manyB primB l
def patchB (p : Pt9) : List UInt8 := numB p.1 ++ textB p.2.1 ++ manyB numB p.2.2.1 ++ primsB p.2.2.2
/-! ### reading -/
/-- What is left, and whether it is spoiled. -/
abbrev St9 := List UInt8 × Bool
def numberR (e : UInt8) (s : List UInt8) : Option (Int × Nat) :=
  match (s.take 15).findIdx? (· == e) with
  | some k => if k = 0 then none else (numS (s.take k)).map fun n => (n, k + 1)
  | none => none
def spoil9 (s : St9) : St9 := (s.1, true)
def num9 (e : UInt8) (s : St9) : Option (Int × Nat) := if s.2 = true then none else numberR e s.1
def takeNum (s : St9) : St9 × Int :=
  match num9 59 s with
  | some (n, m) => if -far9 ≤ n ∧ n ≤ far9 then ((s.1.drop m, false), n) else (spoil9 s, 0)
  | none => (spoil9 s, 0)
def takeFlag (s : St9) : St9 × Bool :=
  match num9 59 s with
  | some (n, m) => if n = 0 ∨ n = 1 then ((s.1.drop m, false), decide (n = 1)) else (spoil9 s, false)
  | none => (spoil9 s, false)
def takeText (most : Int) (s : St9) : St9 × ByteArray :=
  match num9 58 s with
  | some (n, m) => if 0 ≤ n ∧ n ≤ most ∧ n < (s.1.length : Int) - m ∧ s.1[m + n.toNat]? = some 44 then ((s.1.drop (m + n.toNat + 1), false), ⟨((s.1.drop m).take n.toNat).toArray⟩) else (spoil9 s, ⟨#[]⟩)
  | none => (spoil9 s, ⟨#[]⟩)
def takeMany {α : Type} (take : St9 → St9 × α) : Nat → St9 → List α → St9 × List α
  | 0, s, out => (s, out)
  | k + 1, s, out => if s.2 = true then (s, out) else takeMany take k (take s).1 (out ++ [(take s).2])
def takeSome {α : Type} (take : St9 → St9 × α) (most : Int) (s : St9) : St9 × List α :=
  if (takeNum s).1.2 = true ∨ (takeNum s).2 < 0 ∨ most < (takeNum s).2 then (spoil9 s, [])
  else if (takeMany take (takeNum s).2.toNat (takeNum s).1 []).1.2 = true then (spoil9 s, []) else takeMany take (takeNum s).2.toNat (takeNum s).1 []
def takeTexts (most each : Int) (s : St9) : St9 × List ByteArray := takeSome (takeText each) most s
/-! ### what is read is what was written -/
theorem number_some {e : UInt8} {s : List UInt8} {n : Int} {m : Nat} (h : numberR e s = some (n, m)) : ∃ r, s = itoa n ++ e :: r ∧ m = (itoa n).length + 1 ∧ (itoa n).length ≤ 14 := by
  unfold numberR at h
  split at h
  · rename_i k hk
    obtain ⟨hk1, hk2, _⟩ := List.findIdx?_eq_some_iff_getElem.1 hk
    rw [List.length_take] at hk1
    have hks : k < s.length := by omega
    split at h
    · cases h
    · obtain ⟨n', hn, he⟩ := Option.map_eq_some_iff.1 h
      cases he
      have h2 := numS_some hn
      have hke : s[k] = e := by simpa using hk2
      refine ⟨s.drop (k + 1), ?_, ?_, ?_⟩
      · rw [h2, ← hke, List.getElem_cons_drop, List.take_append_drop]
      · rw [h2, List.length_take]; omega
      · rw [h2, List.length_take]; omega
  · cases h
theorem itoa_ne (n : Int) : itoa n ≠ [] := by
  unfold itoa
  split
  · simp
  · exact decDigits_ne _
theorem itoa_chars {n : Int} {b : UInt8} (h : b ∈ itoa n) : b = 45 ∨ (48 ≤ b.toNat ∧ b.toNat ≤ 57) := by
  unfold itoa at h
  split at h
  · exact (List.mem_cons.1 h).imp id fun h => decDigits_dig _ b h
  · exact .inr (decDigits_dig _ b h)
theorem number_enc {e : UInt8} {n : Int} {r : List UInt8} (he : e = 58 ∨ e = 59) (hl : (itoa n).length ≤ 14) : numberR e (itoa n ++ e :: r) = some (n, (itoa n).length + 1) := by
  have hne : ∀ b ∈ itoa n, b ≠ e := fun b hb k => by
    subst k
    rcases itoa_chars hb with h | h <;> rcases he with he | he <;> subst he <;> revert h <;> decide
  have hf : ((itoa n ++ e :: r).take 15).findIdx? (· == e) = some (itoa n).length := by
    rw [List.findIdx?_eq_some_iff_getElem]
    refine ⟨by rw [List.length_take, List.length_append, List.length_cons]; omega, ?_, fun j hj => ?_⟩
    · rw [List.getElem_take, List.getElem_append_right (Nat.le_refl _)]; simp
    · rw [List.getElem_take, List.getElem_append_left hj]
      simp [hne _ (List.getElem_mem hj)]
  unfold numberR
  rw [hf]
  dsimp only
  rw [if_neg fun k => itoa_ne n (List.length_eq_zero_iff.1 k), List.take_left, numS_itoa]
  rfl
theorem itoa_len {n : Int} (h : -far9 ≤ n ∧ n ≤ far9) : (itoa n).length ≤ 14 := by
  have hd : ∀ u : Nat, u < 10 ^ 13 → (decDigits u).length ≤ 13 := fun u hu => by
    rw [decDigits_length]
    by_cases h0 : u = 0
    · subst h0; rw [nDigits_small (by decide)]; decide
    · refine Nat.le_of_not_lt fun k => ?_
      have h1 : ∀ (k u : Nat), k + 1 ≤ nDigits u → 10 ^ k ≤ u ∨ k = 0 := fun k => by
        induction k with
        | zero => exact fun _ _ => .inr rfl
        | succ k ih =>
          intro u hu
          by_cases hs : u < 10
          · rw [nDigits_small hs] at hu; omega
          · rw [nDigits_big hs] at hu
            left
            rcases ih (u / 10) (by omega) with g | g
            · rw [Nat.pow_succ]; omega
            · subst g; simp; omega
      have := h1 13 u (by omega)
      omega
  unfold itoa
  have h1 := h.1
  have h2 := h.2
  simp only [far9] at h1 h2
  split
  · rw [List.length_cons]
    have := hd n.natAbs (by simp; omega)
    omega
  · have := hd n.toNat (by simp; omega)
    omega
theorem clamp_far (n : Int) : -far9 ≤ clamp9 n ∧ clamp9 n ≤ far9 := by
  unfold clamp9 far9; omega
theorem clamp_id {n : Int} (h : -far9 ≤ n ∧ n ≤ far9) : clamp9 n = n := by
  unfold clamp9 far9 at *; omega
theorem takeNum_enc {n : Int} (h : -far9 ≤ n ∧ n ≤ far9) (r : List UInt8) : takeNum (numB n ++ r, false) = ((r, false), n) := by
  unfold takeNum num9
  have e : numB n ++ r = itoa n ++ 59 :: r := by unfold numB; rw [clamp_id h]; simp
  rw [e]
  dsimp only
  rw [if_neg (by decide), number_enc (.inr rfl) (itoa_len h)]
  dsimp only
  rw [if_pos h, show (itoa n).length + 1 = (itoa n ++ [59]).length by simp, show itoa n ++ 59 :: r = (itoa n ++ [59]) ++ r by simp, List.drop_left]
theorem takeNum_back {s s' : St9} {n : Int} (h : takeNum s = (s', n)) (hb : s'.2 = false) : s.2 = false ∧ s.1 = numB n ++ s'.1 ∧ -far9 ≤ n ∧ n ≤ far9 := by
  unfold takeNum num9 at h
  by_cases hs : s.2 = true
  · rw [if_pos hs] at h
    cases h; cases hb
  · rw [if_neg hs] at h
    cases hn : numberR 59 s.1 with
    | none => rw [hn] at h; cases h; cases hb
    | some p =>
      obtain ⟨n', m⟩ := p
      rw [hn] at h
      dsimp only at h
      split at h
      · rename_i hf
        cases h
        obtain ⟨r, h1, h2, _⟩ := number_some hn
        refine ⟨by simpa using hs, ?_, hf⟩
        unfold numB
        rw [clamp_id hf, h1, h2, show (itoa n).length + 1 = (itoa n ++ [59]).length by simp, show itoa n ++ 59 :: r = (itoa n ++ [59]) ++ r by simp, List.drop_left]
      · cases h; cases hb
end Go.Proofs.YtlfehnnmpkohkaaGreatDoor
/- Chapter 09: texts and rows of things: what is read is what was written, and back. -/
namespace Go.Proofs.YtlfehnnmpkohkaaGreatDoor
open Go Go.Lib
theorem textB_eq (s : ByteArray) (r : List UInt8) : textB s ++ r = itoa s.size ++ 58 :: (s.data.toList ++ 44 :: r) := by
  unfold textB; simp
theorem ba_len (s : ByteArray) : s.data.toList.length = s.size := by rw [Array.length_toList]; rfl
theorem ba_eta (s : ByteArray) : (⟨s.data.toList.toArray⟩ : ByteArray) = s := by simp
theorem takeText_enc {t : ByteArray} {most : Int} (hm : (t.size : Int) ≤ most) (hf : (t.size : Int) ≤ far9) (r : List UInt8) : takeText most (textB t ++ r, false) = ((r, false), t) := by
  unfold takeText num9
  rw [textB_eq]
  dsimp only
  rw [if_neg (by decide), number_enc (.inl rfl) (itoa_len ⟨by unfold far9; omega, hf⟩)]
  dsimp only
  have hd : (itoa t.size ++ 58 :: (t.data.toList ++ 44 :: r)).drop ((itoa t.size).length + 1) = t.data.toList ++ 44 :: r := by
    rw [show (itoa t.size).length + 1 = (itoa t.size ++ [58]).length by simp, show itoa t.size ++ 58 :: (t.data.toList ++ 44 :: r) = (itoa t.size ++ [58]) ++ (t.data.toList ++ 44 :: r) by simp, List.drop_left]
  have hlen : (itoa t.size ++ 58 :: (t.data.toList ++ 44 :: r)).length = (itoa t.size).length + 1 + t.size + 1 + r.length := by
    rw [List.length_append, List.length_cons, List.length_append, List.length_cons, ba_len]; omega
  have h44 : (itoa t.size ++ 58 :: (t.data.toList ++ 44 :: r))[(itoa t.size).length + 1 + t.size]? = some 44 := by
    rw [← List.getElem?_drop, hd, List.getElem?_append_right (by rw [ba_len]; exact Nat.le_refl _), ba_len]; simp
  rw [if_pos ⟨by omega, hm, by rw [hlen]; omega, by rw [show (t.size : Int).toNat = t.size by omega]; exact h44⟩, show (t.size : Int).toNat = t.size by omega, hd]
  refine Prod.ext (Prod.ext ?_ rfl) ?_
  · dsimp only
    rw [show (itoa t.size).length + 1 + t.size + 1 = ((itoa t.size).length + 1) + (t.size + 1) by omega, ← List.drop_drop, hd, show t.data.toList ++ 44 :: r = (t.data.toList ++ [44]) ++ r by simp, show t.size + 1 = (t.data.toList ++ [44]).length by rw [List.length_append, ba_len]; rfl, List.drop_left]
  · dsimp only
    rw [show List.take t.size (t.data.toList ++ 44 :: r) = t.data.toList by rw [← ba_len t]; exact List.take_left]
theorem takeText_back {s s' : St9} {most : Int} {t : ByteArray} (h : takeText most s = (s', t)) (hb : s'.2 = false) : s.2 = false ∧ s.1 = textB t ++ s'.1 ∧ (t.size : Int) ≤ most := by
  unfold takeText num9 at h
  by_cases hs : s.2 = true
  · rw [if_pos hs] at h
    cases h; cases hb
  · rw [if_neg hs] at h
    cases hn : numberR 58 s.1 with
    | none => rw [hn] at h; cases h; cases hb
    | some p =>
      obtain ⟨n, m⟩ := p
      rw [hn] at h
      dsimp only at h
      split at h
      · rename_i hf
        obtain ⟨h0, h1, h2, h3⟩ := hf
        obtain ⟨r, e1, e2, _⟩ := number_some hn
        have hdr : s.1.drop m = r := by rw [e1, e2, show (itoa n).length + 1 = (itoa n ++ [58]).length by simp, show itoa n ++ 58 :: r = (itoa n ++ [58]) ++ r by simp, List.drop_left]
        have hrl : n.toNat < r.length := by
          have : s.1.length = (itoa n).length + 1 + r.length := by rw [e1, List.length_append, List.length_cons]; omega
          omega
        have h44 : r[n.toNat]'hrl = 44 := by
          have k : r[n.toNat]? = some 44 := by rw [← hdr, List.getElem?_drop]; exact h3
          rw [List.getElem?_eq_getElem hrl] at k
          exact Option.some.inj k
        have hd2 : s.1.drop (m + n.toNat + 1) = r.drop (n.toNat + 1) := by rw [← hdr, List.drop_drop]; congr 1
        cases h
        have hsz : (⟨((s.1.drop m).take n.toNat).toArray⟩ : ByteArray).size = n.toNat := by
          show ((s.1.drop m).take n.toNat).toArray.size = _
          rw [List.size_toArray, List.length_take, hdr]; omega
        refine ⟨by simpa using hs, ?_, by rw [hsz]; omega⟩
        rw [textB_eq, hsz, show ((n.toNat : Nat) : Int) = n by omega]
        dsimp only
        rw [hd2, hdr]
        rw [← h44, List.getElem_cons_drop, List.take_append_drop]
        exact e1
      · cases h; cases hb
theorem takeMany_bad {α : Type} (take : St9 → St9 × α) : ∀ (k : Nat) (s : St9) (out : List α), s.2 = true → takeMany take k s out = (s, out)
  | 0, _, _, _ => rfl
  | k + 1, s, out, h => by rw [takeMany, if_pos h]
theorem takeMany_enc {α : Type} {take : St9 → St9 × α} {put : α → List UInt8} {ok : α → Prop} (h : ∀ x r, ok x → take (put x ++ r, false) = ((r, false), x)) : ∀ (l : List α) (r : List UInt8) (out : List α), (∀ x ∈ l, ok x) → takeMany take l.length ((l.map put).flatten ++ r, false) out = ((r, false), out ++ l)
  | [], r, out, _ => by simp [takeMany]
  | x :: l, r, out, hl => by
    rw [List.length_cons, takeMany, if_neg (by simp), List.map_cons, List.flatten_cons, List.append_assoc, h x _ (hl x (by simp))]
    dsimp only
    rw [takeMany_enc h l r _ fun y hy => hl y (List.mem_cons_of_mem _ hy)]
    simp
theorem takeSome_enc {α : Type} {take : St9 → St9 × α} {put : α → List UInt8} {ok : α → Prop} (h : ∀ x r, ok x → take (put x ++ r, false) = ((r, false), x)) {l : List α} {most : Int} (hm : (l.length : Int) ≤ most) (hf : (l.length : Int) ≤ far9) (hl : ∀ x ∈ l, ok x) (r : List UInt8) : takeSome take most (manyB put l ++ r, false) = ((r, false), l) := by
  unfold takeSome manyB
  rw [List.append_assoc, takeNum_enc ⟨by unfold far9; omega, hf⟩]
  dsimp only
  rw [if_neg (by simp; omega), show ((l.length : Nat) : Int).toNat = l.length by omega, takeMany_enc h l r [] hl]
  simp
theorem takeMany_back {α : Type} {take : St9 → St9 × α} {put : α → List UInt8} {ok : α → Prop} (h : ∀ s s' x, take s = (s', x) → s'.2 = false → s.2 = false ∧ s.1 = put x ++ s'.1 ∧ ok x) : ∀ (k : Nat) (s s' : St9) (out out' : List α), takeMany take k s out = (s', out') → s'.2 = false → ∃ l, out' = out ++ l ∧ l.length = k ∧ s.1 = (l.map put).flatten ++ s'.1 ∧ ∀ x ∈ l, ok x
  | 0, s, s', out, out', e, _ => by
    cases e
    exact ⟨[], by simp, rfl, by simp, fun _ h => by cases h⟩
  | k + 1, s, s', out, out', e, hb => by
    rw [takeMany] at e
    by_cases hs : s.2 = true
    · rw [if_pos hs] at e
      cases e
      rw [hs] at hb; cases hb
    · rw [if_neg hs] at e
      obtain ⟨l, h1, h2, h3, h4⟩ := takeMany_back h k _ _ _ _ e hb
      have hb1 : (take s).1.2 = false := by
        cases q : (take s).1.2 with
        | false => rfl
        | true =>
          rw [takeMany_bad take k _ _ q] at e
          cases e
          rw [q] at hb; cases hb
      obtain ⟨_, g2, g3⟩ := h s (take s).1 (take s).2 rfl hb1
      refine ⟨(take s).2 :: l, by rw [h1]; simp, by rw [List.length_cons, h2], ?_, fun x hx => (List.mem_cons.1 hx).elim (fun q => q ▸ g3) (h4 x)⟩
      rw [g2, h3, List.map_cons, List.flatten_cons, List.append_assoc]
theorem takeSome_back {α : Type} {take : St9 → St9 × α} {put : α → List UInt8} {ok : α → Prop} (h : ∀ s s' x, take s = (s', x) → s'.2 = false → s.2 = false ∧ s.1 = put x ++ s'.1 ∧ ok x) {s s' : St9} {most : Int} {l : List α} (e : takeSome take most s = (s', l)) (hb : s'.2 = false) : s.2 = false ∧ s.1 = manyB put l ++ s'.1 ∧ (l.length : Int) ≤ most ∧ ∀ x ∈ l, ok x := by
  unfold takeSome at e
  split at e
  · cases e; cases hb
  · rename_i h1
    split at e
    · cases e; cases hb
    · have hnb : (takeNum s).1.2 = false := by
        cases q : (takeNum s).1.2 with
        | false => rfl
        | true => exact absurd (.inl q) h1
      obtain ⟨a1, a2, _⟩ := takeNum_back (s := s) (s' := (takeNum s).1) (n := (takeNum s).2) rfl hnb
      obtain ⟨l', b1, b2, b3, b4⟩ := takeMany_back h _ _ _ _ _ e hb
      rw [List.nil_append] at b1
      subst b1
      have hn0 : ¬ (takeNum s).2 < 0 := fun q => h1 (.inr (.inl q))
      have hnm : ¬ most < (takeNum s).2 := fun q => h1 (.inr (.inr q))
      refine ⟨a1, ?_, by omega, b4⟩
      unfold manyB
      rw [a2, b3, b2, show (((takeNum s).2.toNat : Nat) : Int) = (takeNum s).2 by omega, List.append_assoc]
end Go.Proofs.YtlfehnnmpkohkaaGreatDoor
/- Chapter 09: changes and patches: what is read is what was written, and back. -/
namespace Go.Proofs.YtlfehnnmpkohkaaGreatDoor
open Go Go.Lib
theorem textB_pos (t : ByteArray) : 0 < (textB t).length := by unfold textB; simp only [List.length_append, List.length_cons]; omega
/-! ### a limit that is no limit -/
theorem takeNum_less {s s' : St9} {n : Int} (h : takeNum s = (s', n)) (hb : s'.2 = false) : s'.1.length < s.1.length := by
  obtain ⟨_, e, _⟩ := takeNum_back h hb
  rw [e, List.length_append]
  have : 0 < (numB n).length := by unfold numB; simp
  omega
theorem takeText_less {s s' : St9} {m : Int} {t : ByteArray} (h : takeText m s = (s', t)) (hb : s'.2 = false) : s'.1.length < s.1.length := by
  obtain ⟨_, e, _⟩ := takeText_back h hb
  rw [e, List.length_append]
  have := textB_pos t
  omega
theorem takeMany_short {α : Type} {take : St9 → St9 × α} (h : ∀ s s' x, take s = (s', x) → s'.2 = false → s'.1.length < s.1.length) : ∀ (k : Nat) (s : St9) (out : List α), (takeMany take k s out).1.2 = false → k + (takeMany take k s out).1.1.length ≤ s.1.length
  | 0, s, out, _ => by rw [takeMany, Nat.zero_add]; exact Nat.le_refl _
  | k + 1, s, out, hb => by
    rw [takeMany] at hb ⊢
    by_cases hs : s.2 = true
    · rw [if_pos hs] at hb
      rw [hs] at hb; cases hb
    · rw [if_neg hs] at hb ⊢
      have h1 := takeMany_short h k _ _ hb
      have hb1 : (take s).1.2 = false := by
        cases q : (take s).1.2 with
        | false => rfl
        | true => rw [takeMany_bad take k _ _ q, q] at hb; cases hb
      have h2 := h s (take s).1 (take s).2 rfl hb1
      omega
theorem takeSome_most {α : Type} {take : St9 → St9 × α} (h : ∀ s s' x, take s = (s', x) → s'.2 = false → s'.1.length < s.1.length) {m1 m2 : Int} {s : St9} (h1 : (s.1.length : Int) ≤ m1) (h2 : (s.1.length : Int) ≤ m2) : takeSome take m1 s = takeSome take m2 s := by
  have hx : ∀ m : Int, (s.1.length : Int) ≤ m → takeSome take m s = if (takeNum s).1.2 = true ∨ (takeNum s).2 < 0 ∨ (takeMany take (takeNum s).2.toNat (takeNum s).1 []).1.2 = true then (spoil9 s, []) else takeMany take (takeNum s).2.toNat (takeNum s).1 [] := fun m hm => by
    unfold takeSome
    by_cases a : (takeNum s).1.2 = true
    · rw [if_pos (.inl a), if_pos (.inl a)]
    · have ab : (takeNum s).1.2 = false := by simpa using a
      have al := takeNum_less (s := s) (s' := (takeNum s).1) (n := (takeNum s).2) rfl ab
      by_cases b : (takeNum s).2 < 0
      · rw [if_pos (.inr (.inl b)), if_pos (.inr (.inl b))]
      · by_cases c : (takeMany take (takeNum s).2.toNat (takeNum s).1 []).1.2 = true
        · rw [if_pos (c := _ ∨ _ ∨ (takeMany take (takeNum s).2.toNat (takeNum s).1 []).1.2 = true) (.inr (.inr c))]
          split
          · rfl
          · first | rfl | rw [if_pos c]
        · have cb : (takeMany take (takeNum s).2.toNat (takeNum s).1 []).1.2 = false := by simpa using c
          have := takeMany_short h _ _ _ cb
          rw [if_neg (by rintro (q | q | q); exact a q; exact b q; omega), if_neg c, if_neg (by rintro (q | q | q); exact a q; exact b q; exact c q)]
  rw [hx m1 h1, hx m2 h2]
/-! ### what may be -/
def charP (b : UInt8) : Bool := (97 ≤ b.toNat && b.toNat ≤ 122) || (48 ≤ b.toNat && b.toNat ≤ 57) || b.toNat = 46 || b.toNat = 45 || b.toNat = 95 || b.toNat = 47
def namedP (s : ByteArray) : Bool := decide (1 ≤ s.size) && decide (s.size ≤ 24) && s.data.toList.all charP
def lineP (s : ByteArray) : Bool := decide (s.size ≤ 60) && s.data.toList.all fun b => decide (b ≠ 10)
def bareP (p : Pr9) : Bool := decide (p.2.2.2.1 = 0) && decide (p.2.2.2.2.1.length = 0) && decide (p.2.2.2.2.2.length = 0)
def rightP (p : Pr9) : Bool := namedP p.2.1 &&
  if p.1 = 0 then decide (p.2.2.1.size = 0) && decide (0 ≤ p.2.2.2.1) && decide (p.2.2.2.1 ≤ 1048576) && p.2.2.2.2.1.all lineP && p.2.2.2.2.2.all lineP && decide (p.2.2.2.2.1 ≠ p.2.2.2.2.2)
  else if p.1 = 3 then bareP p && namedP p.2.2.1 && decide (p.2.2.1 ≠ p.2.1)
  else bareP p && decide (p.2.2.1.size = 0) && (decide (p.1 = 1) || decide (p.1 = 2))
def depsP (id : Int) : Int → List Int → Bool
  | _, [] => true
  | last, n :: l => decide (last < n) && decide (n ≤ 1000000000) && decide (n ≠ id) && depsP id n l
def rightT (p : Pt9) : Bool := decide (1 ≤ p.1) && decide (p.1 ≤ 1000000000) && lineP p.2.1 && decide (p.2.2.1.length ≤ 8) && depsP p.1 0 p.2.2.1 && decide (1 ≤ p.2.2.2.length) && decide (p.2.2.2.length ≤ 24) && p.2.2.2.all rightP
def pr0 : Pr9 := (0, ⟨#[]⟩, ⟨#[]⟩, 0, [], [])
def pt0 : Pt9 := (0, ⟨#[]⟩, [], [])
/-! ### changes -/
/-- A change, as it is; of its lines no more than 'many' of what is left. -/
def rawPrim (s : St9) : St9 × Pr9 :=
  let a := takeNum s
  let b := takeText 24 a.1
  let c := takeText 24 b.1
  let d := takeNum c.1
  let e := takeTexts d.1.1.length 60 d.1
  let f := takeTexts e.1.1.length 60 e.1
  (f.1, (a.2, b.2, c.2, d.2, e.2, f.2))
def takePrim (s : St9) : St9 × Pr9 := if (rawPrim s).1.2 = true ∨ rightP (rawPrim s).2 = false then (spoil9 s, pr0) else rawPrim s
def takePrims (most : Int) (s : St9) : St9 × List Pr9 := takeSome takePrim most s
def rawPatch (s : St9) : St9 × Pt9 :=
  let a := takeNum s
  let b := takeText 60 a.1
  let c := takeSome takeNum 8 b.1
  let d := takePrims 24 c.1
  (d.1, (a.2, b.2, c.2, d.2))
def takePatch (s : St9) : St9 × Pt9 := if (rawPatch s).1.2 = true ∨ rightT (rawPatch s).2 = false then (spoil9 s, pt0) else rawPatch s
theorem flat_len {l : List ByteArray} : l.length ≤ ((l.map textB).flatten).length := by
  induction l with
  | nil => simp
  | cons x l ih =>
    rw [List.map_cons, List.flatten_cons, List.length_append, List.length_cons]
    have := textB_pos x
    omega
theorem texts_len {l : List ByteArray} {r : List UInt8} : l.length ≤ (textsB l ++ r).length := by
  unfold textsB manyB
  rw [List.length_append, List.length_append]
  have := flat_len (l := l)
  omega
/-- Sizes at which a change can be written and read. -/
def FitP (p : Pr9) : Prop := (p.2.2.2.2.1.length : Int) ≤ far9 ∧ (p.2.2.2.2.2.length : Int) ≤ far9
theorem rightP_parts {p : Pr9} (h : rightP p = true) : (-far9 ≤ p.1 ∧ p.1 ≤ far9) ∧ p.2.1.size ≤ 24 ∧ p.2.2.1.size ≤ 24 ∧ (-far9 ≤ p.2.2.2.1 ∧ p.2.2.2.1 ≤ far9) ∧ (∀ x ∈ p.2.2.2.2.1, x.size ≤ 60) ∧ ∀ x ∈ p.2.2.2.2.2, x.size ≤ 60 := by
  obtain ⟨k, n, t, a, o, w⟩ := p
  unfold rightP at h
  simp only [Bool.and_eq_true, namedP, decide_eq_true_eq] at h
  obtain ⟨⟨⟨_, h24⟩, _⟩, h⟩ := h
  have hl : ∀ x : ByteArray, lineP x = true → x.size ≤ 60 := fun x hx => by
    unfold lineP at hx
    simp only [Bool.and_eq_true, decide_eq_true_eq] at hx
    exact hx.1
  unfold far9
  dsimp only at h h24 ⊢
  split at h
  · simp only [Bool.and_eq_true, decide_eq_true_eq, List.all_eq_true] at h
    obtain ⟨⟨⟨⟨⟨h1, h2⟩, h3⟩, h4⟩, h5⟩, _⟩ := h
    exact ⟨by omega, h24, by omega, by omega, fun x hx => hl x (h4 x hx), fun x hx => hl x (h5 x hx)⟩
  · split at h
    · simp only [bareP, Bool.and_eq_true, decide_eq_true_eq] at h
      obtain ⟨⟨⟨⟨h1, h2⟩, h3⟩, ⟨⟨_, h4⟩, _⟩⟩, _⟩ := h
      rw [List.length_eq_zero_iff.1 h2, List.length_eq_zero_iff.1 h3]
      exact ⟨by omega, h24, h4, by omega, (fun _ k => by cases k), fun _ k => by cases k⟩
    · simp only [bareP, Bool.and_eq_true, Bool.or_eq_true, decide_eq_true_eq] at h
      obtain ⟨⟨⟨⟨h1, h2⟩, h3⟩, h4⟩, h5⟩ := h
      rw [List.length_eq_zero_iff.1 h2, List.length_eq_zero_iff.1 h3]
      exact ⟨by omega, h24, by omega, by omega, (fun _ k => by cases k), fun _ k => by cases k⟩
theorem takePrim_enc {p : Pr9} (hr : rightP p = true) (hf : FitP p) (r : List UInt8) : takePrim (primB p ++ r, false) = ((r, false), p) := by
  obtain ⟨h1, h2, h3, h4, h5, h6⟩ := rightP_parts hr
  obtain ⟨k, n, t, a, o, w⟩ := p
  have hraw : rawPrim (primB (k, n, t, a, o, w) ++ r, false) = ((r, false), (k, n, t, a, o, w)) := by
    unfold rawPrim primB
    dsimp only at h1 h2 h3 h4 h5 h6 ⊢
    simp only [List.append_assoc]
    rw [takeNum_enc h1]
    dsimp only
    rw [takeText_enc (by omega) (by unfold far9; omega)]
    dsimp only
    rw [takeText_enc (by omega) (by unfold far9; omega)]
    dsimp only
    rw [takeNum_enc h4]
    dsimp only
    have ht : ∀ (x : ByteArray) (r : List UInt8), x.size ≤ 60 → takeText 60 (textB x ++ r, false) = ((r, false), x) := fun x r hx => takeText_enc (by omega) (by unfold far9; omega) r
    have e1 : takeTexts (textsB o ++ (textsB w ++ r)).length 60 (textsB o ++ (textsB w ++ r), false) = ((textsB w ++ r, false), o) := takeSome_enc (l := o) ht (by have := texts_len (l := o) (r := textsB w ++ r); omega) hf.1 h5 _
    rw [e1]
    dsimp only
    have e2 : takeTexts (textsB w ++ r).length 60 (textsB w ++ r, false) = ((r, false), w) := takeSome_enc (l := w) ht (by have := texts_len (l := w) (r := r); omega) hf.2 h6 _
    rw [e2]
  unfold takePrim
  rw [hraw]
  dsimp only
  rw [if_neg (by rw [hr]; simp)]
theorem takePrim_back {s s' : St9} {p : Pr9} (h : takePrim s = (s', p)) (hb : s'.2 = false) : s.2 = false ∧ s.1 = primB p ++ s'.1 ∧ rightP p = true := by
  unfold takePrim at h
  split at h
  · cases h; cases hb
  · rename_i hc
    have hr : rightP (rawPrim s).2 = true := by
      cases q : rightP (rawPrim s).2 with
      | true => rfl
      | false => exact absurd (.inr q) hc
    rw [h] at hr
    have hf : s' = (rawPrim s).1 := by rw [h]
    refine (fun (k : s.2 = false ∧ s.1 = primB p ++ s'.1) => ⟨k.1, k.2, hr⟩) ?_
    unfold rawPrim at h
    dsimp only at h
    generalize ha : takeNum s = a at h
    obtain ⟨a1, a2⟩ := a
    generalize hbt : takeText 24 a1 = b at h
    obtain ⟨b1, b2⟩ := b
    generalize hct : takeText 24 b1 = c at h
    obtain ⟨c1, c2⟩ := c
    generalize hd : takeNum c1 = d at h
    obtain ⟨d1, d2⟩ := d
    dsimp only at h
    generalize he : takeTexts d1.1.length 60 d1 = e at h
    obtain ⟨e1, e2⟩ := e
    dsimp only at h
    generalize hf : takeTexts e1.1.length 60 e1 = f at h
    obtain ⟨f1, f2⟩ := f
    dsimp only at h
    cases h
    have ht : ∀ (s s' : St9) (x : ByteArray), takeText 60 s = (s', x) → s'.2 = false → s.2 = false ∧ s.1 = textB x ++ s'.1 ∧ True := fun s s' x q qb => by
      obtain ⟨q1, q2, _⟩ := takeText_back q qb
      exact ⟨q1, q2, trivial⟩
    obtain ⟨f3, f4, _⟩ := takeSome_back ht hf hb
    obtain ⟨e3, e4, _⟩ := takeSome_back ht he f3
    obtain ⟨d3, d4, _⟩ := takeNum_back hd e3
    obtain ⟨c3, c4, _⟩ := takeText_back hct d3
    obtain ⟨b3, b4, _⟩ := takeText_back hbt c3
    obtain ⟨a3, a4, _⟩ := takeNum_back ha b3
    refine ⟨a3, ?_⟩
    unfold primB textsB
    dsimp only
    rw [a4, b4, c4, d4, e4, f4]
    simp only [List.append_assoc]
/-! ### patches -/
def FitT (p : Pt9) : Prop := ∀ x ∈ p.2.2.2, FitP x
theorem depsP_far {id : Int} : ∀ {last : Int} {l : List Int}, 0 ≤ last → depsP id last l = true → ∀ x ∈ l, -far9 ≤ x ∧ x ≤ far9
  | _, [], _, _ => fun _ h => by cases h
  | last, n :: l, h0, h => by
    unfold depsP at h
    simp only [Bool.and_eq_true, decide_eq_true_eq] at h
    obtain ⟨⟨⟨h1, h2⟩, _⟩, h3⟩ := h
    intro x hx
    rcases List.mem_cons.1 hx with rfl | hx
    · unfold far9; omega
    · exact depsP_far (by omega) h3 x hx
end Go.Proofs.YtlfehnnmpkohkaaGreatDoor
/- Chapter 09: what is left is an end of what was there; a number, as the document looks for it. -/
namespace Go.Proofs.YtlfehnnmpkohkaaGreatDoor
open Go Go.Lib
/-- What is left behind a reading is an end of what was left ahead of it. -/
def GoesP {α : Type} (take : St9 → St9 × α) : Prop := ∀ s, ∃ j, j ≤ s.1.length ∧ (take s).1.1 = s.1.drop j
theorem goes_num : GoesP takeNum := fun s => by
  unfold takeNum
  cases hn : num9 59 s with
  | none => exact ⟨0, Nat.zero_le _, rfl⟩
  | some p =>
    obtain ⟨n, m⟩ := p
    dsimp only
    split
    · unfold num9 at hn
      split at hn
      · cases hn
      · obtain ⟨r, h1, h2, _⟩ := number_some hn
        exact ⟨m, by rw [h1, h2, List.length_append, List.length_cons]; omega, rfl⟩
    · exact ⟨0, Nat.zero_le _, rfl⟩
theorem goes_flag : GoesP takeFlag := fun s => by
  unfold takeFlag
  cases hn : num9 59 s with
  | none => exact ⟨0, Nat.zero_le _, rfl⟩
  | some p =>
    obtain ⟨n, m⟩ := p
    dsimp only
    split
    · unfold num9 at hn
      split at hn
      · cases hn
      · obtain ⟨r, h1, h2, _⟩ := number_some hn
        exact ⟨m, by rw [h1, h2, List.length_append, List.length_cons]; omega, rfl⟩
    · exact ⟨0, Nat.zero_le _, rfl⟩
theorem goes_text (most : Int) : GoesP (takeText most) := fun s => by
  unfold takeText
  cases hn : num9 58 s with
  | none => exact ⟨0, Nat.zero_le _, rfl⟩
  | some p =>
    obtain ⟨n, m⟩ := p
    dsimp only
    split
    · rename_i h
      exact ⟨m + n.toNat + 1, by omega, rfl⟩
    · exact ⟨0, Nat.zero_le _, rfl⟩
theorem drop_drop {l l' : List UInt8} {j k : Nat} (hj : j ≤ l.length) (e : l' = l.drop j) (hk : k ≤ l'.length) : j + k ≤ l.length ∧ l'.drop k = l.drop (j + k) := by
  subst e
  rw [List.length_drop] at hk
  exact ⟨by omega, by rw [List.drop_drop]⟩
theorem goes_many {α : Type} {take : St9 → St9 × α} (h : GoesP take) : ∀ (k : Nat) (s : St9) (out : List α), ∃ j, j ≤ s.1.length ∧ (takeMany take k s out).1.1 = s.1.drop j
  | 0, s, _ => ⟨0, Nat.zero_le _, rfl⟩
  | k + 1, s, out => by
    rw [takeMany]
    split
    · exact ⟨0, Nat.zero_le _, rfl⟩
    · obtain ⟨j, h1, h2⟩ := h s
      obtain ⟨i, h3, h4⟩ := goes_many h k (take s).1 (out ++ [(take s).2])
      obtain ⟨h5, h6⟩ := drop_drop h1 h2 h3
      exact ⟨j + i, h5, h4.trans h6⟩
theorem goes_some {α : Type} {take : St9 → St9 × α} (h : GoesP take) (most : Int) : GoesP (takeSome take most) := fun s => by
  unfold takeSome
  split
  · exact ⟨0, Nat.zero_le _, rfl⟩
  · split
    · exact ⟨0, Nat.zero_le _, rfl⟩
    · obtain ⟨j, h1, h2⟩ := goes_num s
      obtain ⟨i, h3, h4⟩ := goes_many h (takeNum s).2.toNat (takeNum s).1 []
      obtain ⟨h5, h6⟩ := drop_drop h1 h2 h3
      exact ⟨j + i, h5, h4.trans h6⟩
theorem goes_trans {α β : Type} {s : St9} {a : St9 × α} {b : St9 × β} (h1 : ∃ j, j ≤ s.1.length ∧ a.1.1 = s.1.drop j) (h2 : ∃ j, j ≤ a.1.1.length ∧ b.1.1 = a.1.1.drop j) : ∃ j, j ≤ s.1.length ∧ b.1.1 = s.1.drop j := by
  obtain ⟨j, h3, h4⟩ := h1
  obtain ⟨i, h5, h6⟩ := h2
  obtain ⟨h7, h8⟩ := drop_drop h3 h4 h5
  exact ⟨j + i, h7, h6.trans h8⟩
theorem goes_raw : GoesP rawPrim := fun s => by
  have h1 := goes_num s
  have h2 := goes_trans h1 (goes_text 24 (takeNum s).1)
  have h3 := goes_trans h2 (goes_text 24 (takeText 24 (takeNum s).1).1)
  have h4 := goes_trans h3 (goes_num (takeText 24 (takeText 24 (takeNum s).1).1).1)
  have h5 := goes_trans h4 (goes_some (goes_text 60) (takeNum (takeText 24 (takeText 24 (takeNum s).1).1).1).1.1.length _)
  exact goes_trans h5 (goes_some (goes_text 60) _ _)
theorem goes_prim : GoesP takePrim := fun s => by
  unfold takePrim
  split
  · exact ⟨0, Nat.zero_le _, rfl⟩
  · exact goes_raw s
/-- The document looks for the end in all that is left. -/
theorem numberR_full (e : UInt8) (s : List UInt8) : numberR e s = match s.findIdx? (· == e) with
    | some k => if k = 0 ∨ 14 < k then none else (numS (s.take k)).map fun n => (n, k + 1)
    | none => none := by
  unfold numberR
  cases h : s.findIdx? (· == e) with
  | none =>
    have : (s.take 15).findIdx? (· == e) = none := by
      rw [List.findIdx?_eq_none_iff] at h ⊢
      exact fun x hx => h x (List.mem_of_mem_take hx)
    rw [this]
  | some k =>
    obtain ⟨h1, h2, h3⟩ := List.findIdx?_eq_some_iff_getElem.1 h
    by_cases hk : k < 15
    · have : (s.take 15).findIdx? (· == e) = some k := by
        rw [List.findIdx?_eq_some_iff_getElem]
        refine ⟨by rw [List.length_take]; omega, by rw [List.getElem_take]; exact h2, fun j hj => ?_⟩
        rw [List.getElem_take]; exact h3 j hj
      rw [this]
      dsimp only
      by_cases h0 : k = 0
      · rw [if_pos h0, if_pos (.inl h0)]
      · rw [if_neg h0, if_neg (by omega)]
    · have : (s.take 15).findIdx? (· == e) = none := by
        rw [List.findIdx?_eq_none_iff]
        intro x hx
        obtain ⟨j, hj, rfl⟩ := List.mem_iff_getElem.1 hx
        rw [List.length_take] at hj
        rw [List.getElem_take]
        simpa using h3 j (by omega)
      rw [this]
      dsimp only
      rw [if_pos (.inr (by omega))]
end Go.Proofs.YtlfehnnmpkohkaaGreatDoor
/- Chapter 09: bytes as a string. -/
namespace Go.Proofs.YtlfehnnmpkohkaaGreatDoor
open Go Go.Lib
def sB (l : List UInt8) : ByteArray := ⟨l.toArray⟩
theorem sB_list (l : List UInt8) : (sB l).data.toList = l := by simp [sB]
theorem sB_size (l : List UInt8) : (sB l).size = l.length := by rw [← ba_len, sB_list]
theorem sB_of (s : ByteArray) : sB s.data.toList = s := ba_eta s
theorem sB_inj {a b : List UInt8} (h : sB a = sB b) : a = b := by rw [← sB_list a, h, sB_list]
theorem sB_app (a b : List UInt8) : sB a ++ sB b = sB (a ++ b) := by
  apply ByteArray.ext
  rw [ByteArray.data_append]
  apply Array.ext'
  rw [Array.toList_append]
  show (sB a).data.toList ++ (sB b).data.toList = (sB (a ++ b)).data.toList
  rw [sB_list, sB_list, sB_list]
theorem sB_text (s : ByteArray) : sB (textB s) = sB (itoa s.size) ++ sB [58] ++ s ++ sB [44] := by
  unfold textB
  rw [← sB_app, ← sB_app, ← sB_app, sB_of]
theorem flag_eq (b : Bool) : flagB b = if b then [49, 59] else [48, 59] := by cases b <;> decide +kernel
/-- A row's things, written up to some place. -/
theorem flat_next {α : Type} (put : α → List UInt8) {l : List α} {k : Nat} (hk : k < l.length) : ((l.take (k + 1)).map put).flatten = ((l.take k).map put).flatten ++ put l[k] := by
  rw [List.take_succ_eq_append_getElem hk, List.map_append, List.flatten_append]
  simp
end Go.Proofs.YtlfehnnmpkohkaaGreatDoor
namespace Go.Proofs.YtlfehnnmpkohkaaGreatDoor
open Go Go.SL
theorem ti2 : TI Tryz.prog 2 (.int .i64 0) 1 8 := ti_of (by kernel_rfl)
theorem ti3 : TI Tryz.prog 3 (.int .i64 0) 1 8 := ti_of (by kernel_rfl)
theorem ti4 : TI Tryz.prog 4 (.bool false) 1 1 := ti_of (by kernel_rfl)
theorem ti5 : TI Tryz.prog 5 (.int .u8 0) 1 1 := ti_of (by kernel_rfl)
theorem ti9 : TI Tryz.prog 9 (.string ⟨#[]⟩) 1 16 := ti_of (by kernel_rfl)
theorem ti22 : TI Tryz.prog 22 (.slice none 0 0) 1 24 := ti_of (by kernel_rfl)
theorem ti23 : TI Tryz.prog 23 (.slice none 0 0) 1 24 := ti_of (by kernel_rfl)
theorem ti24 : TI Tryz.prog 24 (.slice none 0 0) 1 24 := ti_of (by kernel_rfl)
theorem ti29 : TI Tryz.prog 29 (.nilFunc) 1 8 := ti_of (by kernel_rfl)
theorem ti30 : TI Tryz.prog 30 (.slice none 0 0) 1 24 := ti_of (by kernel_rfl)
theorem ti32 : TI Tryz.prog 32 (.agg #[.int .i64 0, .int .i64 0, .int .i64 0, .string ⟨#[]⟩, .string ⟨#[]⟩, .slice none 0 0, .slice none 0 0, .slice none 0 0]) 8 128 := ti_of (by kernel_rfl)
theorem ti38 : TI Tryz.prog 38 (.slice none 0 0) 1 24 := ti_of (by kernel_rfl)
theorem ti48 : TI Tryz.prog 48 (.slice none 0 0) 1 24 := ti_of (by kernel_rfl)
theorem ti50 : TI Tryz.prog 50 (.agg #[.int .i64 0, .int .i64 0, .slice none 0 0, .slice none 0 0, .slice none 0 0, .slice none 0 0]) 6 112 := ti_of (by kernel_rfl)
theorem ti53 : TI Tryz.prog 53 (.slice none 0 0) 1 24 := ti_of (by kernel_rfl)
theorem ti55 : TI Tryz.prog 55 (.agg #[.int .i64 0, .int .i64 0, .slice none 0 0, .slice none 0 0, .slice none 0 0, .slice none 0 0]) 6 112 := ti_of (by kernel_rfl)
theorem ti72 : TI Tryz.prog 72 (.agg #[.int .i64 0, .slice none 0 0, .bool false]) 3 40 := ti_of (by kernel_rfl)
theorem ti74 : TI Tryz.prog 74 (.agg #[.int .i64 0, .string ⟨#[]⟩, .string ⟨#[]⟩, .int .i64 0, .slice none 0 0, .slice none 0 0]) 6 96 := ti_of (by kernel_rfl)
theorem ti75 : TI Tryz.prog 75 (.nilFunc) 1 8 := ti_of (by kernel_rfl)
theorem ti77 : TI Tryz.prog 77 (.agg #[.nilFunc, .nilFunc]) 2 16 := ti_of (by kernel_rfl)
theorem ti89 : TI Tryz.prog 89 (.agg #[.slice none 0 0]) 1 24 := ti_of (by kernel_rfl)
theorem ti110 : TI Tryz.prog 110 (.agg #[.string ⟨#[]⟩, .int .i64 0, .bool false]) 3 32 := ti_of (by kernel_rfl)
theorem ti121 : TI Tryz.prog 121 (.agg #[.int .i64 0, .slice none 0 0, .bool false]) 3 40 := ti_of (by kernel_rfl)
theorem ti129 : TI Tryz.prog 129 (.agg #[.int .i64 0, .string ⟨#[]⟩, .string ⟨#[]⟩, .int .i64 0, .slice none 0 0, .slice none 0 0]) 6 96 := ti_of (by kernel_rfl)
theorem ti141 : TI Tryz.prog 141 (.agg #[.slice none 0 0, .bool false]) 2 32 := ti_of (by kernel_rfl)
theorem ti191 : TI Tryz.prog 191 (.agg #[.int .u8 0, .int .u8 0, .int .u8 0, .int .u8 0, .int .u8 0, .int .u8 0, .int .u8 0, .int .u8 0, .int .u8 0, .int .u8 0, .int .u8 0, .int .u8 0, .int .u8 0, .int .u8 0, .int .u8 0, .int .u8 0, .int .u8 0, .int .u8 0, .int .u8 0, .int .u8 0, .int .u8 0, .int .u8 0, .int .u8 0, .int .u8 0]) 24 24 := ti_of (by kernel_rfl)
theorem lone3 : Lone Tryz.prog 3 := lone_of Tryz.underlying3 rfl
theorem lone4 : Lone Tryz.prog 4 := lone_of Tryz.underlying4 rfl
theorem lone5 : Lone Tryz.prog 5 := lone_of Tryz.underlying5 rfl
theorem lone9 : Lone Tryz.prog 9 := lone_of Tryz.underlying9 rfl
theorem lone22 : Lone Tryz.prog 22 := lone_of Tryz.underlying22 rfl
theorem lone23 : Lone Tryz.prog 23 := lone_of Tryz.underlying23 rfl
theorem lone24 : Lone Tryz.prog 24 := lone_of Tryz.underlying24 rfl
theorem lone29 : Lone Tryz.prog 29 := lone_of Tryz.underlying29 rfl
theorem lone30 : Lone Tryz.prog 30 := lone_of Tryz.underlying30 rfl
theorem lone38 : Lone Tryz.prog 38 := lone_of Tryz.underlying38 rfl
theorem lone48 : Lone Tryz.prog 48 := lone_of Tryz.underlying48 rfl
theorem lone53 : Lone Tryz.prog 53 := lone_of Tryz.underlying53 rfl
theorem lone75 : Lone Tryz.prog 75 := lone_of Tryz.underlying75 rfl
theorem lone103 : Lone Tryz.prog 103 := lone_of Tryz.underlying103 rfl
theorem lone147 : Lone Tryz.prog 147 := lone_of Tryz.underlying147 rfl
theorem lone149 : Lone Tryz.prog 149 := lone_of Tryz.underlying149 rfl
theorem cl11 : Callable Tryz.prog 11 := callable_of Tryz.func11 (by kernel_rfl) (by kernel_rfl)
-- 12 quiltwork/req.Right
theorem cl12 : Callable Tryz.prog 12 := callable_of Tryz.func12 (by kernel_rfl) (by kernel_rfl)
-- 13 quiltwork/quiltworklaw16.New
theorem cl15 : Callable Tryz.prog 15 := callable_of Tryz.func15 (by kernel_rfl) (by kernel_rfl)
-- 16 quiltwork/quiltworkref16.SameReq
theorem cl17 : Callable Tryz.prog 17 := callable_of Tryz.func17 (by kernel_rfl) (by kernel_rfl)
-- 18 quiltwork/req.Pack
theorem cl18 : Callable Tryz.prog 18 := callable_of Tryz.func18 (by kernel_rfl) (by kernel_rfl)
-- 19 quiltwork/quiltworkref16.Pack
theorem cl20 : Callable Tryz.prog 20 := callable_of Tryz.func20 (by kernel_rfl) (by kernel_rfl)
-- 21 quiltwork/quiltworklaw16.Old
theorem cl23 : Callable Tryz.prog 23 := callable_of Tryz.func23 (by kernel_rfl) (by kernel_rfl)
-- 24 quiltwork/quiltworkref16.Parse
theorem cl25 : Callable Tryz.prog 25 := callable_of Tryz.func25 (by kernel_rfl) (by kernel_rfl)
-- 26 quiltwork/req.PackRes
theorem cl26 : Callable Tryz.prog 26 := callable_of Tryz.func26 (by kernel_rfl) (by kernel_rfl)
-- 27 quiltwork/quiltworklaw16.NewRes
theorem cl27 : Callable Tryz.prog 27 := callable_of Tryz.func27 (by kernel_rfl) (by kernel_rfl)
-- 28 quiltwork/quiltworkref16.PackRes
theorem cl28 : Callable Tryz.prog 28 := callable_of Tryz.func28 (by kernel_rfl) (by kernel_rfl)
-- 29 quiltwork/quiltworkref16.UnpackRes
theorem cl29 : Callable Tryz.prog 29 := callable_of Tryz.func29 (by kernel_rfl) (by kernel_rfl)
-- 30 quiltwork/req.UnpackRes
theorem cl30 : Callable Tryz.prog 30 := callable_of Tryz.func30 (by kernel_rfl) (by kernel_rfl)
-- 31 quiltwork/quiltworkref16.SameRes
theorem cl31 : Callable Tryz.prog 31 := callable_of Tryz.func31 (by kernel_rfl) (by kernel_rfl)
-- 32 quiltwork/quiltworklaw16.OldRes
theorem cl32 : Callable Tryz.prog 32 := callable_of Tryz.func32 (by kernel_rfl) (by kernel_rfl)
-- 33 quiltwork/quiltworklaw16.far
theorem cl33 : Callable Tryz.prog 33 := callable_of Tryz.func33 (by kernel_rfl) (by kernel_rfl)
-- 34 quiltwork/req.SameRes
theorem cl34 : Callable Tryz.prog 34 := callable_of Tryz.func34 (by kernel_rfl) (by kernel_rfl)
-- 35 quiltwork/quiltworkref13.Same
theorem cl35 : Callable Tryz.prog 35 := callable_of Tryz.func35 (by kernel_rfl) (by kernel_rfl)
-- 36 quiltwork/quiltworklaw13.Old
theorem cl36 : Callable Tryz.prog 36 := callable_of Tryz.func36 (by kernel_rfl) (by kernel_rfl)
-- 37 quiltwork/quiltworkref03.All
theorem cl37 : Callable Tryz.prog 37 := callable_of Tryz.func37 (by kernel_rfl) (by kernel_rfl)
-- 38 quiltwork/quiltworklaw03.Many
theorem cl38 : Callable Tryz.prog 38 := callable_of Tryz.func38 (by kernel_rfl) (by kernel_rfl)
-- 39 quiltwork/req.kinds
theorem cl39 : Callable Tryz.prog 39 := callable_of Tryz.func39 (by kernel_rfl) (by kernel_rfl)
-- 40 quiltwork/quiltworklaw03.New
theorem cl40 : Callable Tryz.prog 40 := callable_of Tryz.func40 (by kernel_rfl) (by kernel_rfl)
-- 41 quiltwork/quiltworkref05.Right
theorem cl42 : Callable Tryz.prog 42 := callable_of Tryz.func42 (by kernel_rfl) (by kernel_rfl)
-- 43 quiltwork/quiltworkref02.Named
theorem cl43 : Callable Tryz.prog 43 := callable_of Tryz.func43 (by kernel_rfl) (by kernel_rfl)
-- 44 quiltwork/quiltworkref16.needs
theorem cl45 : Callable Tryz.prog 45 := callable_of Tryz.func45 (by kernel_rfl) (by kernel_rfl)
-- 46 quiltwork/line.Same
theorem cl46 : Callable Tryz.prog 46 := callable_of Tryz.func46 (by kernel_rfl) (by kernel_rfl)
-- 47 quiltwork/seq.Same
theorem cl47 : Callable Tryz.prog 47 := callable_of Tryz.func47 (by kernel_rfl) (by kernel_rfl)
-- 48 quiltwork/quiltworkref16.numbers
theorem cl48 : Callable Tryz.prog 48 := callable_of Tryz.func48 (by kernel_rfl) (by kernel_rfl)
-- 49 quiltwork/quiltworkref01.Same
theorem cl49 : Callable Tryz.prog 49 := callable_of Tryz.func49 (by kernel_rfl) (by kernel_rfl)
-- 50 (*quiltwork/code.Out).Num
theorem cl50 : Callable Tryz.prog 50 := callable_of Tryz.func50 (by kernel_rfl) (by kernel_rfl)
-- 51 (*quiltwork/code.Out).Text
theorem cl51 : Callable Tryz.prog 51 := callable_of Tryz.func51 (by kernel_rfl) (by kernel_rfl)
-- 52 quiltwork/req.numbers
theorem cl52 : Callable Tryz.prog 52 := callable_of Tryz.func52 (by kernel_rfl) (by kernel_rfl)
-- 53 (*quiltwork/code.Out).Texts
theorem cl53 : Callable Tryz.prog 53 := callable_of Tryz.func53 (by kernel_rfl) (by kernel_rfl)
-- 54 (*quiltwork/code.Out).Prims
theorem cl54 : Callable Tryz.prog 54 := callable_of Tryz.func54 (by kernel_rfl) (by kernel_rfl)
-- 55 (*quiltwork/code.Out).Bytes
theorem cl55 : Callable Tryz.prog 55 := callable_of Tryz.func55 (by kernel_rfl) (by kernel_rfl)
-- 56 quiltwork/quiltworkref09.Num
theorem cl56 : Callable Tryz.prog 56 := callable_of Tryz.func56 (by kernel_rfl) (by kernel_rfl)
-- 57 quiltwork/quiltworkref09.Text
theorem cl57 : Callable Tryz.prog 57 := callable_of Tryz.func57 (by kernel_rfl) (by kernel_rfl)
-- 58 quiltwork/quiltworkref16.row
theorem cl58 : Callable Tryz.prog 58 := callable_of Tryz.func58 (by kernel_rfl) (by kernel_rfl)
-- 59 quiltwork/quiltworkref09.Texts
theorem cl59 : Callable Tryz.prog 59 := callable_of Tryz.func59 (by kernel_rfl) (by kernel_rfl)
-- 60 quiltwork/quiltworkref09.Prims
theorem cl60 : Callable Tryz.prog 60 := callable_of Tryz.func60 (by kernel_rfl) (by kernel_rfl)
-- 61 quiltwork/quiltworklaw03.Old
theorem cl61 : Callable Tryz.prog 61 := callable_of Tryz.func61 (by kernel_rfl) (by kernel_rfl)
-- 62 quiltwork/code.Of
theorem cl62 : Callable Tryz.prog 62 := callable_of Tryz.func62 (by kernel_rfl) (by kernel_rfl)
-- 63 (*quiltwork/code.In).Num
theorem cl63 : Callable Tryz.prog 63 := callable_of Tryz.func63 (by kernel_rfl) (by kernel_rfl)
-- 64 (*quiltwork/code.In).Text
theorem cl64 : Callable Tryz.prog 64 := callable_of Tryz.func64 (by kernel_rfl) (by kernel_rfl)
-- 65 quiltwork/req.take
theorem cl65 : Callable Tryz.prog 65 := callable_of Tryz.func65 (by kernel_rfl) (by kernel_rfl)
-- 66 (*quiltwork/code.In).Texts
theorem cl66 : Callable Tryz.prog 66 := callable_of Tryz.func66 (by kernel_rfl) (by kernel_rfl)
-- 67 (*quiltwork/code.In).Prims
theorem cl67 : Callable Tryz.prog 67 := callable_of Tryz.func67 (by kernel_rfl) (by kernel_rfl)
-- 68 (*quiltwork/code.In).Done
theorem cl68 : Callable Tryz.prog 68 := callable_of Tryz.func68 (by kernel_rfl) (by kernel_rfl)
-- 69 quiltwork/quiltworkref09.TakeNum
theorem cl69 : Callable Tryz.prog 69 := callable_of Tryz.func69 (by kernel_rfl) (by kernel_rfl)
-- 70 quiltwork/quiltworkref09.TakeText
theorem cl70 : Callable Tryz.prog 70 := callable_of Tryz.func70 (by kernel_rfl) (by kernel_rfl)
-- 71 quiltwork/quiltworkref16.takeRow
theorem cl71 : Callable Tryz.prog 71 := callable_of Tryz.func71 (by kernel_rfl) (by kernel_rfl)
-- 72 quiltwork/quiltworkref09.TakeTexts
theorem cl72 : Callable Tryz.prog 72 := callable_of Tryz.func72 (by kernel_rfl) (by kernel_rfl)
-- 73 quiltwork/quiltworkref09.TakePrims
theorem cl73 : Callable Tryz.prog 73 := callable_of Tryz.func73 (by kernel_rfl) (by kernel_rfl)
-- 74 (*quiltwork/code.Out).Flag
theorem cl74 : Callable Tryz.prog 74 := callable_of Tryz.func74 (by kernel_rfl) (by kernel_rfl)
-- 75 quiltwork/quiltworkref09.Flag
theorem cl75 : Callable Tryz.prog 75 := callable_of Tryz.func75 (by kernel_rfl) (by kernel_rfl)
-- 76 quiltwork/quiltworkref09.TakeFlag
theorem cl76 : Callable Tryz.prog 76 := callable_of Tryz.func76 (by kernel_rfl) (by kernel_rfl)
-- 77 (*quiltwork/code.In).Flag
theorem cl77 : Callable Tryz.prog 77 := callable_of Tryz.func77 (by kernel_rfl) (by kernel_rfl)
-- 78 slices.EqualFunc[[]quiltwork/watch.Note,[]quiltwork/watch.Note,quiltwork/watch.Note,quiltwork/watch.Note]
theorem cl78 : Callable Tryz.prog 78 := callable_of Tryz.func78 (by kernel_rfl) (by kernel_rfl)
-- 79 quiltwork/req.sameNote
theorem cl79 : Callable Tryz.prog 79 := callable_of Tryz.func79 (by kernel_rfl) (by kernel_rfl)
-- 80 quiltwork/quiltworkref03.Same
theorem cl80 : Callable Tryz.prog 80 := callable_of Tryz.func80 (by kernel_rfl) (by kernel_rfl)
-- 81 quiltwork/req.kinds$1
theorem cl81 : Callable Tryz.prog 81 := callable_of Tryz.func81 (by kernel_rfl) (by kernel_rfl)
-- 82 quiltwork/req.kinds$2
theorem cl82 : Callable Tryz.prog 82 := callable_of Tryz.func82 (by kernel_rfl) (by kernel_rfl)
-- 83 quiltwork/req.kinds$3
theorem cl83 : Callable Tryz.prog 83 := callable_of Tryz.func83 (by kernel_rfl) (by kernel_rfl)
-- 84 quiltwork/req.kinds$4
theorem cl84 : Callable Tryz.prog 84 := callable_of Tryz.func84 (by kernel_rfl) (by kernel_rfl)
-- 85 quiltwork/req.kinds$5
theorem cl85 : Callable Tryz.prog 85 := callable_of Tryz.func85 (by kernel_rfl) (by kernel_rfl)
-- 86 quiltwork/tree.Named
theorem cl86 : Callable Tryz.prog 86 := callable_of Tryz.func86 (by kernel_rfl) (by kernel_rfl)
-- 87 quiltwork/req.kinds$6
theorem cl87 : Callable Tryz.prog 87 := callable_of Tryz.func87 (by kernel_rfl) (by kernel_rfl)
-- 88 quiltwork/seq.Right
theorem cl88 : Callable Tryz.prog 88 := callable_of Tryz.func88 (by kernel_rfl) (by kernel_rfl)
-- 89 quiltwork/req.kinds$7
theorem cl89 : Callable Tryz.prog 89 := callable_of Tryz.func89 (by kernel_rfl) (by kernel_rfl)
-- 90 quiltwork/req.kinds$8
theorem cl90 : Callable Tryz.prog 90 := callable_of Tryz.func90 (by kernel_rfl) (by kernel_rfl)
-- 91 quiltwork/req.id
theorem cl91 : Callable Tryz.prog 91 := callable_of Tryz.func91 (by kernel_rfl) (by kernel_rfl)
-- 92 quiltwork/line.Right
theorem cl92 : Callable Tryz.prog 92 := callable_of Tryz.func92 (by kernel_rfl) (by kernel_rfl)
-- 93 quiltwork/req.deps
theorem cl93 : Callable Tryz.prog 93 := callable_of Tryz.func93 (by kernel_rfl) (by kernel_rfl)
-- 94 quiltwork/req.files
theorem cl94 : Callable Tryz.prog 94 := callable_of Tryz.func94 (by kernel_rfl) (by kernel_rfl)
-- 95 quiltwork/req.kinds$9
theorem cl95 : Callable Tryz.prog 95 := callable_of Tryz.func95 (by kernel_rfl) (by kernel_rfl)
-- 96 quiltwork/req.kinds$10
theorem cl96 : Callable Tryz.prog 96 := callable_of Tryz.func96 (by kernel_rfl) (by kernel_rfl)
-- 97 quiltwork/req.kinds$11
theorem cl97 : Callable Tryz.prog 97 := callable_of Tryz.func97 (by kernel_rfl) (by kernel_rfl)
-- 98 quiltwork/req.kinds$12
theorem cl98 : Callable Tryz.prog 98 := callable_of Tryz.func98 (by kernel_rfl) (by kernel_rfl)
-- 99 quiltwork/req.kinds$13
theorem cl99 : Callable Tryz.prog 99 := callable_of Tryz.func99 (by kernel_rfl) (by kernel_rfl)
-- 100 quiltwork/req.kinds$14
theorem cl100 : Callable Tryz.prog 100 := callable_of Tryz.func100 (by kernel_rfl) (by kernel_rfl)
-- 101 quiltwork/req.kinds$15
theorem cl101 : Callable Tryz.prog 101 := callable_of Tryz.func101 (by kernel_rfl) (by kernel_rfl)
-- 102 quiltwork/req.kinds$16
theorem cl102 : Callable Tryz.prog 102 := callable_of Tryz.func102 (by kernel_rfl) (by kernel_rfl)
-- 103 quiltwork/req.kinds$17
theorem cl103 : Callable Tryz.prog 103 := callable_of Tryz.func103 (by kernel_rfl) (by kernel_rfl)
-- 104 quiltwork/quiltworkref03.Right
theorem cl104 : Callable Tryz.prog 104 := callable_of Tryz.func104 (by kernel_rfl) (by kernel_rfl)
-- 105 slices.Equal[[]string,string]
theorem cl105 : Callable Tryz.prog 105 := callable_of Tryz.func105 (by kernel_rfl) (by kernel_rfl)
-- 106 slices.EqualFunc[[]quiltwork/prim.Prim,[]quiltwork/prim.Prim,quiltwork/prim.Prim,quiltwork/prim.Prim]
theorem cl106 : Callable Tryz.prog 106 := callable_of Tryz.func106 (by kernel_rfl) (by kernel_rfl)
-- 107 quiltwork/prim.Same
theorem cl107 : Callable Tryz.prog 107 := callable_of Tryz.func107 (by kernel_rfl) (by kernel_rfl)
-- 108 strconv.AppendInt
theorem cl108 : Callable Tryz.prog 108 := callable_of Tryz.func108 (by kernel_rfl) (by kernel_rfl)
-- 109 quiltwork/code.each[string]
theorem cl109 : Callable Tryz.prog 109 := callable_of Tryz.func109 (by kernel_rfl) (by kernel_rfl)
-- 110 quiltwork/code.each[quiltwork/prim.Prim]
theorem cl110 : Callable Tryz.prog 110 := callable_of Tryz.func110 (by kernel_rfl) (by kernel_rfl)
-- 111 (*quiltwork/code.Out).Prim
theorem cl111 : Callable Tryz.prog 111 := callable_of Tryz.func111 (by kernel_rfl) (by kernel_rfl)
-- 112 slices.Clone[[]byte,byte]
theorem cl112 : Callable Tryz.prog 112 := callable_of Tryz.func112 (by kernel_rfl) (by kernel_rfl)
-- 113 quiltwork/quiltworkref09.digits
theorem cl113 : Callable Tryz.prog 113 := callable_of Tryz.func113 (by kernel_rfl) (by kernel_rfl)
-- 114 quiltwork/quiltworkref09.Prim
theorem cl114 : Callable Tryz.prog 114 := callable_of Tryz.func114 (by kernel_rfl) (by kernel_rfl)
-- 115 (*quiltwork/code.In).number
theorem cl115 : Callable Tryz.prog 115 := callable_of Tryz.func115 (by kernel_rfl) (by kernel_rfl)
-- 116 quiltwork/code.goes[int]
theorem cl116 : Callable Tryz.prog 116 := callable_of Tryz.func116 (by kernel_rfl) (by kernel_rfl)
-- 117 quiltwork/code.goes[string]
theorem cl117 : Callable Tryz.prog 117 := callable_of Tryz.func117 (by kernel_rfl) (by kernel_rfl)
-- 118 quiltwork/code.some[string]
theorem cl118 : Callable Tryz.prog 118 := callable_of Tryz.func118 (by kernel_rfl) (by kernel_rfl)
-- 119 (*quiltwork/code.In).Texts$1
theorem cl119 : Callable Tryz.prog 119 := callable_of Tryz.func119 (by kernel_rfl) (by kernel_rfl)
-- 120 quiltwork/code.some[quiltwork/prim.Prim]
theorem cl120 : Callable Tryz.prog 120 := callable_of Tryz.func120 (by kernel_rfl) (by kernel_rfl)
-- 121 (*quiltwork/code.In).Prim
theorem cl121 : Callable Tryz.prog 121 := callable_of Tryz.func121 (by kernel_rfl) (by kernel_rfl)
-- 122 quiltwork/quiltworkref09.upto
theorem cl122 : Callable Tryz.prog 122 := callable_of Tryz.func122 (by kernel_rfl) (by kernel_rfl)
-- 123 quiltwork/quiltworkref09.spoil
theorem cl123 : Callable Tryz.prog 123 := callable_of Tryz.func123 (by kernel_rfl) (by kernel_rfl)
-- 124 quiltwork/quiltworkref09.TakePrim
theorem cl124 : Callable Tryz.prog 124 := callable_of Tryz.func124 (by kernel_rfl) (by kernel_rfl)
-- 125 quiltwork/code.goes[bool]
theorem cl125 : Callable Tryz.prog 125 := callable_of Tryz.func125 (by kernel_rfl) (by kernel_rfl)
-- 126 strings.Trim
theorem cl126 : Callable Tryz.prog 126 := callable_of Tryz.func126 (by kernel_rfl) (by kernel_rfl)
-- 127 slices.ContainsFunc[[]quiltwork/prim.Prim,quiltwork/prim.Prim]
theorem cl127 : Callable Tryz.prog 127 := callable_of Tryz.func127 (by kernel_rfl) (by kernel_rfl)
-- 128 quiltwork/seq.Right$1
theorem cl128 : Callable Tryz.prog 128 := callable_of Tryz.func128 (by kernel_rfl) (by kernel_rfl)
-- 129 quiltwork/prim.Right
theorem cl129 : Callable Tryz.prog 129 := callable_of Tryz.func129 (by kernel_rfl) (by kernel_rfl)
-- 130 strings.Contains
theorem cl130 : Callable Tryz.prog 130 := callable_of Tryz.func130 (by kernel_rfl) (by kernel_rfl)
-- 131 slices.ContainsFunc[[]int,int]
theorem cl131 : Callable Tryz.prog 131 := callable_of Tryz.func131 (by kernel_rfl) (by kernel_rfl)
-- 132 quiltwork/req.deps$1
theorem cl132 : Callable Tryz.prog 132 := callable_of Tryz.func132 (by kernel_rfl) (by kernel_rfl)
-- 133 slices.ContainsFunc[[]string,string]
theorem cl133 : Callable Tryz.prog 133 := callable_of Tryz.func133 (by kernel_rfl) (by kernel_rfl)
-- 134 quiltwork/req.files$1
theorem cl134 : Callable Tryz.prog 134 := callable_of Tryz.func134 (by kernel_rfl) (by kernel_rfl)
-- 135 quiltwork/quiltworkref01.All
theorem cl135 : Callable Tryz.prog 135 := callable_of Tryz.func135 (by kernel_rfl) (by kernel_rfl)
-- 136 internal/strconv.AppendInt
theorem cl136 : Callable Tryz.prog 136 := callable_of Tryz.func136 (by kernel_rfl) (by kernel_rfl)
-- 137 bytes.IndexByte
theorem cl137 : Callable Tryz.prog 137 := callable_of Tryz.func137 (by kernel_rfl) (by kernel_rfl)
-- 138 strconv.Atoi
theorem cl138 : Callable Tryz.prog 138 := callable_of Tryz.func138 (by kernel_rfl) (by kernel_rfl)
-- 139 strconv.Itoa
theorem cl139 : Callable Tryz.prog 139 := callable_of Tryz.func139 (by kernel_rfl) (by kernel_rfl)
-- 140 quiltwork/code.some[string]$1
theorem cl140 : Callable Tryz.prog 140 := callable_of Tryz.func140 (by kernel_rfl) (by kernel_rfl)
-- 141 quiltwork/code.whole[[]string]
theorem cl141 : Callable Tryz.prog 141 := callable_of Tryz.func141 (by kernel_rfl) (by kernel_rfl)
-- 142 quiltwork/code.some[string]$2
theorem cl142 : Callable Tryz.prog 142 := callable_of Tryz.func142 (by kernel_rfl) (by kernel_rfl)
-- 143 quiltwork/code.some[quiltwork/prim.Prim]$1
theorem cl143 : Callable Tryz.prog 143 := callable_of Tryz.func143 (by kernel_rfl) (by kernel_rfl)
-- 144 quiltwork/code.whole[[]quiltwork/prim.Prim]
theorem cl144 : Callable Tryz.prog 144 := callable_of Tryz.func144 (by kernel_rfl) (by kernel_rfl)
-- 145 quiltwork/code.some[quiltwork/prim.Prim]$2
theorem cl145 : Callable Tryz.prog 145 := callable_of Tryz.func145 (by kernel_rfl) (by kernel_rfl)
-- 146 quiltwork/code.whole[quiltwork/prim.Prim]
theorem cl146 : Callable Tryz.prog 146 := callable_of Tryz.func146 (by kernel_rfl) (by kernel_rfl)
-- 147 (*quiltwork/code.In).prim
theorem cl147 : Callable Tryz.prog 147 := callable_of Tryz.func147 (by kernel_rfl) (by kernel_rfl)
-- 148 strings.trimLeftByte
theorem cl155 : Callable Tryz.prog 155 := callable_of Tryz.func155 (by kernel_rfl) (by kernel_rfl)
-- 156 quiltwork/line.All
theorem cl156 : Callable Tryz.prog 156 := callable_of Tryz.func156 (by kernel_rfl) (by kernel_rfl)
-- 157 strings.Index
theorem cl158 : Callable Tryz.prog 158 := callable_of Tryz.func158 (by kernel_rfl) (by kernel_rfl)
-- 159 slices.IndexFunc[[]string,string]
theorem cl159 : Callable Tryz.prog 159 := callable_of Tryz.func159 (by kernel_rfl) (by kernel_rfl)
-- 160 internal/strconv.AppendUint
theorem cl160 : Callable Tryz.prog 160 := callable_of Tryz.func160 (by kernel_rfl) (by kernel_rfl)
-- 161 internal/bytealg.IndexByte
-- 162 internal/strconv.Atoi
theorem cl169 : Callable Tryz.prog 169 := callable_of Tryz.func169 (by kernel_rfl) (by kernel_rfl)
-- 170 internal/stringslite.Index
theorem cl171 : Callable Tryz.prog 171 := callable_of Tryz.func171 (by kernel_rfl) (by kernel_rfl)
-- 172 internal/strconv.numDigits
theorem cl172 : Callable Tryz.prog 172 := callable_of Tryz.func172 (by kernel_rfl) (by kernel_rfl)
-- 173 internal/strconv.formatBase10
theorem cl173 : Callable Tryz.prog 173 := callable_of Tryz.func173 (by kernel_rfl) (by kernel_rfl)
-- 174 internal/strconv.formatBits
end Go.Proofs.YtlfehnnmpkohkaaGreatDoor
/- Chapter 09: the library's numerals, as contracts. -/
namespace Go.Proofs.YtlfehnnmpkohkaaGreatDoor
open Go Go.SL Go.Lib Go.Sort
abbrev tabC : List Value := pow10Tab.map fun z => Value.int .u64 z
/-- The table of the powers of ten. -/
abbrev G3 : A := BlkR 1 208 tabC
theorem tab_is {L : List A} (h : Has L G3) {w : World} {O : Perm} (hs : Stars L w O) : TabIs Tryz.prog w "internal/strconv.uint64pow10" .u64 pow10Tab := by
  obtain ⟨_, fz, hh⟩ := h w O hs
  have hg : Tryz.prog.globalNamed "internal/strconv.uint64pow10" = some 1 := by kernel_rfl
  unfold TabIs World.var?
  rw [hg]
  show (match w.heap[1]? with | some (.cells cs _ _) => some cs | _ => none) = _
  rw [hh]
theorem numDigits_con (u : Nat) (h1 : 1 ≤ u) (h2 : u < 18446744073709551616) : Con Tryz.prog 172 [.int .u64 u] [G3] (γ := Unit) (fun _ => .int .i64 (nDigits u)) (fun _ => True) (fun _ => []) :=
  con_pure fun w _ hs => Tryz.internal_strconv_numDigits u h1 h2 w (tab_is Has.here hs)
theorem small_con (i : Nat) (h : i < 100) : Con Tryz.prog 171 [.int .i64 i] [] (γ := Unit) (fun _ => .string (sB (decDigits i))) (fun _ => True) (fun _ => []) :=
  con_pure fun w _ _ => Tryz.internal_strconv_small i h w
abbrev byteV (b : UInt8) : Value := .int .u8 (b.toNat : Int)
/-- Cells that are laid over the first of others. -/
theorem put_front {n : Nat} {u v' : Nat} {dk : Array UInt8} {Z : List Value} (hn : n = nDigits u) (hf : FmtInv n u 0 v' dk) (h : n ≤ Z.length) : putCells byteV 0 dk Z.toArray = ((decDigits u).map byteV ++ Z.drop n).toArray := by
  have hdl := decDigits_length u
  have hdk : dk.size = n := hf.size
  apply Array.ext_getElem?
  intro j
  rw [putCells, Array.getElem?_mapIdx, List.getElem?_toArray, List.getElem?_toArray]
  by_cases hjn : j < n
  · rw [List.getElem?_append_left (by rw [List.length_map, hdl]; omega), List.getElem?_map, List.getElem?_eq_getElem (l := decDigits u) (i := j) (by rw [hdl]; omega), List.getElem?_eq_getElem (l := Z) (i := j) (by omega)]
    simp only [Option.map_some, Nat.zero_le, true_and, Nat.zero_add, hdk, Nat.sub_zero, if_pos hjn]
    rw [row_is_numeral (dk := dk) (v' := v') (by rw [← hn]; exact hf)]
  · rw [List.getElem?_append_right (by rw [List.length_map, hdl]; omega), List.getElem?_drop, List.length_map, hdl, show n + (j - nDigits u) = j by omega]
    cases Z[j]? with
    | none => rfl
    | some x => simp only [Option.map_some, Nat.zero_le, true_and, Nat.zero_add, hdk, if_neg hjn]
theorem fmt_con (b n u : Nat) (Z : List Value) (hZl : Z.length = 24) (hZ : ∀ j, j < 24 → Z[j]? = some (Value.int .u8 0)) (hn : n = nDigits u) (hu : u < 18446744073709551616) (h24 : n ≤ 24) : Con Tryz.prog 173 [.slice (some ⟨b, 0, none⟩) n 24, .int .u64 u] [Blk b 191 Z] (γ := Unit) (fun _ => .tuple #[]) (fun _ => True)
    (fun _ => [Blk b 191 ((decDigits u).map byteV ++ Z.drop n)]) := fun w O hs hd => by
  obtain ⟨O1, O2, s, ⟨hb2, hh⟩, _⟩ := hs
  have hO := s.l b
  have hsz : (Array.replicate n (0 : UInt8)).size = n := Array.size_replicate
  have hH : Holds byteV w b 0 (Array.replicate n (0 : UInt8)) := fun j hj => by
    rw [hsz] at hj
    refine ⟨?_, by simp [World.frozen?, hh]⟩
    rw [getElem!_pos _ j (by rw [hsz]; exact hj)]
    have hj2 := hZ j (by omega)
    simp only [World.cell?, hh, Nat.zero_add, List.getElem?_toArray, Array.getElem_replicate]
    rw [hj2]; rfl
  have hc := Tryz.internal_strconv_formatBase10 b 0 24 u (Array.replicate n 0) w hH (by rw [hsz, hn]; exact lt_pow_nDigits u) hu (by rw [hsz]; omega)
  rw [hsz] at hc
  refine hc.mono fun e w' ⟨he, k, v', dk, hw, hf⟩ => ?_
  have hheap : w'.heap = w.heap.modify b (onCells (putCells byteV 0 dk)) := by rw [hw]; rfl
  have hget : w'.heap[b]? = some (.cells ((decDigits u).map byteV ++ Z.drop n).toArray 191 (0, 0)) := by
    rw [hheap, Array.getElem?_modify, if_pos rfl, hh]
    show some (Obj.cells (putCells byteV 0 dk Z.toArray) 191 (0, 0)) = _
    rw [put_front hn hf (by omega)]
  have hother : ∀ k, k ≠ b → w'.heap[k]? = w.heap[k]? := fun k hk => by rw [hheap, Array.getElem?_modify, if_neg (fun h => hk h.symm)]
  refine ⟨(), O, he, trivial, ⟨O, fun _ => 0, ⟨fun _ => Nat.le_refl _, fun _ => Nat.zero_le _, fun _ _ => rfl, fun _ h => absurd h (by simp)⟩, ⟨by omega, hget⟩, trivial⟩, ⟨by rw [hw]; rfl, by rw [hw]; rfl, by rw [hw]; rfl, by rw [hheap, Array.size_modify]; exact Nat.le_refl _, fun k _ h2 => hother k fun q => by subst q; omega, fun _ _ => Nat.le_refl _, fun k h => by rw [hheap, Array.size_modify]; exact hd k h⟩⟩
end Go.Proofs.YtlfehnnmpkohkaaGreatDoor
/- Chapter 09: where a number ends, in a string from some place on. -/
namespace Go.Proofs.YtlfehnnmpkohkaaGreatDoor
open Go Go.Lib
def leftB (B : ByteArray) (k : Nat) : List UInt8 := B.data.toList.drop k
theorem leftB_len (B : ByteArray) (k : Nat) : (leftB B k).length = B.size - k := by unfold leftB; rw [List.length_drop, ba_len]
theorem leftB_get {B : ByteArray} {a j : Nat} (h : a + j < B.data.toList.length) : (leftB B a)[j]? = some (B.data.toList[a + j]) := by
  unfold leftB
  rw [List.getElem?_drop, List.getElem?_eq_getElem h]
theorem find_left {B : ByteArray} {a k : Nat} {e : UInt8} (h1 : a ≤ k) (hk : k < B.data.toList.length) (he : B.data.toList[k] = e) (hb : ∀ (j : Nat) (h : j < B.data.toList.length), a ≤ j → j < k → B.data.toList[j] ≠ e) : (leftB B a).findIdx? (· == e) = some (k - a) := by
  rw [List.findIdx?_eq_some_iff_getElem]
  have hl : k - a < (leftB B a).length := by rw [leftB_len, ← ba_len]; omega
  have hg : ∀ (j : Nat) (hj : j < (leftB B a).length), (leftB B a)[j] = B.data.toList[a + j]'(by rw [leftB_len, ← ba_len] at hj; omega) := fun j hj => by
    have := leftB_get (B := B) (a := a) (j := j) (by rw [leftB_len, ← ba_len] at hj; omega)
    rw [List.getElem?_eq_getElem hj] at this
    exact Option.some.inj this
  refine ⟨hl, ?_, fun j hj => ?_⟩
  · rw [hg _ hl]
    simp only [show a + (k - a) = k by omega, he, BEq.rfl]
  · rw [hg _ (by omega)]
    have := hb (a + j) (by rw [leftB_len, ← ba_len] at hl; omega) (by omega) (by omega)
    simpa using this
theorem find_nowhere {B : ByteArray} {a : Nat} {e : UInt8} (hb : ∀ (j : Nat) (h : j < B.data.toList.length), a ≤ j → B.data.toList[j] ≠ e) : (leftB B a).findIdx? (· == e) = none := by
  rw [List.findIdx?_eq_none_iff]
  intro x hx
  obtain ⟨j, hj, rfl⟩ := List.mem_iff_getElem.1 hx
  have hj' : a + j < B.data.toList.length := by rw [leftB_len, ← ba_len] at hj; omega
  have := leftB_get (B := B) (a := a) (j := j) hj'
  rw [List.getElem?_eq_getElem hj] at this
  rw [Option.some.inj this]
  simpa using hb (a + j) hj' (by omega)
/-- A number's value stays small. -/
theorem val_bound : ∀ (s : List UInt8) (a : Int), 0 ≤ a → 0 ≤ s.foldl stepV a ∧ s.foldl stepV a < (a + 1) * 10 ^ s.length
  | [], a, h => by simp; omega
  | b :: s, a, h => by
    have hs : 0 ≤ stepV a b ∧ stepV a b + 1 ≤ (a + 1) * 10 := by
      unfold stepV
      split <;> omega
    obtain ⟨h1, h2⟩ := val_bound s (stepV a b) hs.1
    refine ⟨h1, Int.lt_of_lt_of_le h2 ?_⟩
    rw [List.length_cons, Int.pow_succ, Int.mul_comm (10 ^ s.length) 10, ← Int.mul_assoc]
    exact Int.mul_le_mul_of_nonneg_right hs.2 (Int.pow_nonneg (by decide))
theorem val_small {s : List UInt8} (h : s.length ≤ 14) : 0 ≤ valR s ∧ valR s < 100000000000000 := by
  obtain ⟨h1, h2⟩ := val_bound s 0 (by decide)
  refine ⟨h1, Int.lt_of_lt_of_le h2 ?_⟩
  have h3 : 10 ^ s.length ≤ 10 ^ 14 := Nat.pow_le_pow_right (by decide) h
  have e : (10 : Int) ^ s.length = ((10 ^ s.length : Nat) : Int) := by simp
  have e2 : (10 : Nat) ^ 14 = 100000000000000 := by decide
  rw [e]; omega
theorem valR_next {l : List UInt8} {k : Nat} (hk : k < l.length) : valR (l.take (k + 1)) = stepV (valR (l.take k)) l[k] := by
  unfold valR
  rw [List.take_succ_eq_append_getElem hk, List.foldl_append]; rfl
end Go.Proofs.YtlfehnnmpkohkaaGreatDoor
/- Chapter 09: the states of the document's reader: ends of a string. -/
namespace Go.Proofs.YtlfehnnmpkohkaaGreatDoor
open Go Go.Lib
def EndsB (B : ByteArray) (s : St9) : Prop := ∃ k, k ≤ B.size ∧ s.1 = leftB B k
/-- Where the document stands, when this much is left. -/
def plc (B : ByteArray) (s : St9) : Nat := B.size - s.1.length
theorem EndsB.at {B : ByteArray} {s : St9} (h : EndsB B s) : plc B s ≤ B.size ∧ s.1 = leftB B (plc B s) ∧ s.1.length = B.size - plc B s := by
  obtain ⟨k, hk, e⟩ := h
  have hp : plc B s = k := by unfold plc; rw [e, leftB_len]; omega
  rw [hp]
  exact ⟨hk, e, by rw [e, leftB_len]⟩
theorem EndsB.eta {B : ByteArray} {s : St9} (h : EndsB B s) : s = (leftB B (plc B s), s.2) := Prod.ext h.at.2.1 rfl
theorem EndsB.drop {B : ByteArray} {s : St9} (h : EndsB B s) {m : Nat} (hm : m ≤ s.1.length) (b : Bool) : EndsB B (s.1.drop m, b) ∧ plc B (s.1.drop m, b) = plc B s + m := by
  obtain ⟨k, hk, e⟩ := h
  have hl : s.1.length = B.size - k := by rw [e, leftB_len]
  refine ⟨⟨k + m, by omega, ?_⟩, ?_⟩
  · show s.1.drop m = _
    rw [e]; unfold leftB; rw [List.drop_drop]
  · unfold plc
    show B.size - (s.1.drop m).length = _
    rw [List.length_drop]; omega
theorem EndsB.goes {α : Type} {take : St9 → St9 × α} (hg : GoesP take) {B : ByteArray} {s : St9} (h : EndsB B s) : EndsB B (take s).1 := by
  obtain ⟨j, hj, e⟩ := hg s
  obtain ⟨k, hk, e2⟩ := (h.drop hj (take s).1.2).1
  exact ⟨k, hk, e.trans e2⟩
theorem EndsB.start (B : ByteArray) (b : Bool) : EndsB B (B.data.toList, b) ∧ plc B (B.data.toList, b) = 0 := ⟨⟨0, Nat.zero_le _, rfl⟩, by
  unfold plc
  show B.size - B.data.toList.length = 0
  rw [ba_len]; omega⟩
theorem numS_val {s : List UInt8} {n : Int} (h : numS s = some n) : n = valS s := by
  unfold numS at h
  split at h
  · exact (Option.some.inj h).symm
  · cases h
theorem num9_bound {e : UInt8} {s : St9} {n : Int} {m : Nat} (h : num9 e s = some (n, m)) : 0 < m ∧ m ≤ s.1.length ∧ -100000000000000 < n ∧ n < 100000000000000 ∧ s.2 = false := by
  unfold num9 at h
  split at h
  · cases h
  · rename_i hb
    rw [numberR_full] at h
    cases hf : s.1.findIdx? (· == e) with
    | none => rw [hf] at h; cases h
    | some k =>
      rw [hf] at h
      obtain ⟨h1, _, _⟩ := List.findIdx?_eq_some_iff_getElem.1 hf
      dsimp only at h
      split at h
      · cases h
      · rename_i hk
        obtain ⟨n', hn, e'⟩ := Option.map_eq_some_iff.1 h
        cases e'
        have hs := val_small (s := s.1.take k) (by rw [List.length_take]; omega)
        have hv := numS_val hn
        unfold valS at hv
        refine ⟨by omega, by omega, ?_, ?_, by simpa using hb⟩
        · split at hv <;> omega
        · split at hv <;> omega
end Go.Proofs.YtlfehnnmpkohkaaGreatDoor
/- Chapter 09: the library's readers of numbers, as contracts. -/
namespace Go.Proofs.YtlfehnnmpkohkaaGreatDoor
open Go Go.SL Go.Lib Go.RowKit
theorem bytesOf_self (l : List UInt8) : bytesOf (l.map fun b => (b.toNat : Int)) = l := by
  unfold bytesOf
  rw [List.map_map]
  conv => rhs; rw [← List.map_id l]
  exact List.map_congr_left fun b _ => by simp
section
open Go.Shelf
set_option maxHeartbeats 1000000 in
set_option maxRecDepth 100000 in
/-- bytes.IndexByte of no bytes, whatever room there is said to be. -/
theorem indexByte_nilc {P : Program} {ρ : Ren} (L : Lays.n187 P ρ) (c : Nat) (cv : Int) (w : World) :
    Calls P (ρ.f 187) #[.slice none 0 c, .int .u8 cv] w fun e w' => e = .returned (.int .i64 (-1)) ∧ w' = w := by
  have t3 := L.t3; have t5 := L.t5; have t37 := L.t37
  have a3 := L.a3; have a5 := L.a5; have a37 := L.a37
  have mixed := L.mixed; have z3 := L.z3; have v3 := L.v3; have z5 := L.z5; have v5 := L.v5; have z37 := L.z37; have v37 := L.v37
  go_enter L.f187, Body.n187_ntmps ρ
  go_wp2
  rw [run_callFunc_extern L.f255 (by kernel_rfl) (by kernel_rfl) (by kernel_rfl) (e := Extern.BytealgIndexByte.indexByte) (by kernel_rfl), Lib.run_indexByteNil w 0 c cv]
  simp only [Result.andThen]
  rw [Oper.upon_value]
  go_wp2
  go_ret
  exact ⟨rfl, rfl⟩
end
theorem indexByte_con (v : Value) (l : List UInt8) (e : UInt8) : Con Tryz.prog 137 [v, .int .u8 e.toNat] [Sl eByte v l] (γ := Unit) (fun _ => .int .i64 (indexByte l e)) (fun _ => True) (fun _ => []) :=
  con_pure fun w O hs => by
    obtain ⟨O1, _, _, h, _⟩ := hs
    have hcv : (((e.toNat : Nat) : Int)).toNat.toUInt8 = e := by simp
    obtain ⟨a, cap, rfl, h1, h2, h3⟩ := h
    have some_case : ∀ p : Addr, (∀ i, i < l.length → w.cell? (p.add i) = some (.int .u8 ((l.map fun b => (b.toNat : Int)).getD i 0))) → Calls Tryz.prog 137 [Value.slice (some p) l.length cap, .int .u8 e.toNat].toArray w fun r w' => r = .returned (.int .i64 (indexByte l e)) ∧ w' = w := fun p hc => by
      have := Go.Proofs.Any.bytes_IndexByte_at Tryz.lays187 p l.length cap (l.map fun b => (b.toNat : Int)) e.toNat w (by simp) hc
      rwa [bytesOf_self, hcv] at this
    rcases h3 with ⟨hn, rfl⟩ | ⟨b, off, cs, rfl, _, hr, hc⟩
    · cases a with
      | none => exact indexByte_nilc Tryz.lays187 cap e.toNat w
      | some p => exact some_case p fun i hi => absurd hi (Nat.not_lt_zero _)
    · rw [eByte_rows] at hr
      subst hr
      refine some_case ⟨b, off, none⟩ fun i hi => ?_
      rw [add_plain]
      refine hc i _ ?_
      rw [List.getElem?_map, List.getElem?_eq_getElem hi]; simp [List.getD_eq_getElem?_getD, List.getElem?_eq_getElem hi]
theorem itoa_con (n : Int) (h : -9223372036854775808 ≤ n ∧ n ≤ 9223372036854775807) : Con Tryz.prog 139 [.int .i64 n] [G3] (γ := Unit) (fun _ => .string (sB (itoa n))) (fun _ => True) (fun _ => []) :=
  con_below fun w _ hs => (Tryz.strconv_Itoa n h.1 h.2 w (tab_is Has.here hs)).mono fun e w' ⟨he, k, os, hw⟩ => ⟨⟨(), he, trivial⟩, by
    subst hw
    exact ⟨rfl, rfl, rfl, by simp [Go.Sort.grow, World.drewN], fun j hj => by
      simp only [Go.Sort.grow, World.drewN]
      rw [Array.getElem?_append_left hj]⟩⟩
/-- What the first error variable holds. -/
abbrev G1 (te : TypeId) (pe : Value) : A := BlkR 2 165 [.iface te pe]
theorem below_bytes (w : World) (e : TypeId) (t : ByteArray) : Below w.heap.size w (bytesWorld w e t) := by
  have h1 : Below w.heap.size w (w.drew.alloc (.cells (bytesCells w e t) e)) := ((Below.refl _ _).drew).alloc (Nat.le_refl _) _
  unfold bytesWorld World.freeze
  split
  · exact h1
  · exact h1.trans ⟨rfl, rfl, rfl, by simp, fun k hk => by
      show (Array.modify _ _ _)[k]? = _
      rw [Array.getElem?_modify, if_neg (show ¬ (w.heap.size = k) from by omega)]⟩
theorem atoi_con (s : List UInt8) (te : TypeId) (pe : Value) (hs : s.length ≤ 18) : Con Tryz.prog 138 [.string (sB s)] [G1 te pe] (γ := Int × Value) (fun g => .tuple #[.int .i64 g.1, g.2]) (fun g => (atoi s = some g.1 ∧ g.2 = .nilIface) ∨ (atoi s = none ∧ ∃ tp p, g.2 = .iface tp p)) (fun _ => []) :=
  con_below fun w _ hst => by
    have hsz := sB_size s
    have hl := sB_list s
    cases ha : atoi s with
    | some n =>
      exact (Tryz.strconv_Atoi (sB s) n (by omega) (by rw [hl]; exact ha) w).mono fun e w' ⟨he, t, hw⟩ => ⟨⟨(n, .nilIface), he, .inl ⟨rfl, rfl⟩⟩, by subst hw; exact below_bytes w 5 t⟩
    | none =>
      have hc : w.cell? ⟨2, 0, none⟩ = some (.iface te pe) := has_cell (T := 165) (cs := [.iface te pe]) (off := 0) Has.here rfl hst
      exact (Tryz.strconv_Atoi_syntax (sB s) (by omega) (by rw [hl, atoiAll_short s hs, ha]) (.iface te pe) w hc (.inr ⟨te, pe, rfl⟩)).mono fun e w' ⟨N, he, _, _, hb⟩ => ⟨⟨(0, .iface 199 (.pointer (some ⟨N, 0, none⟩))), he, .inr ⟨rfl, _, _, rfl⟩⟩, hb⟩
end Go.Proofs.YtlfehnnmpkohkaaGreatDoor
/- Chapter 09: the document's numerals, numbers, flags and texts. -/
namespace Go.Proofs.YtlfehnnmpkohkaaGreatDoor
open Go Go.SL Go.Lib
theorem nDig_le (u : Nat) : nDigits u ≤ u + 1 := by
  induction u using Nat.strongRecOn with
  | _ u ih =>
    by_cases h : u < 10
    · rw [nDigits_small h]; omega
    · rw [nDigits_big h]
      have := ih (u / 10) (by omega)
      omega
theorem itoa_le (n : Int) : (itoa n).length ≤ n.natAbs + 2 := by
  unfold itoa
  split
  · rw [List.length_cons, decDigits_length]
    have := nDig_le n.natAbs
    omega
  · rw [decDigits_length]
    have := nDig_le n.toNat
    omega
attribute [local irreducible] Cfg Kont StepK Val Con Qops Any Sl Own Blk BlkR Rd Pu ExA AllA Has Pick Ent Elem Beside Callable TI Lone OwnO AndA
set_option maxRecDepth 100000 in
theorem digits_con : ∀ (k : Nat) (n : Int), (if n < 0 then n.natAbs + 1 else n.natAbs) < k → -1152921504606846976 ≤ n → n ≤ 1152921504606846976 →
    Con Tryz.prog 113 [.int .i64 n] [] (γ := Unit) (fun _ => .string (sB (itoa n))) (fun _ => True) (fun _ => []) := by
  intro k
  induction k with
  | zero => intro n h; exact absurd h (Nat.not_lt_zero _)
  | succ k IH0 =>
    intro n hk h1 h2
    refine con_of Tryz.func113 rfl (dd rfl) fun w0 O0 => ?_
    refine c_seq (c_region ?_)
    refine oV vA ?_
    refine o_nil (c_seq (c_seq (c_region ?_)))
    refine oV vM ?_
    refine oV (v_lt rfl rfl) ?_
    refine o_nil ?_
    refine c_cond_p rfl (fun hn => ?_) (fun hn => ?_)
    · have hl := itoa_le (0 - n)
      have hz := sB_size (itoa (0 - n))
      have h45 : (⟨#[45]⟩ : ByteArray).size = 1 := rfl
      refine c_seq (c_region ?_)
      refine oV vM ?_
      refine oV ((by first | exact v_sub64 rfl rfl (by omega) | exact v_sub rfl rfl)) ?_
      refine oC cl113 (IH0 (0 - n) (by rw [if_neg (by omega)]; rw [if_pos hn] at hk; omega) (by omega) (by omega)) fun _ _ => ?_
      refine oV (v_cat rfl rfl (by first | omega | (simp only [ByteArray.size_append]; omega))) ?_
      refine oV vA ?_
      refine o_nil ?_
      refine c_ret1 Tryz.func113 rfl rfl fun w O hS => ?_
      exact ⟨(), by rw [itoa_neg hn, show (45 :: itoa (0 - n)) = [45] ++ itoa (0 - n) from rfl, ← sB_app]; rfl, trivial, trivial⟩
    · rw [if_neg hn] at hk
      refine c_skip (c_seq (c_seq (c_region ?_)))
      refine oV vM ?_
      refine oV (v_gt rfl rfl) ?_
      refine o_nil ?_
      refine c_cond_p rfl (fun hg => ?_) (fun hg => ?_)
      · have hq : IntKind.i64.wrap (n.tdiv 10) = n / 10 := by
          rw [Int.tdiv_eq_ediv_of_nonneg (by omega), IntKind.wrap_i64]; omega
        have hm : n.tmod 10 = n % 10 := Int.tmod_eq_emod_of_nonneg (by omega)
        have hl1 := itoa_le (n / 10)
        have hl2 := itoa_le (n % 10)
        have hz1 := sB_size (itoa (n / 10))
        have hz2 := sB_size (itoa (n % 10))
        refine c_seq (c_region ?_)
        refine oV vM ?_
        refine oV (v_quo rfl rfl (by omega)) ?_
        rw [hq]
        refine oC cl113 (IH0 (n / 10) (by rw [if_neg (by omega)]; omega) (by omega) (by omega)) fun _ _ => ?_
        refine oV vM ?_
        refine oV (v_rem rfl rfl (by omega)) ?_
        rw [hm]
        refine oC cl113 (IH0 (n % 10) (by rw [if_neg (by omega)]; omega) (by omega) (by omega)) fun _ _ => ?_
        refine oV (v_cat rfl rfl (by first | omega | (simp only [ByteArray.size_append]; omega))) ?_
        refine oV vA ?_
        refine o_nil ?_
        refine c_ret1 Tryz.func113 rfl rfl fun w O hS => ?_
        exact ⟨(), by rw [itoa_more hg, ← sB_app], trivial, trivial⟩
      · have hb : IntKind.u8.wrap (48 + n) = ((UInt8.ofNat (48 + n.toNat)).toNat : Int) := by
          rw [ofNat_dig (by omega), IntKind.wrap_u8]; omega
        refine c_skip (c_seq (c_region ?_))
        refine oV vM ?_
        refine oV ((by first | exact v_add64 rfl rfl (by omega) | exact v_add rfl rfl)) ?_
        refine oV (v_conv_int Tryz.underlying3 Tryz.underlying5 rfl) ?_
        rw [hb]
        refine o_step (s_buildSlice Tryz.underlying38 ti5 rfl rfl rfl (by decide) (by decide) (beside_byte [UInt8.ofNat (48 + n.toNat)]) rfl rfl (dd rfl) fun v1 => ?_)
        refine oV (v_conv_bytes Tryz.underlying38 Tryz.underlying5 Tryz.underlying9 rfl (hX (by repeat constructor))) ?_
        refine oV vA ?_
        refine o_nil ?_
        refine c_ret1 Tryz.func113 rfl rfl fun w O hS => ?_
        exact ⟨(), by rw [itoa_one (by omega) (by omega)]; rfl, trivial, trivial⟩
theorem numB_eq {n c : Int} (h : clamp9 n = c) : sB (itoa c) ++ ⟨#[59]⟩ = sB (numB n) := by
  unfold numB
  rw [h, ← sB_app]; rfl
set_option maxRecDepth 100000 in
theorem numRef_con (n : Int) : Con Tryz.prog 56 [.int .i64 n] [] (γ := Unit) (fun _ => .string (sB (numB n))) (fun _ => True) (fun _ => []) := by
  refine con_of Tryz.func56 rfl (dd rfl) fun w0 O0 => ?_
  refine c_seq (c_region ?_)
  refine oV vA ?_
  refine o_nil (c_seq (c_seq (c_region ?_)))
  refine oV vM ?_
  refine oV (v_gt rfl rfl) ?_
  refine o_nil ?_
  refine c_cond_p rfl (fun h1 => ?_) (fun h1 => ?_)
  · refine c_region ?_
    refine oV vA ?_
    refine o_nil (c_seq (c_seq (c_region ?_)))
    refine oV vM ?_
    refine oV (v_lt rfl rfl) ?_
    refine o_nil ?_
    refine c_cond_f rfl ?_
    refine c_skip (c_seq (c_region ?_))
    refine oV vM ?_
    have hl := itoa_le (1099511627776 : Int)
    have hz := sB_size (itoa (1099511627776 : Int))
    have h59 : (⟨#[59]⟩ : ByteArray).size = 1 := rfl
    refine oC cl113 (digits_con (((1099511627776 : Int)).natAbs + 2) (1099511627776 : Int) (by split <;> omega) (by omega) (by omega)) fun _ _ => ?_
    refine oV (v_cat rfl rfl (by first | omega | (simp only [ByteArray.size_append]; omega))) ?_
    refine oV vA ?_
    refine o_nil ?_
    refine c_ret1 Tryz.func56 rfl rfl fun w O hS => ?_
    exact ⟨(), congrArg Value.string (numB_eq (by unfold clamp9 far9; omega)), trivial, trivial⟩
  · refine c_skip (c_seq (c_seq (c_region ?_)))
    refine oV vM ?_
    refine oV (v_lt rfl rfl) ?_
    refine o_nil ?_
    refine c_cond_p rfl (fun h2 => ?_) (fun h2 => ?_)
    · refine c_region ?_
      refine oV vA ?_
      refine o_nil (c_seq (c_region ?_))
      refine oV vM ?_
      have hl := itoa_le (-1099511627776 : Int)
      have hz := sB_size (itoa (-1099511627776 : Int))
      have h59 : (⟨#[59]⟩ : ByteArray).size = 1 := rfl
      refine oC cl113 (digits_con (((-1099511627776 : Int)).natAbs + 2) (-1099511627776 : Int) (by split <;> omega) (by omega) (by omega)) fun _ _ => ?_
      refine oV (v_cat rfl rfl (by first | omega | (simp only [ByteArray.size_append]; omega))) ?_
      refine oV vA ?_
      refine o_nil ?_
      refine c_ret1 Tryz.func56 rfl rfl fun w O hS => ?_
      exact ⟨(), congrArg Value.string (numB_eq (by unfold clamp9 far9; omega)), trivial, trivial⟩
    · refine c_skip (c_seq (c_region ?_))
      refine oV vM ?_
      have hl := itoa_le n
      have hz := sB_size (itoa n)
      have h59 : (⟨#[59]⟩ : ByteArray).size = 1 := rfl
      refine oC cl113 (digits_con ((n).natAbs + 2) n (by split <;> omega) (by omega) (by omega)) fun _ _ => ?_
      refine oV (v_cat rfl rfl (by first | omega | (simp only [ByteArray.size_append]; omega))) ?_
      refine oV vA ?_
      refine o_nil ?_
      refine c_ret1 Tryz.func56 rfl rfl fun w O hS => ?_
      exact ⟨(), congrArg Value.string (numB_eq (by unfold clamp9 far9; omega)), trivial, trivial⟩
set_option maxRecDepth 100000 in
theorem flagRef_con (b : Bool) : Con Tryz.prog 75 [.bool b] [] (γ := Unit) (fun _ => .string (sB (flagB b))) (fun _ => True) (fun _ => []) := by
  rw [flag_eq]
  refine con_of Tryz.func75 rfl (dd rfl) fun w0 O0 => ?_
  refine c_seq (c_region ?_)
  refine oV vA ?_
  refine o_nil (c_seq (c_seq (c_region ?_)))
  refine oV vM ?_
  refine o_nil ?_
  refine c_cond rfl (fun h => ?_) (fun h => ?_)
  · subst h
    refine c_seq (c_region ?_)
    refine oV vA ?_
    refine o_nil ?_
    refine c_ret1 Tryz.func75 rfl rfl fun w O hS => ?_
    exact ⟨(), rfl, trivial, trivial⟩
  · subst h
    refine c_skip (c_seq (c_region ?_))
    refine oV vA ?_
    refine o_nil ?_
    refine c_ret1 Tryz.func75 rfl rfl fun w O hS => ?_
    exact ⟨(), rfl, trivial, trivial⟩
set_option maxRecDepth 100000 in
theorem textRef_con (s : ByteArray) (hs : s.size ≤ 140737488351232) : Con Tryz.prog 57 [.string s] [] (γ := Unit) (fun _ => .string (sB (textB s))) (fun _ => True) (fun _ => []) := by
  have hl := itoa_le s.size
  have hz := sB_size (itoa s.size)
  have h58 : (⟨#[58]⟩ : ByteArray).size = 1 := rfl
  have h44 : (⟨#[44]⟩ : ByteArray).size = 1 := rfl
  have h1 : (sB (itoa s.size) ++ ⟨#[58]⟩).size = (sB (itoa s.size)).size + 1 := ByteArray.size_append
  have h2 : (sB (itoa s.size) ++ ⟨#[58]⟩ ++ s).size = (sB (itoa s.size) ++ ⟨#[58]⟩).size + s.size := ByteArray.size_append
  refine con_of Tryz.func57 rfl (dd rfl) fun w0 O0 => ?_
  refine c_seq (c_region ?_)
  refine oV vA ?_
  refine o_nil (c_seq (c_region ?_))
  refine oV vM ?_
  refine oV (v_len_str Tryz.underlying9 rfl) ?_
  refine oC cl113 (digits_con (s.size + 2) s.size (by split <;> omega) (by omega) (by omega)) fun _ _ => ?_
  refine oV (v_cat rfl rfl (by first | omega | (simp only [ByteArray.size_append]; omega))) ?_
  refine oV vM ?_
  refine oV (v_cat rfl rfl (by first | omega | (simp only [ByteArray.size_append]; omega))) ?_
  refine oV (v_cat rfl rfl (by first | omega | (simp only [ByteArray.size_append]; omega))) ?_
  refine oV vA ?_
  refine o_nil ?_
  refine c_ret1 Tryz.func57 rfl rfl fun w O hS => ?_
  exact ⟨(), congrArg Value.string (sB_text s).symm, trivial, trivial⟩
end Go.Proofs.YtlfehnnmpkohkaaGreatDoor
/- Chapter 09: the document's bytes of texts, changes and patches. -/
namespace Go.Proofs.YtlfehnnmpkohkaaGreatDoor
open Go Go.SL Go.Lib
abbrev ePr : Enc Pr9 := ePair (eInt .i64) (ePair eStr (ePair eStr (ePair (eInt .i64) (ePair (eSl eStr) (eSl eStr)))))
abbrev ePt : Enc Pt9 := ePair (eInt .i64) (ePair eStr (ePair (eSl (eInt .i64)) (eSl ePr)))
/-- Sizes of what is written: far below what wraps. -/
def TextsFit (l : List ByteArray) : Prop := l.length ≤ 1000000 ∧ ∀ x ∈ l, x.size ≤ 1000000
theorem textB_len (s : ByteArray) : (textB s).length ≤ 2 * s.size + 4 := by
  unfold textB
  simp only [List.length_append, List.length_cons, List.length_nil, ba_len]
  have := itoa_le s.size
  omega
theorem flat_le {α : Type} {put : α → List UInt8} {m : Nat} : ∀ {l : List α}, (∀ x ∈ l, (put x).length ≤ m) → ((l.map put).flatten).length ≤ l.length * m
  | [], _ => by simp
  | x :: l, h => by
    have h1 := h x (by simp)
    have h2 := flat_le (put := put) (m := m) (l := l) fun y hy => h y (List.mem_cons_of_mem _ hy)
    rw [List.map_cons, List.flatten_cons, List.length_append, List.length_cons, Nat.add_mul, Nat.one_mul]
    omega
theorem numB_len (n : Int) : (numB n).length ≤ 15 := by
  unfold numB
  rw [List.length_append]
  have := itoa_len (clamp_far n)
  simp; omega
attribute [local irreducible] Cfg Kont StepK Val Con Qops Any Sl Own Blk BlkR Rd Pu ExA AllA Has Pick Ent Elem Beside Callable TI Lone OwnO AndA
set_option maxRecDepth 100000 in
theorem textsRef_con (v : Value) (l : List ByteArray) (hl : TextsFit l) : Con Tryz.prog 59 [v] [Sl eStr v l] (γ := Unit) (fun _ => .string (sB (textsB l))) (fun _ => True) (fun _ => []) := by
  obtain ⟨hl1, hl2⟩ := hl
  refine con_of Tryz.func59 rfl (dd rfl) fun w0 O0 => ?_
  refine c_seq (c_region ?_)
  refine oV vA ?_
  refine o_nil (c_seq (c_region ?_))
  refine oV vM ?_
  refine oV ((by first | exact v_len_form Tryz.underlying23 rfl | exact v_len_sl Tryz.underlying23 rfl (hX (by repeat constructor)))) ?_
  refine o_step (s_callf_keep cl56 (numRef_con (l.length : Int)) rfl (dd rfl) (rX (by repeat constructor)) (fun _ => sX) (fun _ _ => ?_))
  refine oV vA ?_
  refine o_nil (c_seq (c_seq (c_region ?_)))
  refine oV vA ?_
  refine o_nil (c_block ?_)
  rw [show sB (numB l.length) = sB (numB l.length ++ ((l.take 0).map textB).flatten) by simp]
  refine c_loopR (γ := Nat) [(0, _), (2, _)] (fun k => l.length - k) (fun k => k ≤ l.length) (fun k => [(4, .int .i64 k), (3, .string (sB (numB l.length ++ ((l.take k).map textB).flatten)))]) (fun _ => [Sl eStr v l]) (0) (Nat.zero_le _) (by repeat (first | exact trivial | refine ⟨rfl, ?_⟩)) (eX (by repeat constructor)) ?_
  rintro k hk IH
  try dsimp only [List.cons_append, List.nil_append]
  refine c_seq (c_seq (c_region ?_))
  iterate 2 refine oV vM ?_
  refine oV ((by first | exact v_len_form Tryz.underlying23 rfl | exact v_len_sl Tryz.underlying23 rfl (hX (by repeat constructor)))) ?_
  refine oV (v_lt rfl rfl) ?_
  refine o_nil ?_
  refine c_cond_p rfl (fun hlt => ?_) (fun hlt => ?_)
  · have hk' : k < l.length := by omega
    have ht := textB_len (l[k]'hk')
    have hz1 := sB_size (numB l.length ++ ((l.take k).map textB).flatten)
    have hz2 := sB_size (textB (l[k]'hk'))
    have hn := numB_len l.length
    have hfl := flat_le (put := textB) (m := 2000004) (l := l.take k) fun x hx => by
      have := textB_len x
      have := hl2 x (List.mem_of_mem_take hx)
      omega
    have hkl : (l.take k).length ≤ 1000000 := by rw [List.length_take]; omega
    have hm : (l.take k).length * 2000004 ≤ 1000000 * 2000004 := Nat.mul_le_mul_right _ hkl
    rw [List.length_append] at hz1
    have hs := hl2 _ (List.getElem_mem hk')
    refine c_skip (c_seq (c_block (c_region ?_)))
    iterate 3 refine oV vM ?_
    refine oV ((by first | exact v_indexAddrN Tryz.underlying23 ti9 rfl rfl (hX (by repeat constructor)) (by omega) | exact v_indexAddr Tryz.underlying23 ti9 rfl rfl (hX (by repeat constructor)) (by omega))) ?_
    refine oV (v_load_str lone9 rfl (by repeat (first | exact Elem.sl (List.getElem?_eq_getElem (by omega)) | exact Elem.own (List.getElem?_eq_getElem (by omega)) | exact Elem.ownO (List.getElem?_eq_getElem (by omega)) | apply Elem.there))) ?_
    refine o_step (s_callf_keep cl57 (textRef_con (l[k]'hk') (by omega)) rfl (dd rfl) (rX (by repeat constructor)) (fun _ => sX) (fun _ _ => ?_))
    refine oV (v_cat rfl rfl (by first | omega | (simp only [ByteArray.size_append]; omega))) ?_
    refine oV vA ?_
    refine o_nil (c_inBlock (c_region ?_))
    refine oV vM ?_
    refine oV ((by first | exact v_add64 rfl rfl (by omega) | exact v_add rfl rfl)) ?_
    refine oV vA ?_
    refine o_nil ?_
    rw [sB_app, List.append_assoc, ← flat_next textB hk']
    refine cU (IH (k + 1) (by first | omega | (dsimp only; omega)) (by omega))
  · have hke : k = l.length := by omega
    refine c_exit rfl ?_
    refine c_seq (c_region ?_)
    refine oV vM ?_
    refine oV vA ?_
    refine o_nil ?_
    refine c_ret1 Tryz.func59 rfl rfl fun w O hS => ?_
    exact ⟨(), by rw [hke, List.take_length]; rfl, trivial, trivial⟩
/-- Sizes of a change. -/
def PrFit (p : Pr9) : Prop := p.2.1.size ≤ 1000000 ∧ p.2.2.1.size ≤ 1000000 ∧ TextsFit p.2.2.2.2.1 ∧ TextsFit p.2.2.2.2.2
theorem textsB_len {l : List ByteArray} (h : TextsFit l) : (textsB l).length ≤ 2000004000015 := by
  have hfl := flat_le (put := textB) (m := 2000004) (l := l) fun x hx => by
    have := textB_len x
    have := h.2 x hx
    omega
  have hm : l.length * 2000004 ≤ 1000000 * 2000004 := Nat.mul_le_mul_right _ h.1
  have hn := numB_len l.length
  unfold textsB manyB
  rw [List.length_append]
  omega
set_option maxRecDepth 100000 in
theorem primRef_con (p : Pr9) (ov wv : Value) (hp : PrFit p) : Con Tryz.prog 114 [.agg #[.int .i64 p.1, .string p.2.1, .string p.2.2.1, .int .i64 p.2.2.2.1, ov, wv]] [Sl eStr ov p.2.2.2.2.1, Sl eStr wv p.2.2.2.2.2] (γ := Unit) (fun _ => .string (sB (primB p))) (fun _ => True) (fun _ => []) := by
  obtain ⟨hn, ht, ho, hw⟩ := hp
  have s1 := sB_size (numB p.1)
  have s2 := sB_size (textB p.2.1)
  have s3 := sB_size (textB p.2.2.1)
  have s4 := sB_size (numB p.2.2.2.1)
  have s5 := sB_size (textsB p.2.2.2.2.1)
  have s6 := sB_size (textsB p.2.2.2.2.2)
  have l1 := numB_len p.1
  have l2 := textB_len p.2.1
  have l3 := textB_len p.2.2.1
  have l4 := numB_len p.2.2.2.1
  have l5 := textsB_len ho
  have l6 := textsB_len hw
  refine con_of Tryz.func114 rfl (dd rfl) fun w0 O0 => ?_
  refine c_seq (c_region ?_)
  refine o_step (s_box rfl (dd rfl) (fun b1 => ?_))
  refine oV vA ?_
  refine o_nil (c_seq ?_)
  refine c_held [BlkR b1 129 [.int .i64 p.1, .string p.2.1, .string p.2.2.1, .int .i64 p.2.2.2.1, ov, wv]] rfl ?_
  refine aT 0 rfl (vF 0 Tryz.underlying129 ti3) ?_
  refine aT 1 rfl (vL lone3) ?_
  refine aT 3 rfl (vF 1 Tryz.underlying129 ti9) ?_
  refine aT 4 rfl (vL lone9) ?_
  refine aT 7 rfl (vF 2 Tryz.underlying129 ti9) ?_
  refine aT 8 rfl (vL lone9) ?_
  refine aT 11 rfl (vF 3 Tryz.underlying129 ti3) ?_
  refine aT 12 rfl (vL lone3) ?_
  refine aT 15 rfl (vF 4 Tryz.underlying129 ti23) ?_
  refine aT 16 rfl (vL lone23) ?_
  refine aT 19 rfl (vF 5 Tryz.underlying129 ti23) ?_
  refine aT 20 rfl (vL lone23) ?_
  refine aO 2 rfl (s_callf_keep cl56 (numRef_con p.1) rfl (dd rfl) (rX (by repeat constructor)) (fun _ => sX) (fun _ _ => aK ?_))
  refine aO 5 rfl (s_callf_keep cl57 (textRef_con p.2.1 (by omega)) rfl (dd rfl) (rX (by repeat constructor)) (fun _ => sX) (fun _ _ => aK ?_))
  refine aT 6 rfl (v_cat rfl rfl (by first | omega | (simp only [ByteArray.size_append]; omega))) ?_
  refine aO 9 rfl (s_callf_keep cl57 (textRef_con p.2.2.1 (by omega)) rfl (dd rfl) (rX (by repeat constructor)) (fun _ => sX) (fun _ _ => aK ?_))
  refine aT 10 rfl (v_cat rfl rfl (by first | omega | (simp only [ByteArray.size_append]; omega))) ?_
  refine aO 13 rfl (s_callf_keep cl56 (numRef_con p.2.2.2.1) rfl (dd rfl) (rX (by repeat constructor)) (fun _ => sX) (fun _ _ => aK ?_))
  refine aT 14 rfl (v_cat rfl rfl (by first | omega | (simp only [ByteArray.size_append]; omega))) ?_
  refine aO 17 rfl (s_callf cl59 (textsRef_con ov p.2.2.2.2.1 ho) rfl (dd rfl) (pXs (by repeat constructor)) (fun _ _ => aK ?_))
  refine aT 18 rfl (v_cat rfl rfl (by first | omega | (simp only [ByteArray.size_append]; omega))) ?_
  refine aO 21 rfl (s_callf cl59 (textsRef_con wv p.2.2.2.2.2 hw) rfl (dd rfl) (pXs (by repeat constructor)) (fun _ _ => aK ?_))
  refine aT 22 rfl (v_cat rfl rfl (by first | omega | (simp only [ByteArray.size_append]; omega))) ?_
  refine aT 23 rfl vA ?_
  refine a_done (by kernel_rfl) ?_ _
  refine c_ret1 Tryz.func114 rfl rfl fun w O hS => ?_
  exact ⟨(), by unfold primB; rw [← sB_app, ← sB_app, ← sB_app, ← sB_app, ← sB_app], trivial, trivial⟩
end Go.Proofs.YtlfehnnmpkohkaaGreatDoor
/- Chapter 09: the document's bytes of rows of changes, and of patches. -/
namespace Go.Proofs.YtlfehnnmpkohkaaGreatDoor
open Go Go.SL Go.Lib
def PrsFit (l : List Pr9) : Prop := l.length ≤ 100000 ∧ ∀ p ∈ l, PrFit p
theorem primB_len {p : Pr9} (hp : PrFit p) : (primB p).length ≤ 4000020000000 := by
  obtain ⟨hn, ht, ho, hw⟩ := hp
  have l1 := numB_len p.1
  have l2 := textB_len p.2.1
  have l3 := textB_len p.2.2.1
  have l4 := numB_len p.2.2.2.1
  have l5 := textsB_len ho
  have l6 := textsB_len hw
  unfold primB
  simp only [List.length_append]
  omega
/-- A change, told apart: its lines' slices. -/
theorem pr_open {z : Pr9} (w : World) (O : Perm) (c : List Value) (h : ePr.rd w O c z) : ∃ g : Value × Value, c = [.int .i64 z.1, .string z.2.1, .string z.2.2.1, .int .i64 z.2.2.2.1, g.1, g.2] ∧ Stars [Sl eStr g.1 z.2.2.2.2.1, Sl eStr g.2 z.2.2.2.2.2] w O := by
  obtain ⟨c1, d1, rfl, h1, c2, d2, rfl, h2, c3, d3, rfl, h3, c4, d4, rfl, h4, c5, c6, rfl, ⟨u, rfl, h5⟩, v, rfl, h6⟩ := h
  have e1 : c1 = [.int .i64 z.1] := h1
  have e2 : c2 = [.string z.2.1] := h2
  have e3 : c3 = [.string z.2.2.1] := h3
  have e4 : c4 = [.int .i64 z.2.2.2.1] := h4
  subst e1; subst e2; subst e3; subst e4
  have hm : ∀ b, min (O b) 1 ≤ O b := fun b => Nat.min_le_left _ _
  have hm1 : ∀ b, min (O b) 1 ≤ 1 := fun b => Nat.min_le_right _ _
  exact ⟨(u, v), rfl, fun b => min (O b) 1, fun b => min (O b) 1, ⟨hm, hm, fun b k => absurd (Nat.le_trans k (hm1 b)) (by decide), fun b k => absurd (Nat.le_trans k (hm1 b)) (by decide)⟩, SlP.dup h5,
    fun b => min (O b) 1, fun _ => 0, ⟨fun _ => Nat.le_refl _, fun _ => Nat.zero_le _, fun _ _ => rfl, fun _ h => by omega⟩, SlP.dup h6, trivial⟩
attribute [local irreducible] Cfg Kont StepK Val Con Qops Any Sl Own Blk BlkR Rd Pu ExA AllA Has Pick Ent Elem Beside Callable TI Lone OwnO AndA
set_option maxRecDepth 100000 in
theorem primsRef_con (v : Value) (l : List Pr9) (hl : PrsFit l) : Con Tryz.prog 60 [v] [Sl ePr v l] (γ := Unit) (fun _ => .string (sB (primsB l))) (fun _ => True) (fun _ => []) := by
  obtain ⟨hl1, hl2⟩ := hl
  refine con_of Tryz.func60 rfl (dd rfl) fun w0 O0 => ?_
  refine c_seq (c_region ?_)
  refine oV vA ?_
  refine o_nil (c_seq (c_region ?_))
  refine oV vM ?_
  refine oV ((by first | exact v_len_form Tryz.underlying24 rfl | exact v_len_sl Tryz.underlying24 rfl (hX (by repeat constructor)))) ?_
  refine o_step (s_callf_keep cl56 (numRef_con (l.length : Int)) rfl (dd rfl) (rX (by repeat constructor)) (fun _ => sX) (fun _ _ => ?_))
  refine oV vA ?_
  refine o_nil (c_seq (c_seq (c_region ?_)))
  refine oV vA ?_
  refine o_nil (c_block ?_)
  rw [show sB (numB l.length) = sB (numB l.length ++ ((l.take 0).map primB).flatten) by simp]
  refine c_loopR (γ := Nat) [(0, _), (2, _)] (fun k => l.length - k) (fun k => k ≤ l.length) (fun k => [(4, .int .i64 k), (3, .string (sB (numB l.length ++ ((l.take k).map primB).flatten)))]) (fun _ => [Sl ePr v l]) (0) (Nat.zero_le _) (by repeat (first | exact trivial | refine ⟨rfl, ?_⟩)) (eX (by repeat constructor)) ?_
  rintro k hk IH
  try dsimp only [List.cons_append, List.nil_append]
  refine c_seq (c_seq (c_region ?_))
  iterate 2 refine oV vM ?_
  refine oV ((by first | exact v_len_form Tryz.underlying24 rfl | exact v_len_sl Tryz.underlying24 rfl (hX (by repeat constructor)))) ?_
  refine oV (v_lt rfl rfl) ?_
  refine o_nil ?_
  refine c_cond_p rfl (fun hlt => ?_) (fun hlt => ?_)
  · have hk' : k < l.length := by omega
    have hpf := hl2 _ (List.getElem_mem hk')
    have ht := primB_len hpf
    have hz1 := sB_size (numB l.length ++ ((l.take k).map primB).flatten)
    have hz2 := sB_size (primB (l[k]'hk'))
    have hn := numB_len l.length
    have hfl := flat_le (put := primB) (m := 4000020000000) (l := l.take k) fun x hx => primB_len (hl2 x (List.mem_of_mem_take hx))
    have hkl : (l.take k).length ≤ 100000 := by rw [List.length_take]; omega
    have hm : (l.take k).length * 4000020000000 ≤ 100000 * 4000020000000 := Nat.mul_le_mul_right _ hkl
    rw [List.length_append] at hz1
    refine c_skip (c_seq (c_block (c_region ?_)))
    iterate 3 refine oV vM ?_
    refine oV ((by first | exact v_indexAddrN Tryz.underlying24 ti129 rfl rfl (hX (by repeat constructor)) (by omega) | exact v_indexAddr Tryz.underlying24 ti129 rfl rfl (hX (by repeat constructor)) (by omega))) ?_
    refine o_step (s_load_shape ⟨_, Tryz.underlying129⟩ ti129 rfl (dd rfl) (by repeat (first|exact el1 (by omega)|exact el2 (by omega)|exact el3 (by omega)|apply Elem.there)) (pr_open) (fun g => ?_))
    refine oC cl114 (primRef_con (l[k]'hk') g.1 g.2 hpf) fun _ _ => ?_
    refine oV (v_cat rfl rfl (by first | omega | (simp only [ByteArray.size_append]; omega))) ?_
    refine oV vA ?_
    refine o_nil (c_inBlock (c_region ?_))
    refine oV vM ?_
    refine oV ((by first | exact v_add64 rfl rfl (by omega) | exact v_add rfl rfl)) ?_
    refine oV vA ?_
    refine o_nil ?_
    rw [sB_app, List.append_assoc, ← flat_next primB hk']
    refine cU (IH (k + 1) (by first | omega | (dsimp only; omega)) (by omega))
  · have hke : k = l.length := by omega
    refine c_exit rfl ?_
    refine c_seq (c_region ?_)
    refine oV vM ?_
    refine oV vA ?_
    refine o_nil ?_
    refine c_ret1 Tryz.func60 rfl rfl fun w O hS => ?_
    exact ⟨(), by rw [hke, List.take_length]; rfl, trivial, trivial⟩
/-- Sizes of a patch. -/
def PtFit (p : Pt9) : Prop := p.2.1.size ≤ 1000000 ∧ p.2.2.1.length ≤ 1000000 ∧ PrsFit p.2.2.2
theorem primsB_len {l : List Pr9} (h : PrsFit l) : (primsB l).length ≤ 400002000000000015 := by
  have hfl := flat_le (put := primB) (m := 4000020000000) (l := l) fun x hx => primB_len (h.2 x hx)
  have hm : l.length * 4000020000000 ≤ 100000 * 4000020000000 := Nat.mul_le_mul_right _ h.1
  have hn := numB_len l.length
  unfold primsB manyB
  rw [List.length_append]
  omega
end Go.Proofs.YtlfehnnmpkohkaaGreatDoor
/- Chapter 09: numerals are appended. -/
namespace Go.Proofs.YtlfehnnmpkohkaaGreatDoor
open Go Go.SL Go.Lib
attribute [local irreducible] Cfg Kont StepK Val Con Qops Any Sl Own Blk BlkR Rd Pu ExA AllA Has Pick Ent Elem Beside Callable TI Lone OwnO AndA
set_option maxRecDepth 100000 in
theorem appendUint_con (v : Value) (l : List UInt8) (u : Nat) (hu : u < 9223372036854775808) (hl : l.length ≤ 140737488355000) : Con Tryz.prog 160 [v, .int .u64 u, .int .i64 10] [Own eByte 5 v l, G3] (γ := Value) (fun g => g) (fun _ => True) (fun g => [Own eByte 5 g (l ++ decDigits u)]) := by
  have hn20 := nDigits_le20 u (by omega)
  have hdl := decDigits_length u
  have hn24 : nDigits u ≤ 24 := by omega
  refine con_of Tryz.func160 rfl (dd rfl) fun w0 O0 => ?_
  refine c_seq (c_region ?_)
  refine oV vA ?_
  refine o_nil (c_seq (c_seq (c_region ?_)))
  refine oV vM ?_
  refine oV (v_eq rfl rfl) ?_
  refine o_nil ?_
  refine c_cond_t rfl ?_
  refine c_seq (c_seq (c_region ?_))
  refine oV vM ?_
  refine oV (v_lt rfl rfl) ?_
  refine o_nil ?_
  refine c_cond_p rfl (fun h1 => ?_) (fun h1 => ?_)
  · have hsz := sB_size (decDigits u)
    have hli := sB_list (decDigits u)
    have hcv : IntKind.i64.wrap (u : Int) = (u : Int) := by rw [IntKind.wrap_i64]; omega
    refine c_seq (c_region ?_)
    iterate 2 refine oV vM ?_
    refine oV (v_conv_int Tryz.underlying184 Tryz.underlying3 rfl) ?_
    rw [hcv]
    refine o_step (s_callf_keep cl171 (small_con u (by omega)) rfl (dd rfl) (rX (by repeat constructor)) (fun _ => sX) (fun _ _ => ?_))
    refine o_step (s_append_str Tryz.underlying38 Tryz.underlying9 ti5 rfl rfl (dd rfl) (pX (by repeat constructor)) (by omega) fun v1 => ?_)
    refine oV vA ?_
    refine o_nil ?_
    rw [hli]
    refine c_ret1 Tryz.func160 rfl rfl fun w O hS => ?_
    exact ⟨v1, rfl, trivial, Ent.get hS (eX (by repeat constructor))⟩
  · refine c_skip (c_seq (c_region ?_))
    refine o_step (s_alloc ti191 (dd rfl) (fun b7 => ?_))
    refine o_nil (c_seq (c_region ?_))
    refine oV vM ?_
    refine o_step (s_callf_keep cl172 (numDigits_con u (by omega) (by omega)) rfl (dd rfl) (rX (by repeat constructor)) (fun _ => sX) (fun _ _ => ?_))
    refine oV vA ?_
    refine o_nil (c_seq (c_region ?_))
    refine oV vM ?_
    refine oV (v_slice_arr Tryz.underlying191 ti5 rfl rfl rfl (by omega)) ?_
    refine oV vM ?_
    refine oC cl173 (fmt_con b7 (nDigits u) u (List.replicate 24 (Value.int .u8 0)) (by simp) (fun j hj => by rw [List.getElem?_replicate, if_pos hj]) rfl (by omega) (by omega)) fun _ _ => ?_
    refine o_nil (c_seq (c_region ?_))
    iterate 2 refine oV vM ?_
    refine oV (v_slice_arr Tryz.underlying191 ti5 rfl rfl rfl (by omega)) ?_
    refine o_mk (bytes_sl hdl hn24 (by decide)) (pXs (by repeat constructor)) ?_
    refine o_step (s_append Tryz.underlying38 ti5 rfl (by decide) rfl rfl (dd rfl) (pB (by repeat constructor)) (pX (by repeat constructor)) rfl (by (first | omega | (simp only [maxLen, List.length_append, List.length_drop, List.length_take, List.length_nil, List.length_cons]; omega))) (by (first | omega | (simp only [maxLen, List.length_append, List.length_drop, List.length_take, List.length_nil, List.length_cons]; omega))) fun v2 => ?_)
    refine oV vA ?_
    refine o_nil ?_
    refine c_ret1 Tryz.func160 rfl rfl fun w O hS => ?_
    exact ⟨v2, rfl, trivial, Ent.get hS (eX (by repeat constructor))⟩
set_option maxRecDepth 100000 in
theorem appendInt_con (v : Value) (l : List UInt8) (n : Int) (hn : -4611686018427387904 ≤ n ∧ n ≤ 4611686018427387904) (hl : l.length ≤ 140737488354000) : Con Tryz.prog 136 [v, .int .i64 n, .int .i64 10] [Own eByte 5 v l, G3] (γ := Value) (fun g => g) (fun _ => True) (fun g => [Own eByte 5 g (l ++ itoa n)]) := by
  refine con_of Tryz.func136 rfl (dd rfl) fun w0 O0 => ?_
  refine c_seq (c_region ?_)
  refine oV vA ?_
  refine o_nil (c_seq (c_region ?_))
  refine oV vM ?_
  refine oV (v_conv_int Tryz.underlying2 Tryz.underlying184 rfl) ?_
  refine oV vA ?_
  refine o_nil (c_seq (c_seq (c_region ?_)))
  refine oV vM ?_
  refine oV (v_lt rfl rfl) ?_
  refine o_nil ?_
  refine c_cond_p rfl (fun h0 => ?_) (fun h0 => ?_)
  · have hw : IntKind.u64.wrap (-IntKind.u64.wrap n) = ((n.natAbs : Nat) : Int) := by rw [IntKind.wrap_u64, IntKind.wrap_u64]; omega
    have hi : itoa n = [45] ++ decDigits n.natAbs := by unfold itoa; rw [if_pos h0]; rfl
    refine c_seq (c_region ?_)
    refine oV vM ?_
    refine o_step (s_buildSlice Tryz.underlying38 ti5 rfl rfl rfl (by decide) (by decide) (beside_byte [45]) rfl rfl (dd rfl) fun v1 => ?_)
    refine o_step (s_append Tryz.underlying38 ti5 rfl (by decide) rfl rfl (dd rfl) (pB (by repeat constructor)) (pX (by repeat constructor)) rfl (by (first | omega | (simp only [maxLen, List.length_append, List.length_drop, List.length_take, List.length_nil, List.length_cons]; omega))) (by (first | omega | (simp only [maxLen, List.length_append, List.length_drop, List.length_take, List.length_nil, List.length_cons]; omega))) fun v2 => ?_)
    refine oV vA ?_
    refine o_nil (c_region ?_)
    refine oV vM ?_
    refine oV (v_neg_u rfl) ?_
    refine oV vA ?_
    refine o_nil (c_seq (c_region ?_))
    iterate 3 refine oV vM ?_
    rw [hw]
    refine oC cl160 (appendUint_con v2 (l ++ [45]) n.natAbs (by omega) (by simp; omega)) fun v3 _ => ?_
    refine oV vA ?_
    refine o_nil ?_
    rw [List.append_assoc, ← hi]
    refine c_ret1 Tryz.func136 rfl rfl fun w O hS => ?_
    exact ⟨v3, rfl, trivial, Ent.get hS (eX (by repeat constructor))⟩
  · have hw : IntKind.u64.wrap n = ((n.toNat : Nat) : Int) := by rw [IntKind.wrap_u64]; omega
    have hi : itoa n = decDigits n.toNat := by unfold itoa; rw [if_neg h0]
    refine c_skip (c_seq (c_region ?_))
    iterate 3 refine oV vM ?_
    rw [hw]
    refine oC cl160 (appendUint_con v l n.toNat (by omega) (by omega)) fun v3 _ => ?_
    refine oV vA ?_
    refine o_nil ?_
    rw [← hi]
    refine c_ret1 Tryz.func136 rfl rfl fun w O hS => ?_
    exact ⟨v3, rfl, trivial, Ent.get hS (eX (by repeat constructor))⟩
set_option maxRecDepth 100000 in
theorem appendIntP_con (v : Value) (l : List UInt8) (n : Int) (hn : -4611686018427387904 ≤ n ∧ n ≤ 4611686018427387904) (hl : l.length ≤ 140737488354000) : Con Tryz.prog 108 [v, .int .i64 n, .int .i64 10] [Own eByte 5 v l, G3] (γ := Value) (fun g => g) (fun _ => True) (fun g => [Own eByte 5 g (l ++ itoa n)]) := by
  have hA := appendInt_con v l n hn hl
  refine con_of Tryz.func108 rfl (dd rfl) fun w0 O0 => ?_
  refine c_seq (c_region ?_)
  refine oV vA ?_
  refine o_nil (c_seq (c_region ?_))
  iterate 3 refine oV vM ?_
  refine oC cl136 (hA) fun v3 _ => ?_
  refine oV vA ?_
  refine o_nil ?_
  refine c_ret1 Tryz.func108 rfl rfl fun w O hS => ?_
  exact ⟨v3, rfl, trivial, Ent.get hS (eX (by repeat constructor))⟩
end Go.Proofs.YtlfehnnmpkohkaaGreatDoor
/- Chapter 09: the program's writers. -/
namespace Go.Proofs.YtlfehnnmpkohkaaGreatDoor
open Go Go.SL Go.Lib
theorem flat_part {α : Type} (put : α → List UInt8) {l : List α} {k : Nat} (hk : k < l.length) : ((l.take k).map put).flatten.length + (put l[k]).length ≤ ((l.map put).flatten).length := by
  rw [← List.length_append, ← flat_next put hk]
  have h : (l.map put).flatten = ((l.take (k + 1)).map put).flatten ++ ((l.drop (k + 1)).map put).flatten := by rw [← List.flatten_append, ← List.map_append, List.take_append_drop]
  rw [h, List.length_append]; omega
abbrev ptr (b : Nat) : Value := .pointer (some ⟨b, 0, none⟩)
attribute [local irreducible] Cfg Kont StepK Val Con Qops Any Sl Own Blk BlkR Rd Pu ExA AllA Has Pick Ent Elem Beside Callable TI Lone OwnO AndA
set_option maxRecDepth 100000 in
theorem num_con (b : Nat) (v : Value) (l : List UInt8) (n : Int) (hn : -9223372036854775808 ≤ n ∧ n ≤ 9223372036854775807) (hl : l.length + (numB n).length ≤ 100000000000000) : Con Tryz.prog 50 [ptr b, .int .i64 n] [Blk b 89 [v], Own eByte 5 v l, G3] (γ := Value) (fun _ => .tuple #[]) (fun _ => True) (fun g => [Blk b 89 [g], Own eByte 5 g (l ++ numB n)]) := by
  have hc : min (max n (-1099511627776)) 1099511627776 = clamp9 n := by unfold clamp9 far9; rfl
  have hcf := clamp_far n
  unfold far9 at hcf
  have hnl : (numB n).length = (itoa (clamp9 n)).length + 1 := by unfold numB; simp
  refine con_of Tryz.func50 rfl (dd rfl) fun w0 O0 => ?_
  refine c_region ?_
  iterate 2 refine oV vM ?_
  refine oV (v_nilCheck rfl) ?_
  refine oV (vF 0 Tryz.underlying89 ti38) ?_
  refine oV (vL lone38) ?_
  refine oV vM ?_
  refine oV (v_max rfl rfl) ?_
  refine oV (v_min rfl rfl) ?_
  rw [hc]
  refine oC cl108 (appendIntP_con v l (clamp9 n) (by omega) (by omega)) fun v1 _ => ?_
  refine o_step (s_buildSlice Tryz.underlying38 ti5 rfl rfl rfl (by decide) (by decide) (beside_byte [59]) rfl rfl (dd rfl) fun v2 => ?_)
  refine o_step (s_append Tryz.underlying38 ti5 rfl (by decide) rfl rfl (dd rfl) (pB (by repeat constructor)) (pX (by repeat constructor)) rfl (by (first | omega | (simp only [maxLen, List.length_append, List.length_drop, List.length_take, List.length_nil, List.length_cons]; omega))) (by (first | omega | (simp only [maxLen, List.length_append, List.length_drop, List.length_take, List.length_nil, List.length_cons]; omega))) fun v3 => ?_)
  refine oV (v_nilCheck rfl) ?_
  refine oV (vF 0 Tryz.underlying89 ti38) ?_
  refine o_step (s_store1 ti38 rfl rfl (by first | exact OneC.lit rfl | exact OneC.sl (hX (by repeat constructor)) ) (pB (by repeat constructor)) (by first | decide | exact Nat.le_of_ble_eq_true rfl | simp) (by first | (dsimp only [List.set_cons_succ, List.set_cons_zero]; first | done | exact rfl) | rfl) (?_))
  refine o_nil ?_
  refine c_end0 Tryz.func50 rfl fun w O hS => ?_
  exact ⟨v3, rfl, trivial, by unfold numB; rw [← List.append_assoc]; exact Ent.get hS (eX (by repeat constructor))⟩
theorem flagB_num (q : Bool) : flagB q = numB (if q then 1 else 0) := rfl
set_option maxRecDepth 100000 in
theorem flag_con (b : Nat) (v : Value) (l : List UInt8) (q : Bool) (hl : l.length + (flagB q).length ≤ 100000000000000) : Con Tryz.prog 74 [ptr b, .bool q] [Blk b 89 [v], Own eByte 5 v l, G3] (γ := Value) (fun _ => .tuple #[]) (fun _ => True) (fun g => [Blk b 89 [g], Own eByte 5 g (l ++ flagB q)]) := by
  have hN := fun n hn => num_con b v l n hn
  rw [flagB_num] at *
  refine con_of Tryz.func74 rfl (dd rfl) fun w0 O0 => ?_
  refine c_seq (c_region ?_)
  refine oV vA ?_
  refine o_nil (c_seq (c_seq (c_region ?_)))
  refine oV vM ?_
  refine o_nil ?_
  refine c_cond rfl (fun h => ?_) (fun h => ?_)
  · subst h
    refine c_region ?_
    refine oV vA ?_
    refine o_nil (c_region ?_)
    iterate 2 refine oV vM ?_
    refine oC cl50 (hN 1 (by decide) hl) fun v1 _ => ?_
    refine o_nil ?_
    refine c_end0 Tryz.func74 rfl fun w O hS => ?_
    exact ⟨v1, rfl, trivial, Ent.get hS (eX (by repeat constructor))⟩
  · subst h
    refine c_skip (c_region ?_)
    iterate 2 refine oV vM ?_
    refine oC cl50 (hN 0 (by decide) hl) fun v1 _ => ?_
    refine o_nil ?_
    refine c_end0 Tryz.func74 rfl fun w O hS => ?_
    exact ⟨v1, rfl, trivial, Ent.get hS (eX (by repeat constructor))⟩
set_option maxRecDepth 100000 in
theorem text_con (b : Nat) (v : Value) (l : List UInt8) (s : ByteArray) (hl : l.length + (textB s).length ≤ 100000000000000) : Con Tryz.prog 51 [ptr b, .string s] [Blk b 89 [v], Own eByte 5 v l, G3] (γ := Value) (fun _ => .tuple #[]) (fun _ => True) (fun g => [Blk b 89 [g], Own eByte 5 g (l ++ textB s)]) := by
  have htl : (textB s).length = (itoa s.size).length + s.size + 2 := by unfold textB; simp; omega
  have hsl := ba_len s
  refine con_of Tryz.func51 rfl (dd rfl) fun w0 O0 => ?_
  refine c_seq (c_region ?_)
  iterate 2 refine oV vM ?_
  refine oV (v_nilCheck rfl) ?_
  refine oV (vF 0 Tryz.underlying89 ti38) ?_
  refine oV (vL lone38) ?_
  refine oV vM ?_
  refine oV (v_len_str Tryz.underlying9 rfl) ?_
  refine oC cl108 (appendIntP_con v l s.size (by omega) (by omega)) fun v1 _ => ?_
  refine o_step (s_buildSlice Tryz.underlying38 ti5 rfl rfl rfl (by decide) (by decide) (beside_byte [58]) rfl rfl (dd rfl) fun v2 => ?_)
  refine o_step (s_append Tryz.underlying38 ti5 rfl (by decide) rfl rfl (dd rfl) (pB (by repeat constructor)) (pX (by repeat constructor)) rfl (by (first | omega | (simp only [maxLen, List.length_append, List.length_drop, List.length_take, List.length_nil, List.length_cons]; omega))) (by (first | omega | (simp only [maxLen, List.length_append, List.length_drop, List.length_take, List.length_nil, List.length_cons]; omega))) fun v3 => ?_)
  refine oV (v_nilCheck rfl) ?_
  refine oV (vF 0 Tryz.underlying89 ti38) ?_
  refine o_step (s_store1 ti38 rfl rfl (by first | exact OneC.lit rfl | exact OneC.sl (hX (by repeat constructor)) ) (pB (by repeat constructor)) (by first | decide | exact Nat.le_of_ble_eq_true rfl | simp) (by first | (dsimp only [List.set_cons_succ, List.set_cons_zero]; first | done | exact rfl) | rfl) (?_))
  refine o_nil (c_region ?_)
  iterate 2 refine oV vM ?_
  refine oV (v_nilCheck rfl) ?_
  refine oV (vF 0 Tryz.underlying89 ti38) ?_
  refine oV (vL lone38) ?_
  refine oV vM ?_
  refine o_step (s_append_str Tryz.underlying38 Tryz.underlying9 ti5 rfl rfl (dd rfl) (pX (by repeat constructor)) (by simp; omega) fun v4 => ?_)
  refine o_step (s_buildSlice Tryz.underlying38 ti5 rfl rfl rfl (by decide) (by decide) (beside_byte [44]) rfl rfl (dd rfl) fun v5 => ?_)
  refine o_step (s_append Tryz.underlying38 ti5 rfl (by decide) rfl rfl (dd rfl) (pB (by repeat constructor)) (pX (by repeat constructor)) rfl (by (first | omega | (simp only [maxLen, List.length_append, List.length_drop, List.length_take, List.length_nil, List.length_cons]; omega))) (by (first | omega | (simp only [maxLen, List.length_append, List.length_drop, List.length_take, List.length_nil, List.length_cons]; omega))) fun v6 => ?_)
  refine oV (v_nilCheck rfl) ?_
  refine oV (vF 0 Tryz.underlying89 ti38) ?_
  refine o_step (s_store1 ti38 rfl rfl (by first | exact OneC.lit rfl | exact OneC.sl (hX (by repeat constructor)) ) (pB (by repeat constructor)) (by first | decide | exact Nat.le_of_ble_eq_true rfl | simp) (by first | (dsimp only [List.set_cons_succ, List.set_cons_zero]; first | done | exact rfl) | rfl) (?_))
  refine o_nil ?_
  refine c_end0 Tryz.func51 rfl fun w O hS => ?_
  exact ⟨v6, rfl, trivial, by
    have e : l ++ textB s = l ++ itoa s.size ++ [58] ++ s.data.toList ++ [44] := by unfold textB; simp only [List.append_assoc]
    rw [e]; exact Ent.get hS (eX (by repeat constructor))⟩
set_option maxRecDepth 100000 in
theorem eachText_con (b : Nat) (v u : Value) (l : List UInt8) (xs : List ByteArray) (hx : xs.length ≤ 140737488355328) (hl : l.length + (textsB xs).length ≤ 100000000000000) : Con Tryz.prog 109 [ptr b, u, .func (.func 51) #[ptr b] #[]] [Blk b 89 [v], Own eByte 5 v l, G3, Sl eStr u xs] (γ := Value) (fun _ => .tuple #[]) (fun _ => True) (fun g => [Blk b 89 [g], Own eByte 5 g (l ++ textsB xs)]) := by
  unfold textsB at *
  refine con_of Tryz.func109 rfl (dd rfl) fun w0 O0 => ?_
  refine c_seq (c_region ?_)
  iterate 2 refine oV vM ?_
  refine oV ((by first | exact v_len_form Tryz.underlying23 rfl | exact v_len_sl Tryz.underlying23 rfl (hX (by repeat constructor)))) ?_
  have hnum : (manyB textB xs).length = (numB xs.length).length + ((xs.map textB).flatten).length := by unfold manyB; simp
  refine oC cl50 (num_con b v l xs.length (by omega) (by omega)) fun v1 _ => ?_
  refine o_nil (c_seq (c_region ?_))
  refine oV vM ?_
  refine oV ((by first | exact v_len_form Tryz.underlying23 rfl | exact v_len_sl Tryz.underlying23 rfl (hX (by repeat constructor)))) ?_
  refine oV vM ?_
  refine o_nil (c_block ?_)
  rw [show l ++ numB xs.length = l ++ (numB xs.length ++ ((xs.take 0).map textB).flatten) by simp]
  refine c_loopR (γ := Nat × Value) [(2, _), (12, _), (13, _)] (fun g => xs.length - g.1) (fun g => g.1 ≤ xs.length) (fun g => [(14, .int .i64 g.1)]) (fun g => [Blk b 89 [g.2], Own eByte 5 g.2 (l ++ (numB xs.length ++ ((xs.take g.1).map textB).flatten)), G3, Sl eStr u xs]) ((0, v1)) (Nat.zero_le _) (by repeat (first | exact trivial | refine ⟨rfl, ?_⟩)) (eX (by repeat constructor)) ?_
  rintro ⟨k, r⟩ hk IH
  dsimp only at hk ⊢
  try dsimp only [List.cons_append, List.nil_append]
  refine c_seq (c_region ?_)
  refine oV (v_lt rfl rfl) ?_
  refine o_nil (c_seq ?_)
  refine c_cond_p rfl (fun hlt => ?_) (fun hlt => ?_)
  · have hk' : k < xs.length := by omega
    have hfp := flat_part textB hk'
    refine c_skip (c_seq (c_block (c_seq (c_region ?_))))
    refine oV ((by first | exact v_indexAddrN Tryz.underlying23 ti9 rfl rfl (hX (by repeat constructor)) (by omega) | exact v_indexAddr Tryz.underlying23 ti9 rfl rfl (hX (by repeat constructor)) (by omega))) ?_
    refine oV (v_load_str lone9 rfl (by repeat (first | exact Elem.sl (List.getElem?_eq_getElem (by omega)) | exact Elem.own (List.getElem?_eq_getElem (by omega)) | exact Elem.ownO (List.getElem?_eq_getElem (by omega)) | apply Elem.there))) ?_
    refine oV vA ?_
    refine o_nil (c_region ?_)
    iterate 2 refine oV vM ?_
    refine o_step (s_call cl51 (text_con b r (l ++ (numB xs.length ++ ((xs.take k).map textB).flatten)) xs[k] (by simp only [List.length_append]; omega)) (first := [ptr b]) (cap := []) rfl rfl (by rfl) (dd rfl) (pXs (by repeat constructor)) fun v2 _ => ?_)
    refine o_nil (c_inBlock (c_region ?_))
    refine oV ((by first | exact v_add64 rfl rfl (by omega) | exact v_add rfl rfl)) ?_
    refine oV vM ?_
    refine o_nil ?_
    rw [List.append_assoc, List.append_assoc, ← flat_next textB hk']
    refine cU (IH ((k + 1, v2)) (by first | omega | (dsimp only; omega)) (by dsimp only; omega))
  · have hke : k = xs.length := by omega
    refine c_exit rfl ?_
    refine c_end0 Tryz.func109 rfl fun w O hS => ?_
    exact ⟨r, rfl, trivial, by unfold manyB; rw [hke, List.take_length] at hS; exact Ent.get hS (eX (by repeat constructor))⟩
set_option maxRecDepth 100000 in
theorem texts_con (b : Nat) (v u : Value) (l : List UInt8) (xs : List ByteArray) (hx : xs.length ≤ 140737488355328) (hl : l.length + (textsB xs).length ≤ 100000000000000) : Con Tryz.prog 53 [ptr b, u] [Blk b 89 [v], Own eByte 5 v l, G3, Sl eStr u xs] (γ := Value) (fun _ => .tuple #[]) (fun _ => True) (fun g => [Blk b 89 [g], Own eByte 5 g (l ++ textsB xs)]) := by
  have hE := eachText_con b v u l xs hx hl
  refine con_of Tryz.func53 rfl (dd rfl) fun w0 O0 => ?_
  refine c_region ?_
  iterate 3 refine oV vM ?_
  refine oV (v_makeFunc rfl rfl) ?_
  refine oC cl109 (hE) fun v1 _ => ?_
  refine o_nil ?_
  refine c_end0 Tryz.func53 rfl fun w O hS => ?_
  exact ⟨v1, rfl, trivial, Ent.get hS (eX (by repeat constructor))⟩
/-- Rows that can be counted. -/
def CountP (p : Pr9) : Prop := (-9223372036854775808 ≤ p.1 ∧ p.1 ≤ 9223372036854775807) ∧ (-9223372036854775808 ≤ p.2.2.2.1 ∧ p.2.2.2.1 ≤ 9223372036854775807) ∧ p.2.2.2.2.1.length ≤ 140737488355328 ∧ p.2.2.2.2.2.length ≤ 140737488355328
set_option maxRecDepth 100000 in
theorem prim_con (b : Nat) (v ov wv : Value) (l : List UInt8) (p : Pr9) (hp : CountP p) (hl : l.length + (primB p).length ≤ 100000000000000) : Con Tryz.prog 111 [ptr b, .agg #[.int .i64 p.1, .string p.2.1, .string p.2.2.1, .int .i64 p.2.2.2.1, ov, wv]] [Blk b 89 [v], Own eByte 5 v l, G3, Sl eStr ov p.2.2.2.2.1, Sl eStr wv p.2.2.2.2.2] (γ := Value) (fun _ => .tuple #[]) (fun _ => True) (fun g => [Blk b 89 [g], Own eByte 5 g (l ++ primB p)]) := by
  obtain ⟨k, n, t, a, o, z⟩ := p
  obtain ⟨hk, ha, ho, hw⟩ := hp
  dsimp only at hk ha ho hw ⊢
  have hle : (primB (k, n, t, a, o, z)).length = (numB k).length + (textB n).length + (textB t).length + (numB a).length + (textsB o).length + (textsB z).length := by unfold primB; simp only [List.length_append]
  refine con_of Tryz.func111 rfl (dd rfl) fun w0 O0 => ?_
  refine c_seq (c_region ?_)
  refine o_step (s_box rfl (dd rfl) (fun b3 => ?_))
  refine o_nil (c_seq (c_region ?_))
  refine oV vM ?_
  refine oV (vF 0 Tryz.underlying74 ti3) ?_
  refine oV (vL lone3) ?_
  refine oC cl50 (num_con b v l k hk (by omega)) fun v1 _ => ?_
  refine o_nil (c_seq (c_region ?_))
  refine oV vM ?_
  refine oV (vF 1 Tryz.underlying74 ti9) ?_
  refine oV (vL lone9) ?_
  refine oC cl51 (text_con b v1 (l ++ numB k) n (by simp only [List.length_append]; omega)) fun v2 _ => ?_
  refine o_nil (c_seq (c_region ?_))
  refine oV vM ?_
  refine oV (vF 2 Tryz.underlying74 ti9) ?_
  refine oV (vL lone9) ?_
  refine oC cl51 (text_con b v2 (l ++ numB k ++ textB n) t (by simp only [List.length_append]; omega)) fun v3 _ => ?_
  refine o_nil (c_seq (c_region ?_))
  refine oV vM ?_
  refine oV (vF 3 Tryz.underlying74 ti3) ?_
  refine oV (vL lone3) ?_
  refine oC cl50 (num_con b v3 (l ++ numB k ++ textB n ++ textB t) a ha (by simp only [List.length_append]; omega)) fun v4 _ => ?_
  refine o_nil (c_seq (c_region ?_))
  refine oV vM ?_
  refine oV (vF 4 Tryz.underlying74 ti23) ?_
  refine oV (vL lone23) ?_
  refine oC cl53 (texts_con b v4 ov (l ++ numB k ++ textB n ++ textB t ++ numB a) o ho (by simp only [List.length_append]; omega)) fun v5 _ => ?_
  refine o_nil (c_region ?_)
  refine oV vM ?_
  refine oV (vF 5 Tryz.underlying74 ti23) ?_
  refine oV (vL lone23) ?_
  refine oC cl53 (texts_con b v5 wv (l ++ numB k ++ textB n ++ textB t ++ numB a ++ textsB o) z hw (by simp only [List.length_append]; omega)) fun v6 _ => ?_
  refine o_nil ?_
  refine c_end0 Tryz.func111 rfl fun w O hS => ?_
  exact ⟨v6, rfl, trivial, by
    have e : l ++ primB (k, n, t, a, o, z) = l ++ numB k ++ textB n ++ textB t ++ numB a ++ textsB o ++ textsB z := by unfold primB; simp only [List.append_assoc]
    rw [e]; exact Ent.get hS (eX (by repeat constructor))⟩
set_option maxRecDepth 100000 in
theorem eachPrim_con (b : Nat) (v u : Value) (l : List UInt8) (xs : List Pr9) (hx : xs.length ≤ 140737488355328) (hc : ∀ p ∈ xs, CountP p) (hl : l.length + (primsB xs).length ≤ 100000000000000) : Con Tryz.prog 110 [ptr b, u, .func (.func 111) #[ptr b] #[]] [Blk b 89 [v], Own eByte 5 v l, G3, Sl ePr u xs] (γ := Value) (fun _ => .tuple #[]) (fun _ => True) (fun g => [Blk b 89 [g], Own eByte 5 g (l ++ primsB xs)]) := by
  unfold primsB at *
  refine con_of Tryz.func110 rfl (dd rfl) fun w0 O0 => ?_
  refine c_seq (c_region ?_)
  iterate 2 refine oV vM ?_
  refine oV ((by first | exact v_len_form Tryz.underlying30 rfl | exact v_len_sl Tryz.underlying30 rfl (hX (by repeat constructor)))) ?_
  have hnum : (manyB primB xs).length = (numB xs.length).length + ((xs.map primB).flatten).length := by unfold manyB; simp
  refine oC cl50 (num_con b v l xs.length (by omega) (by omega)) fun v1 _ => ?_
  refine o_nil (c_seq (c_region ?_))
  refine oV vM ?_
  refine oV ((by first | exact v_len_form Tryz.underlying30 rfl | exact v_len_sl Tryz.underlying30 rfl (hX (by repeat constructor)))) ?_
  refine oV vM ?_
  refine o_nil (c_block ?_)
  rw [show l ++ numB xs.length = l ++ (numB xs.length ++ ((xs.take 0).map primB).flatten) by simp]
  refine c_loopR (γ := Nat × Value) [(2, _), (12, _), (13, _)] (fun g => xs.length - g.1) (fun g => g.1 ≤ xs.length) (fun g => [(14, .int .i64 g.1)]) (fun g => [Blk b 89 [g.2], Own eByte 5 g.2 (l ++ (numB xs.length ++ ((xs.take g.1).map primB).flatten)), G3, Sl ePr u xs]) ((0, v1)) (Nat.zero_le _) (by repeat (first | exact trivial | refine ⟨rfl, ?_⟩)) (eX (by repeat constructor)) ?_
  rintro ⟨k, r⟩ hk IH
  dsimp only at hk ⊢
  try dsimp only [List.cons_append, List.nil_append]
  refine c_seq (c_region ?_)
  refine oV (v_lt rfl rfl) ?_
  refine o_nil (c_seq ?_)
  refine c_cond_p rfl (fun hlt => ?_) (fun hlt => ?_)
  · have hk' : k < xs.length := by omega
    have hfp := flat_part primB hk'
    refine c_skip (c_seq (c_block (c_seq (c_region ?_))))
    refine oV ((by first | exact v_indexAddrN Tryz.underlying30 ti74 rfl rfl (hX (by repeat constructor)) (by omega) | exact v_indexAddr Tryz.underlying30 ti74 rfl rfl (hX (by repeat constructor)) (by omega))) ?_
    refine o_step (s_load_shape ⟨_, Tryz.underlying74⟩ ti74 rfl (dd rfl) (by repeat (first|exact el1 (by omega)|exact el2 (by omega)|exact el3 (by omega)|apply Elem.there)) (pr_open) (fun g => ?_))
    refine o_step (s_alloc ti74 (dd rfl) (fun b7 => ?_))
    refine o_step (s_store_all ti74 rfl rfl (by first | exact CellsV.lit rfl | exact CellsV.one (by first | exact OneC.lit rfl | exact OneC.sl (hX (by repeat constructor)) )) (by repeat (first | exact OneAll.nil | (refine OneAll.cons ?_ ?_; · first | exact OneC.lit rfl | exact OneC.sl (hX (by repeat constructor)) ) | exact OneAll.rd (hX (by repeat constructor)))) rfl (pB (by repeat constructor)) rfl (?_))
    refine o_nil (c_region ?_)
    refine oV vM ?_
    refine oV (vW Tryz.underlying74 ti74) ?_
    refine o_step (s_call cl111 (prim_con b r g.1 g.2 (l ++ (numB xs.length ++ ((xs.take k).map primB).flatten)) xs[k] (hc _ (List.getElem_mem hk')) (by simp only [List.length_append]; omega)) (first := [ptr b]) (cap := []) rfl rfl (by rfl) (dd rfl) (pXs (by repeat constructor)) fun v2 _ => ?_)
    refine o_nil (c_inBlock (c_region ?_))
    refine oV ((by first | exact v_add64 rfl rfl (by omega) | exact v_add rfl rfl)) ?_
    refine oV vM ?_
    refine o_nil ?_
    rw [List.append_assoc, List.append_assoc, ← flat_next primB hk']
    refine cU (IH ((k + 1, v2)) (by first | omega | (dsimp only; omega)) (by dsimp only; omega))
  · have hke : k = xs.length := by omega
    refine c_exit rfl ?_
    refine c_end0 Tryz.func110 rfl fun w O hS => ?_
    exact ⟨r, rfl, trivial, by unfold manyB; rw [hke, List.take_length] at hS; exact Ent.get hS (eX (by repeat constructor))⟩
set_option maxRecDepth 100000 in
theorem prims_con (b : Nat) (v u : Value) (l : List UInt8) (xs : List Pr9) (hx : xs.length ≤ 140737488355328) (hc : ∀ p ∈ xs, CountP p) (hl : l.length + (primsB xs).length ≤ 100000000000000) : Con Tryz.prog 54 [ptr b, u] [Blk b 89 [v], Own eByte 5 v l, G3, Sl ePr u xs] (γ := Value) (fun _ => .tuple #[]) (fun _ => True) (fun g => [Blk b 89 [g], Own eByte 5 g (l ++ primsB xs)]) := by
  have hE := eachPrim_con b v u l xs hx hc hl
  refine con_of Tryz.func54 rfl (dd rfl) fun w0 O0 => ?_
  refine c_region ?_
  iterate 3 refine oV vM ?_
  refine oV (v_makeFunc rfl rfl) ?_
  refine oC cl110 (hE) fun v1 _ => ?_
  refine o_nil ?_
  refine c_end0 Tryz.func54 rfl fun w O hS => ?_
  exact ⟨v1, rfl, trivial, Ent.get hS (eX (by repeat constructor))⟩
/-- Patches that can be counted. -/
def CountT (p : Pt9) : Prop := (-9223372036854775808 ≤ p.1 ∧ p.1 ≤ 9223372036854775807) ∧ (p.2.2.1.length ≤ 140737488355328 ∧ ∀ n ∈ p.2.2.1, -9223372036854775808 ≤ n ∧ n ≤ 9223372036854775807) ∧ p.2.2.2.length ≤ 140737488355328 ∧ ∀ q ∈ p.2.2.2, CountP q
end Go.Proofs.YtlfehnnmpkohkaaGreatDoor
/- Chapter 09: the program's reader: bytes, a number. -/
namespace Go.Proofs.YtlfehnnmpkohkaaGreatDoor
open Go Go.SL Go.Lib
theorem find_index (e : UInt8) : ∀ l : List UInt8, indexByte l e = match l.findIdx? (· == e) with | some k => (k : Int) | none => -1
  | [] => rfl
  | b :: l => by
    rw [indexByte, List.findIdx?_cons]
    by_cases h : b = e
    · subst h; simp
    · have hb : (b == e) = false := by simpa using h
      rw [hb, find_index e l]
      cases l.findIdx? (· == e) with
      | none => rfl
      | some k =>
        simp only [Option.map_some, Bool.false_eq_true, if_false]
        rw [if_neg (by intro q; have := beq_iff_eq.1 q; omega)]
        show (k : Int) + 1 = ((k + 1 : Nat) : Int)
        omega
def nm9 (e : UInt8) (s : St9) : Int × Nat := (num9 e s).getD (0, 0)
theorem nm_bad {e : UInt8} {s : St9} {k : Int} (hk : k = indexByte (s.1.take 15) e) (h : k < 1 ∨ s.2 = true) : nm9 e s = (0, 0) := by
  unfold nm9 num9
  split
  · rfl
  · rename_i hb
    have h1 : k < 1 := h.resolve_right hb
    rw [hk, find_index] at h1
    unfold numberR
    split
    · rename_i j hj
      rw [hj] at h1
      have h2 : (j : Int) < 1 := h1
      have hj0 : j = 0 := by omega
      subst hj0; rfl
    · rfl
theorem nm_good {e : UInt8} {s : St9} {k : Int} (hk : k = indexByte (s.1.take 15) e) (h : ¬ (k < 1 ∨ s.2 = true)) : k.toNat ≤ 14 ∧ k.toNat ≤ s.1.length ∧ nm9 e s = match atoi (s.1.take k.toNat) with | some n => if itoa n = s.1.take k.toNat then (n, k.toNat + 1) else (0, 0) | none => (0, 0) := by
  have hb : s.2 = false := by cases q : s.2 with | false => rfl | true => exact absurd (.inr q) h
  have h1 : ¬ k < 1 := fun q => h (.inl q)
  rw [find_index] at hk
  cases hf : (s.1.take 15).findIdx? (· == e) with
  | none => rw [hf] at hk; dsimp only at hk; omega
  | some j =>
    rw [hf] at hk
    dsimp only at hk
    obtain ⟨hj, _, _⟩ := List.findIdx?_eq_some_iff_getElem.1 hf
    rw [List.length_take] at hj
    have e1 : k.toNat = j := by omega
    refine ⟨by omega, by omega, ?_⟩
    unfold nm9 num9 numberR
    rw [hb, if_neg (by decide), hf, e1]
    dsimp only
    rw [if_neg (by omega), numS_atoi]
    cases atoi (s.1.take j) with
    | none => rfl
    | some n =>
      simp only [Option.bind_some]
      split <;> rfl
attribute [local irreducible] Cfg Kont StepK Val Con Qops Any Sl Own Blk BlkR Rd Pu ExA AllA Has Pick Ent Elem Beside Callable TI Lone OwnO AndA
set_option maxRecDepth 100000 in
theorem number_con (i : Nat) (bv : Value) (s : St9) (e : UInt8) (te : TypeId) (pe : Value) : Con Tryz.prog 115 [ptr i, .int .u8 e.toNat] [BlkR i 141 [bv, .bool s.2], Sl eByte bv s.1, G1 te pe, G3] (γ := Unit) (fun _ => .tuple #[.int .i64 (nm9 e s).1, .int .i64 (nm9 e s).2]) (fun _ => True) (fun _ => []) := by
  refine Con.form (v := bv) (xs := s.1) (hX (by repeat constructor)) ?_
  rintro a0 c0 rfl hc0 hm0
  obtain ⟨k, hk⟩ : ∃ k, k = indexByte (s.1.take 15) e := ⟨_, rfl⟩
  have hI := fun v => indexByte_con v (s.1.take 15) e
  have ht : (List.take (min (s.1.length : Int) 15).toNat s.1).drop 0 = s.1.take 15 := by
    rw [List.drop_zero]
    by_cases h : s.1.length ≤ 15
    · rw [List.take_of_length_le (by omega), List.take_of_length_le h]
    · rw [show (min (s.1.length : Int) 15).toNat = 15 by omega]
  refine con_of Tryz.func115 rfl (dd rfl) fun w0 O0 => ?_
  refine c_seq (c_region ?_)
  refine oV vA ?_
  refine oV vA ?_
  refine o_nil (c_seq ?_)
  refine c_quiet rfl (by kernel_rfl) ?_
  refine qV vM ?_
  refine qV (v_nilCheck rfl) ?_
  refine qV (vF 0 Tryz.underlying141 ti38) ?_
  refine qV (vL lone38) ?_
  refine qV vM ?_
  refine qV (v_nilCheck rfl) ?_
  refine qV (vF 0 Tryz.underlying141 ti38) ?_
  refine qV (vL lone38) ?_
  refine qV ((by first | exact v_len_form Tryz.underlying38 rfl | exact v_len_sl Tryz.underlying38 rfl (hX (by repeat constructor)))) ?_
  refine qV (v_min rfl rfl) ?_
  refine q_slice Tryz.underlying38 ti5 rfl (pX (by repeat constructor)) (.inl ⟨rfl, rfl⟩) (.inr ⟨_, _, _, rfl, rfl, by omega, rfl⟩) (.inl ⟨rfl, rfl⟩) (by omega) (by first | omega | exact Nat.le_refl _) (by omega) (by omega) (dd rfl) (eX (by repeat constructor)) ?_
  refine qV vM ?_
  rw [ht]
  rw [← hk] at hI
  refine q_call_keep cl137 (hI _) rfl (first := []) (cap := []) (fun _ _ => rfl) rfl rfl (dd rfl) (rX (by repeat constructor)) ?_
  refine qV vA ?_
  refine q_nil ?_
  refine c_seq (c_seq ?_)
  refine c_env (env' := [(0, _), (4, _), (5, _), (6, _)]) (by repeat (first | exact trivial | refine ⟨rfl, ?_⟩)) ?_
  refine c_joinb (d := 28) (decide (k < 1 ∨ s.2 = true)) ?_ ?_
  rotate_left
  · intro J
    refine c_region ?_
    refine oV vM ?_
    refine oV (v_lt rfl rfl) ?_
    refine oV vM ?_
    first | refine o_guard_f rfl rfl (fun g23 => ?_) (fun g23 => ?_) | refine o_guard rfl rfl (fun g23 => ?_) (fun g23 => ?_)
    · refine oV vM ?_
      refine oN ?_
      refine oV (v_nilCheck rfl) ?_
      refine oN ?_
      refine oV (vF 1 Tryz.underlying141 ti4) ?_
      refine oN ?_
      refine oV (vL lone4) ?_
      refine oV vQ ?_
      refine o_nil ?_
      exact cJ J rfl (by first | rfl | (simp_all; done) | (simp_all; omega) | (simp; omega))
    · refine oX ?_
      iterate 3 refine oX ?_
      refine oV vT ?_
      refine o_nil ?_
      exact cJ J rfl (by first | rfl | (simp_all; done) | (simp_all; omega) | (simp; omega))
  refine c_cond_p rfl (fun hb => ?_) (fun hb => ?_)
  · have hno := nm_bad hk hb
    refine c_seq (c_region ?_)
    refine oV vA ?_
    refine oV vA ?_
    refine o_nil ?_
    refine c_ret2 Tryz.func115 rfl rfl rfl fun w O hS => ?_
    exact ⟨(), by rw [hno]; rfl, trivial, trivial⟩
  · obtain ⟨hk14, hkl, hnm⟩ := nm_good hk hb
    have hA := atoi_con (s.1.take k.toNat) te pe (by rw [List.length_take]; omega)
    refine c_skip (c_seq (c_region ?_))
    refine oV vM ?_
    refine oV (v_nilCheck rfl) ?_
    refine oV (vF 0 Tryz.underlying141 ti38) ?_
    refine oV (vL lone38) ?_
    refine oV vM ?_
    refine o_step (s_slice Tryz.underlying38 ti5 rfl (pX (by repeat constructor)) rfl (.inl ⟨rfl, rfl⟩) (.inr ⟨_, _, _, rfl, rfl, by omega, rfl⟩) (by omega) (by omega) (dd rfl) fun z => ?_)
    refine oV (v_conv_bytes Tryz.underlying38 Tryz.underlying5 Tryz.underlying9 rfl (hX (by repeat constructor))) ?_
    rw [List.drop_zero]
    refine o_step (s_callf_keep cl138 (hA) rfl (dd rfl) (rX (by repeat constructor)) (fun _ => sX) (fun g hg => ?_))
    refine oV vM ?_
    refine oV vE ?_
    refine oV vE ?_
    refine oV vA ?_
    refine oV vA ?_
    refine o_nil (c_seq (c_seq ?_))
    obtain ⟨n, ev⟩ := g
    dsimp only at hg ⊢
    rcases hg with ⟨ha, rfl⟩ | ⟨ha, tp, p, rfl⟩
    · have hbd := atoi_bound ha (by rw [List.length_take]; omega)
      have hit := itoa_con n (by omega)
      refine c_quiet rfl (by kernel_rfl) ?_
      refine qV vM ?_
      refine qV (v_ne_nilI Tryz.underlying165 rfl) ?_
      refine qV vM ?_
      refine qN ?_
      refine qV vM ?_
      refine qN ?_
      refine q_call_keep cl139 (hit) rfl (first := []) (cap := []) (fun _ _ => rfl) rfl rfl (dd rfl) (rX (by repeat constructor)) ?_
      refine qN ?_
      refine qV vM ?_
      refine qN ?_
      refine qV (v_nilCheck rfl) ?_
      refine qN ?_
      refine qV (vF 0 Tryz.underlying141 ti38) ?_
      refine qN ?_
      refine qV (vL lone38) ?_
      refine qN ?_
      refine qV vM ?_
      refine qN ?_
      refine q_slice Tryz.underlying38 ti5 rfl (pX (by repeat constructor)) (.inl ⟨rfl, rfl⟩) (.inr ⟨_, _, _, rfl, rfl, by omega, rfl⟩) (.inl ⟨rfl, rfl⟩) (by omega) (by first | omega | exact Nat.le_refl _) (by omega) (by omega) (dd rfl) (eX (by repeat constructor)) ?_
      refine qN ?_
      refine qV (v_conv_bytes Tryz.underlying38 Tryz.underlying5 Tryz.underlying9 rfl (hX (by repeat constructor))) ?_
      refine qN ?_
      refine qV (v_sne rfl rfl) ?_
      refine qV vQ ?_
      refine q_nil ?_
      rw [List.drop_zero]
      refine c_cond_p rfl (fun hs => ?_) (fun hs => ?_)
      · have hs2 : ¬ itoa n = s.1.take k.toNat := fun q => hs (congrArg sB q)
        refine c_seq (c_region ?_)
        refine oV vA ?_
        refine oV vA ?_
        refine o_nil ?_
        refine c_ret2 Tryz.func115 rfl rfl rfl fun w O hS => ?_
        exact ⟨(), by rw [hnm, ha]; dsimp only; rw [if_neg hs2]; rfl, trivial, trivial⟩
      · have hs2 : itoa n = s.1.take k.toNat := sB_inj (Classical.not_not.1 hs)
        refine c_skip (c_seq (c_region ?_))
        iterate 2 refine oV vM ?_
        refine oV ((by first | exact v_add64 rfl rfl (by omega) | exact v_add rfl rfl)) ?_
        refine oV vA ?_
        refine oV vA ?_
        refine o_nil ?_
        refine c_ret2 Tryz.func115 rfl rfl rfl fun w O hS => ?_
        exact ⟨(), by rw [hnm, ha]; dsimp only; rw [if_pos hs2]; show _ = Value.tuple #[.int .i64 n, .int .i64 ((k.toNat + 1 : Nat) : Int)]; rw [show ((k.toNat + 1 : Nat) : Int) = k + 1 by omega]; rfl, trivial, trivial⟩
    · skip
      refine c_quiet rfl (by kernel_rfl) ?_
      refine qV vM ?_
      refine qV (v_ne_iface Tryz.underlying165 rfl) ?_
      refine qV vM ?_
      iterate 10 refine qX ?_
      refine qV vT ?_
      refine q_nil ?_
      refine c_cond_t rfl ?_
      refine c_seq (c_region ?_)
      refine oV vA ?_
      refine oV vA ?_
      refine o_nil ?_
      refine c_ret2 Tryz.func115 rfl rfl rfl fun w O hS => ?_
      exact ⟨(), by rw [hnm, ha]; rfl, trivial, trivial⟩
set_option maxRecDepth 100000 in
theorem cloneB_con (v : Value) (xs : List UInt8) (hx : xs.length ≤ 140737488355000) : Con Tryz.prog 112 [v] [Sl eByte v xs] (γ := Value) (fun r => r) (fun _ => True) (fun r => [Own eByte 5 r xs]) := by
  refine Con.form (v := v) (xs := xs) (hX (by repeat constructor)) ?_
  rintro a0 c0 rfl hc0 -
  refine con_of Tryz.func112 rfl (dd rfl) fun w0 O0 => ?_
  refine c_seq (c_region ?_)
  refine oV vA ?_
  refine o_nil (c_seq (c_seq (c_region ?_)))
  refine oV vM ?_
  refine oV (v_eq_sl_nil Tryz.underlying38 rfl rfl) ?_
  refine o_nil ?_
  refine c_cond rfl (fun h => ?_) (fun h => ?_)
  · refine c_seq (c_region ?_)
    refine oV vA ?_
    refine o_nil ?_
    refine c_ret1 Tryz.func112 rfl rfl fun w O hS => ?_
    have : xs = [] := by
      cases a0 with
      | none => obtain ⟨_, _, _, h1, _⟩ := hS; exact Sl.none_nil h1
      | some _ => cases h
    subst this
    exact ⟨.slice none 0 0, rfl, trivial, stars_own_nil⟩
  · refine c_skip (c_seq (c_region ?_))
    refine o_step (s_buildSlice Tryz.underlying38 ti5 rfl rfl rfl (by decide) (by decide) (beside_byte []) rfl rfl (dd rfl) fun v1 => ?_)
    refine oV vM ?_
    refine o_step (s_append Tryz.underlying38 ti5 rfl (by decide) rfl rfl (dd rfl) (pB (by repeat constructor)) (pX (by repeat constructor)) rfl (by (first | omega | (simp only [maxLen, List.length_append, List.length_drop, List.length_take, List.length_nil, List.length_cons]; omega))) (by (first | omega | (simp only [maxLen, List.length_append, List.length_drop, List.length_take, List.length_nil, List.length_cons]; omega))) fun v2 => ?_)
    refine oV vA ?_
    refine o_nil ?_
    refine c_ret1 Tryz.func112 rfl rfl fun w O hS => ?_
    exact ⟨v2, rfl, trivial, Ent.get hS (eX (by repeat constructor))⟩
set_option maxRecDepth 100000 in
theorem bytes_con (b : Nat) (v : Value) (l : List UInt8) (hl : l.length ≤ 140737488355000) : Con Tryz.prog 55 [ptr b] [BlkR b 89 [v], Sl eByte v l] (γ := Value) (fun r => r) (fun _ => True) (fun r => [Own eByte 5 r l]) := by
  have hC := cloneB_con v l hl
  refine con_of Tryz.func55 rfl (dd rfl) fun w0 O0 => ?_
  refine c_seq (c_region ?_)
  refine oV vA ?_
  refine o_nil (c_seq (c_region ?_))
  refine oV vM ?_
  refine oV (v_nilCheck rfl) ?_
  refine oV (vF 0 Tryz.underlying89 ti38) ?_
  refine oV (vL lone38) ?_
  refine oC cl112 (hC) fun r _ => ?_
  refine oV vA ?_
  refine o_nil ?_
  refine c_ret1 Tryz.func55 rfl rfl fun w O hS => ?_
  exact ⟨r, rfl, trivial, Ent.get hS (eX (by repeat constructor))⟩
set_option maxRecDepth 100000 in
theorem of_con (v : Value) (l : List UInt8) (hl : l.length ≤ 140737488355000) : Con Tryz.prog 62 [v] [Sl eByte v l] (γ := Nat × Value) (fun g => ptr g.1) (fun _ => True) (fun g => [Blk g.1 141 [g.2, .bool false], Sl eByte g.2 l]) := by
  have hC := cloneB_con v l hl
  refine con_of Tryz.func62 rfl (dd rfl) fun w0 O0 => ?_
  refine c_seq (c_region ?_)
  refine oV vA ?_
  refine o_nil (c_seq (c_region ?_))
  refine oV vM ?_
  refine oC cl112 (hC) fun r _ => ?_
  refine oV (v_buildS (places := [(0, 1), (1, 1)]) (cells := [_, .bool false]) Tryz.underlying141 ti141 (by kernel_rfl) rfl (by repeat (first | exact PartsC.nil | (apply PartsC.one (by first | exact OneC.lit rfl | exact OneC.sl (hX (by repeat constructor)) )) | (apply PartsC.lit rfl))) rfl) ?_
  refine o_step (s_box rfl (dd rfl) (fun b6 => ?_))
  refine oV vA ?_
  refine o_nil ?_
  refine c_ret1 Tryz.func62 rfl rfl fun w O hS => ?_
  exact ⟨(b6, r), rfl, trivial, Ent.get hS (eX (by repeat constructor))⟩
set_option maxRecDepth 100000 in
theorem done_con (i : Nat) (bv : Value) (s : St9) : Con Tryz.prog 68 [ptr i] [BlkR i 141 [bv, .bool s.2], Sl eByte bv s.1] (γ := Unit) (fun _ => .bool (decide (s = ([], false)))) (fun _ => True) (fun _ => []) := by
  obtain ⟨l, b⟩ := s
  dsimp only
  refine con_of Tryz.func68 rfl (dd rfl) fun w0 O0 => ?_
  refine c_seq (c_region ?_)
  refine oV vA ?_
  refine o_nil (c_seq (c_region ?_))
  refine oV vM ?_
  refine oV (v_nilCheck rfl) ?_
  refine oV (vF 1 Tryz.underlying141 ti4) ?_
  refine oV (vL lone4) ?_
  refine oV (v_not rfl) ?_
  refine oV vM ?_
  refine o_guard rfl rfl (fun h => ?_) (fun h => ?_)
  · have hb : b = false := by simpa using h
    subst hb
    refine oV vM ?_
    refine oN ?_
    refine oV (v_nilCheck rfl) ?_
    refine oN ?_
    refine oV (vF 0 Tryz.underlying141 ti38) ?_
    refine oN ?_
    refine oV (vL lone38) ?_
    refine oN ?_
    refine oV ((by first | exact v_len_form Tryz.underlying38 rfl | exact v_len_sl Tryz.underlying38 rfl (hX (by repeat constructor)))) ?_
    refine oN ?_
    refine oV (v_eq rfl rfl) ?_
    refine oV vT ?_
    refine oV vA ?_
    refine o_nil ?_
    refine c_ret1 Tryz.func68 rfl rfl fun w O hS => ?_
    refine ⟨(), congrArg Value.bool (decide_eq_decide.2 ⟨fun h => ?_, fun h => ?_⟩), trivial, trivial⟩
    · rw [List.length_eq_zero_iff.1 (Int.ofNat.inj h)]
    · rw [(Prod.mk.inj h).1]; rfl
  · have hb : b = true := by simpa using h
    subst hb
    iterate 6 refine oX ?_
    refine oV vQ ?_
    refine oV vA ?_
    refine o_nil ?_
    refine c_ret1 Tryz.func68 rfl rfl fun w O hS => ?_
    exact ⟨(), by rw [decide_eq_false (by intro q; cases (Prod.mk.inj q).2)], trivial, trivial⟩
end Go.Proofs.YtlfehnnmpkohkaaGreatDoor
