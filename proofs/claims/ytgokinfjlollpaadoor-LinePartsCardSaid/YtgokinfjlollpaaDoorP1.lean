/- Chapter 1's plain laws: what lines, texts and rows of lines come to. No program. -/
namespace L01
abbrev Ls := List ByteArray

def bytesOf : List Ls → Nat
  | [] => 0
  | l :: r => (l.map (·.size)).sum + bytesOf r
def linesOf : List Ls → Nat
  | [] => 0
  | l :: r => l.length + linesOf r
def Stands (xs : Ls) (k : Int) (ps : Ls) : Prop := 0 ≤ k ∧ k.toNat + ps.length ≤ xs.length ∧ (xs.drop k.toNat).take ps.length = ps
instance (xs : Ls) (k : Int) (ps : Ls) : Decidable (Stands xs k ps) := by unfold Stands; infer_instance
def IsFind (xs ps : Ls) (fr r : Int) : Prop := (r = -1 ∧ ∀ a, fr ≤ a → ¬ Stands xs a ps) ∨ (fr ≤ r ∧ Stands xs r ps ∧ ∀ a, fr ≤ a → a < r → ¬ Stands xs a ps)
def IsHead (a b : Ls) (n : Nat) : Prop := n ≤ a.length ∧ n ≤ b.length ∧ a.take n = b.take n ∧ ∀ k, k ≤ a.length → k ≤ b.length → a.take k = b.take k → k ≤ n
def IsTail (a b : Ls) (n : Nat) : Prop := n ≤ a.length ∧ n ≤ b.length ∧ a.drop (a.length - n) = b.drop (b.length - n) ∧ ∀ k, k ≤ a.length → k ≤ b.length → a.drop (a.length - k) = b.drop (b.length - k) → k ≤ n
def RightS (s : ByteArray) : Prop := 10 ∉ s.data.toList ∧ s.size ≤ 60
instance (s : ByteArray) : Decidable (RightS s) := by unfold RightS; infer_instance
def nl : ByteArray := ⟨#[10]⟩
def textS : Ls → ByteArray
  | [] => ByteArray.empty
  | x :: l => x ++ nl ++ textS l
/-- The pieces of a text: a piece ends at each byte 10; what is left behind the last one is one, too, if there is something. -/
def cutGo : List UInt8 → List UInt8 → List (List UInt8)
  | cur, [] => if cur = [] then [] else [cur]
  | cur, b :: l => if b = 10 then cur :: cutGo [] l else cutGo (cur ++ [b]) l
def cutS (s : ByteArray) : Ls := (cutGo [] s.data.toList).map fun l => ⟨l.toArray⟩
end L01
