/-
  Own work. The program's data as trees, and their cells: lattices, types, expressions.
-/
import Derived.Test.YtcngmkedekmkhaaGreatEnv
namespace Go.Proofs.YtcngmkedekmkhaaGreat
open Go Go.Bw

abbrev intC (n : Int) : AV := .v (.int .i64 n)
abbrev boolC (b : Bool) : AV := .v (.bool b)
abbrev strC (s : ByteArray) : AV := .v (.string s)
def namesC (l : List ByteArray) : AV := .sl 1 (l.map fun s => [strC s])
structure Ru where
  ifs : List ByteArray
  thn : ByteArray
def rulesC (l : List Ru) : AV := .sl 2 (l.map fun r => [namesC r.ifs, strC r.thn])

inductive La where
  | mk (kind lo hi : Int) (names : List ByteArray) (parts : List La) (rules : List Ru)
mutual
def La.row : La → List AV
  | .mk k lo hi ns ps rs => [intC k, intC lo, intC hi, namesC ns, .sl 6 (La.rows ps), rulesC rs]
def La.rows : List La → List (List AV)
  | [] => []
  | l :: ls => La.row l :: La.rows ls
end

inductive Ex where
  | mk (op sort : Int) (l : La) (n : Int) (text : ByteArray) (at_ : Int) (kids : List Ex)
mutual
def Ex.row : Ex → List AV
  | .mk op s l n t a ks => [intC op, intC s] ++ La.row l ++ [intC n, strC t, intC a, .sl 12 (Ex.rows ks)]
def Ex.rows : List Ex → List (List AV)
  | [] => []
  | l :: ls => Ex.row l :: Ex.rows ls
end

theorem La.rows_eq : ∀ l : List La, La.rows l = l.map La.row
  | [] => rfl
  | x :: r => by simp [La.rows, La.rows_eq r]
theorem Ex.rows_eq : ∀ l : List Ex, Ex.rows l = l.map Ex.row
  | [] => rfl
  | x :: r => by simp [Ex.rows, Ex.rows_eq r]
theorem La.row_length : ∀ l : La, (La.row l).length = 6
  | .mk .. => rfl
theorem Ex.row_length : ∀ l : Ex, (Ex.row l).length = 12
  | .mk _ _ (.mk ..) .. => rfl

def La.kind : La → Int | .mk k .. => k
def La.lo : La → Int | .mk _ l .. => l
def La.hi : La → Int | .mk _ _ h .. => h
def La.names : La → List ByteArray | .mk _ _ _ n .. => n
def La.parts : La → List La | .mk _ _ _ _ p _ => p
def La.rules : La → List Ru | .mk _ _ _ _ _ r => r
def Ex.op : Ex → Int | .mk o .. => o
def Ex.sort : Ex → Int | .mk _ s .. => s
def Ex.la : Ex → La | .mk _ _ l .. => l
def Ex.n : Ex → Int | .mk _ _ _ n .. => n
def Ex.text : Ex → ByteArray | .mk _ _ _ _ t .. => t
def Ex.at_ : Ex → Int | .mk _ _ _ _ _ a _ => a
def Ex.kids : Ex → List Ex | .mk _ _ _ _ _ _ k => k
end Go.Proofs.YtcngmkedekmkhaaGreat
