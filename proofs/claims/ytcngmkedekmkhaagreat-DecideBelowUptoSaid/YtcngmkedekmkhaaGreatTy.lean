/-
  Own work, printed by a program. The program's types as trees, and their cells.
-/
import Derived.Test.YtcngmkedekmkhaaGreatCt
namespace Go.Proofs.YtcngmkedekmkhaaGreat
open Go Go.Bw
structure TParam where
  Name : (List UInt8)
  Sort_ : Int
def TParam.cs (x : TParam) : List AV := [.v (.string ⟨⟨x.Name⟩⟩), .v (.int .i64 x.Sort_)]
def TParam.rows (l : List TParam) : List (List AV) := l.map TParam.cs
theorem TParam.rows_map (l : List TParam) : TParam.rows l = l.map TParam.cs := rfl
theorem TParam.rows_len (l : List TParam) : (TParam.rows l).length = l.length := by rw [TParam.rows_map, List.length_map]
theorem TParam.rows_get {l : List TParam} {i : Nat} {x : TParam} (h : l[i]? = some x) : (TParam.rows l)[i]? = some (TParam.cs x) := by rw [TParam.rows_map]; exact get_map h
theorem TParam.rows_app (a b : List TParam) : TParam.rows (a ++ b) = TParam.rows a ++ TParam.rows b := by simp only [TParam.rows_map, List.map_append]
theorem TParam.rows_drop (n : Nat) (l : List TParam) : TParam.rows (l.drop n) = (TParam.rows l).drop n := by simp only [TParam.rows_map, List.map_drop]
theorem TParam.rows_take (n : Nat) (l : List TParam) : TParam.rows (l.take n) = (TParam.rows l).take n := by simp only [TParam.rows_map, List.map_take]
theorem TParam.rows_cons (x : TParam) (r : List TParam) : TParam.rows (x :: r) = TParam.cs x :: TParam.rows r := by simp only [TParam.rows_map, List.map_cons]
theorem TParam.rows_nil : TParam.rows [] = [] := by rw [TParam.rows_map]; rfl
theorem TParam.rows_set (l : List TParam) (i : Nat) (x : TParam) : TParam.rows (l.set i x) = (TParam.rows l).set i (TParam.cs x) := by simp only [TParam.rows_map, List.map_set]
structure TDatum where
  Sort_ : Int
  N : Int
  Name : (List UInt8)
  Names : (List (List UInt8))
def TDatum.cs (x : TDatum) : List AV := [.v (.int .i64 x.Sort_), .v (.int .i64 x.N), .v (.string ⟨⟨x.Name⟩⟩), .sl 1 (rowsS x.Names)]
def TDatum.rows (l : List TDatum) : List (List AV) := l.map TDatum.cs
theorem TDatum.rows_map (l : List TDatum) : TDatum.rows l = l.map TDatum.cs := rfl
theorem TDatum.rows_len (l : List TDatum) : (TDatum.rows l).length = l.length := by rw [TDatum.rows_map, List.length_map]
theorem TDatum.rows_get {l : List TDatum} {i : Nat} {x : TDatum} (h : l[i]? = some x) : (TDatum.rows l)[i]? = some (TDatum.cs x) := by rw [TDatum.rows_map]; exact get_map h
theorem TDatum.rows_app (a b : List TDatum) : TDatum.rows (a ++ b) = TDatum.rows a ++ TDatum.rows b := by simp only [TDatum.rows_map, List.map_append]
theorem TDatum.rows_drop (n : Nat) (l : List TDatum) : TDatum.rows (l.drop n) = (TDatum.rows l).drop n := by simp only [TDatum.rows_map, List.map_drop]
theorem TDatum.rows_take (n : Nat) (l : List TDatum) : TDatum.rows (l.take n) = (TDatum.rows l).take n := by simp only [TDatum.rows_map, List.map_take]
theorem TDatum.rows_cons (x : TDatum) (r : List TDatum) : TDatum.rows (x :: r) = TDatum.cs x :: TDatum.rows r := by simp only [TDatum.rows_map, List.map_cons]
theorem TDatum.rows_nil : TDatum.rows [] = [] := by rw [TDatum.rows_map]; rfl
theorem TDatum.rows_set (l : List TDatum) (i : Nat) (x : TDatum) : TDatum.rows (l.set i x) = (TDatum.rows l).set i (TDatum.cs x) := by simp only [TDatum.rows_map, List.map_set]
structure TRule where
  If : (List (List UInt8))
  Then : (List UInt8)
def TRule.cs (x : TRule) : List AV := [.sl 1 (rowsS x.If), .v (.string ⟨⟨x.Then⟩⟩)]
def TRule.rows (l : List TRule) : List (List AV) := l.map TRule.cs
theorem TRule.rows_map (l : List TRule) : TRule.rows l = l.map TRule.cs := rfl
theorem TRule.rows_len (l : List TRule) : (TRule.rows l).length = l.length := by rw [TRule.rows_map, List.length_map]
theorem TRule.rows_get {l : List TRule} {i : Nat} {x : TRule} (h : l[i]? = some x) : (TRule.rows l)[i]? = some (TRule.cs x) := by rw [TRule.rows_map]; exact get_map h
theorem TRule.rows_app (a b : List TRule) : TRule.rows (a ++ b) = TRule.rows a ++ TRule.rows b := by simp only [TRule.rows_map, List.map_append]
theorem TRule.rows_drop (n : Nat) (l : List TRule) : TRule.rows (l.drop n) = (TRule.rows l).drop n := by simp only [TRule.rows_map, List.map_drop]
theorem TRule.rows_take (n : Nat) (l : List TRule) : TRule.rows (l.take n) = (TRule.rows l).take n := by simp only [TRule.rows_map, List.map_take]
theorem TRule.rows_cons (x : TRule) (r : List TRule) : TRule.rows (x :: r) = TRule.cs x :: TRule.rows r := by simp only [TRule.rows_map, List.map_cons]
theorem TRule.rows_nil : TRule.rows [] = [] := by rw [TRule.rows_map]; rfl
theorem TRule.rows_set (l : List TRule) (i : Nat) (x : TRule) : TRule.rows (l.set i x) = (TRule.rows l).set i (TRule.cs x) := by simp only [TRule.rows_map, List.map_set]
structure TLattice where
  Kind : Int
  Lo : Int
  Hi : Int
  Names : (List (List UInt8))
  Parts : (List TLattice)
  Rules : (List TRule)
mutual
def TLattice.cells : TLattice → List AV
  | ⟨vKind, vLo, vHi, vNames, vParts, vRules⟩ => [.v (.int .i64 vKind), .v (.int .i64 vLo), .v (.int .i64 vHi), .sl 1 (rowsS vNames), .sl 6 (TLattice.rows vParts), .sl 2 (TRule.rows vRules)]
def TLattice.rows : List TLattice → List (List AV)
  | [] => []
  | x :: r => TLattice.cells x :: TLattice.rows r
end
def TLattice.cs (x : TLattice) : List AV := [.v (.int .i64 x.Kind), .v (.int .i64 x.Lo), .v (.int .i64 x.Hi), .sl 1 (rowsS x.Names), .sl 6 (TLattice.rows x.Parts), .sl 2 (TRule.rows x.Rules)]
theorem TLattice.cells_eq : ∀ x : TLattice, TLattice.cells x = TLattice.cs x
  | ⟨vKind, vLo, vHi, vNames, vParts, vRules⟩ => by first | rfl | simp only [TLattice.cells, TLattice.cs]
theorem TLattice.rows_map : ∀ l : List TLattice, TLattice.rows l = l.map TLattice.cs
  | [] => by simp only [TLattice.rows, List.map_nil]
  | x :: r => by simp only [TLattice.rows, TLattice.cells_eq, TLattice.rows_map r, List.map_cons]
theorem TLattice.rows_len (l : List TLattice) : (TLattice.rows l).length = l.length := by rw [TLattice.rows_map, List.length_map]
theorem TLattice.rows_get {l : List TLattice} {i : Nat} {x : TLattice} (h : l[i]? = some x) : (TLattice.rows l)[i]? = some (TLattice.cs x) := by rw [TLattice.rows_map]; exact get_map h
theorem TLattice.rows_app (a b : List TLattice) : TLattice.rows (a ++ b) = TLattice.rows a ++ TLattice.rows b := by simp only [TLattice.rows_map, List.map_append]
theorem TLattice.rows_drop (n : Nat) (l : List TLattice) : TLattice.rows (l.drop n) = (TLattice.rows l).drop n := by simp only [TLattice.rows_map, List.map_drop]
theorem TLattice.rows_take (n : Nat) (l : List TLattice) : TLattice.rows (l.take n) = (TLattice.rows l).take n := by simp only [TLattice.rows_map, List.map_take]
theorem TLattice.rows_cons (x : TLattice) (r : List TLattice) : TLattice.rows (x :: r) = TLattice.cs x :: TLattice.rows r := by simp only [TLattice.rows_map, List.map_cons]
theorem TLattice.rows_nil : TLattice.rows [] = [] := by rw [TLattice.rows_map]; rfl
theorem TLattice.rows_set (l : List TLattice) (i : Nat) (x : TLattice) : TLattice.rows (l.set i x) = (TLattice.rows l).set i (TLattice.cs x) := by simp only [TLattice.rows_map, List.map_set]
structure TType where
  Sort_ : Int
  Lattice : TLattice
def TType.cs (x : TType) : List AV := [.v (.int .i64 x.Sort_), .v (.int .i64 x.Lattice.Kind), .v (.int .i64 x.Lattice.Lo), .v (.int .i64 x.Lattice.Hi), .sl 1 (rowsS x.Lattice.Names), .sl 6 (TLattice.rows x.Lattice.Parts), .sl 2 (TRule.rows x.Lattice.Rules)]
def TType.rows (l : List TType) : List (List AV) := l.map TType.cs
theorem TType.rows_map (l : List TType) : TType.rows l = l.map TType.cs := rfl
theorem TType.rows_len (l : List TType) : (TType.rows l).length = l.length := by rw [TType.rows_map, List.length_map]
theorem TType.rows_get {l : List TType} {i : Nat} {x : TType} (h : l[i]? = some x) : (TType.rows l)[i]? = some (TType.cs x) := by rw [TType.rows_map]; exact get_map h
theorem TType.rows_app (a b : List TType) : TType.rows (a ++ b) = TType.rows a ++ TType.rows b := by simp only [TType.rows_map, List.map_append]
theorem TType.rows_drop (n : Nat) (l : List TType) : TType.rows (l.drop n) = (TType.rows l).drop n := by simp only [TType.rows_map, List.map_drop]
theorem TType.rows_take (n : Nat) (l : List TType) : TType.rows (l.take n) = (TType.rows l).take n := by simp only [TType.rows_map, List.map_take]
theorem TType.rows_cons (x : TType) (r : List TType) : TType.rows (x :: r) = TType.cs x :: TType.rows r := by simp only [TType.rows_map, List.map_cons]
theorem TType.rows_nil : TType.rows [] = [] := by rw [TType.rows_map]; rfl
theorem TType.rows_set (l : List TType) (i : Nat) (x : TType) : TType.rows (l.set i x) = (TType.rows l).set i (TType.cs x) := by simp only [TType.rows_map, List.map_set]
structure TExpr where
  Op : Int
  Type_ : TType
  N : Int
  Text : (List UInt8)
  At : Int
  Kids : (List TExpr)
mutual
def TExpr.cells : TExpr → List AV
  | ⟨vOp, vType_, vN, vText, vAt, vKids⟩ => [.v (.int .i64 vOp), .v (.int .i64 vType_.Sort_), .v (.int .i64 vType_.Lattice.Kind), .v (.int .i64 vType_.Lattice.Lo), .v (.int .i64 vType_.Lattice.Hi), .sl 1 (rowsS vType_.Lattice.Names), .sl 6 (TLattice.rows vType_.Lattice.Parts), .sl 2 (TRule.rows vType_.Lattice.Rules), .v (.int .i64 vN), .v (.string ⟨⟨vText⟩⟩), .v (.int .i64 vAt), .sl 12 (TExpr.rows vKids)]
def TExpr.rows : List TExpr → List (List AV)
  | [] => []
  | x :: r => TExpr.cells x :: TExpr.rows r
end
def TExpr.cs (x : TExpr) : List AV := [.v (.int .i64 x.Op), .v (.int .i64 x.Type_.Sort_), .v (.int .i64 x.Type_.Lattice.Kind), .v (.int .i64 x.Type_.Lattice.Lo), .v (.int .i64 x.Type_.Lattice.Hi), .sl 1 (rowsS x.Type_.Lattice.Names), .sl 6 (TLattice.rows x.Type_.Lattice.Parts), .sl 2 (TRule.rows x.Type_.Lattice.Rules), .v (.int .i64 x.N), .v (.string ⟨⟨x.Text⟩⟩), .v (.int .i64 x.At), .sl 12 (TExpr.rows x.Kids)]
theorem TExpr.cells_eq : ∀ x : TExpr, TExpr.cells x = TExpr.cs x
  | ⟨vOp, vType_, vN, vText, vAt, vKids⟩ => by first | rfl | simp only [TExpr.cells, TExpr.cs]
theorem TExpr.rows_map : ∀ l : List TExpr, TExpr.rows l = l.map TExpr.cs
  | [] => by simp only [TExpr.rows, List.map_nil]
  | x :: r => by simp only [TExpr.rows, TExpr.cells_eq, TExpr.rows_map r, List.map_cons]
theorem TExpr.rows_len (l : List TExpr) : (TExpr.rows l).length = l.length := by rw [TExpr.rows_map, List.length_map]
theorem TExpr.rows_get {l : List TExpr} {i : Nat} {x : TExpr} (h : l[i]? = some x) : (TExpr.rows l)[i]? = some (TExpr.cs x) := by rw [TExpr.rows_map]; exact get_map h
theorem TExpr.rows_app (a b : List TExpr) : TExpr.rows (a ++ b) = TExpr.rows a ++ TExpr.rows b := by simp only [TExpr.rows_map, List.map_append]
theorem TExpr.rows_drop (n : Nat) (l : List TExpr) : TExpr.rows (l.drop n) = (TExpr.rows l).drop n := by simp only [TExpr.rows_map, List.map_drop]
theorem TExpr.rows_take (n : Nat) (l : List TExpr) : TExpr.rows (l.take n) = (TExpr.rows l).take n := by simp only [TExpr.rows_map, List.map_take]
theorem TExpr.rows_cons (x : TExpr) (r : List TExpr) : TExpr.rows (x :: r) = TExpr.cs x :: TExpr.rows r := by simp only [TExpr.rows_map, List.map_cons]
theorem TExpr.rows_nil : TExpr.rows [] = [] := by rw [TExpr.rows_map]; rfl
theorem TExpr.rows_set (l : List TExpr) (i : Nat) (x : TExpr) : TExpr.rows (l.set i x) = (TExpr.rows l).set i (TExpr.cs x) := by simp only [TExpr.rows_map, List.map_set]
structure TTick where
  Process : Int
  N : Int
def TTick.cs (x : TTick) : List AV := [.v (.int .i64 x.Process), .v (.int .i64 x.N)]
def TTick.rows (l : List TTick) : List (List AV) := l.map TTick.cs
theorem TTick.rows_map (l : List TTick) : TTick.rows l = l.map TTick.cs := rfl
theorem TTick.rows_len (l : List TTick) : (TTick.rows l).length = l.length := by rw [TTick.rows_map, List.length_map]
theorem TTick.rows_get {l : List TTick} {i : Nat} {x : TTick} (h : l[i]? = some x) : (TTick.rows l)[i]? = some (TTick.cs x) := by rw [TTick.rows_map]; exact get_map h
theorem TTick.rows_app (a b : List TTick) : TTick.rows (a ++ b) = TTick.rows a ++ TTick.rows b := by simp only [TTick.rows_map, List.map_append]
theorem TTick.rows_drop (n : Nat) (l : List TTick) : TTick.rows (l.drop n) = (TTick.rows l).drop n := by simp only [TTick.rows_map, List.map_drop]
theorem TTick.rows_take (n : Nat) (l : List TTick) : TTick.rows (l.take n) = (TTick.rows l).take n := by simp only [TTick.rows_map, List.map_take]
theorem TTick.rows_cons (x : TTick) (r : List TTick) : TTick.rows (x :: r) = TTick.cs x :: TTick.rows r := by simp only [TTick.rows_map, List.map_cons]
theorem TTick.rows_nil : TTick.rows [] = [] := by rw [TTick.rows_map]; rfl
theorem TTick.rows_set (l : List TTick) (i : Nat) (x : TTick) : TTick.rows (l.set i x) = (TTick.rows l).set i (TTick.cs x) := by simp only [TTick.rows_map, List.map_set]
structure TEntry where
  Clock : (List TTick)
  Name : (List UInt8)
def TEntry.cs (x : TEntry) : List AV := [.sl 2 (TTick.rows x.Clock), .v (.string ⟨⟨x.Name⟩⟩)]
def TEntry.rows (l : List TEntry) : List (List AV) := l.map TEntry.cs
theorem TEntry.rows_map (l : List TEntry) : TEntry.rows l = l.map TEntry.cs := rfl
theorem TEntry.rows_len (l : List TEntry) : (TEntry.rows l).length = l.length := by rw [TEntry.rows_map, List.length_map]
theorem TEntry.rows_get {l : List TEntry} {i : Nat} {x : TEntry} (h : l[i]? = some x) : (TEntry.rows l)[i]? = some (TEntry.cs x) := by rw [TEntry.rows_map]; exact get_map h
theorem TEntry.rows_app (a b : List TEntry) : TEntry.rows (a ++ b) = TEntry.rows a ++ TEntry.rows b := by simp only [TEntry.rows_map, List.map_append]
theorem TEntry.rows_drop (n : Nat) (l : List TEntry) : TEntry.rows (l.drop n) = (TEntry.rows l).drop n := by simp only [TEntry.rows_map, List.map_drop]
theorem TEntry.rows_take (n : Nat) (l : List TEntry) : TEntry.rows (l.take n) = (TEntry.rows l).take n := by simp only [TEntry.rows_map, List.map_take]
theorem TEntry.rows_cons (x : TEntry) (r : List TEntry) : TEntry.rows (x :: r) = TEntry.cs x :: TEntry.rows r := by simp only [TEntry.rows_map, List.map_cons]
theorem TEntry.rows_nil : TEntry.rows [] = [] := by rw [TEntry.rows_map]; rfl
theorem TEntry.rows_set (l : List TEntry) (i : Nat) (x : TEntry) : TEntry.rows (l.set i x) = (TEntry.rows l).set i (TEntry.cs x) := by simp only [TEntry.rows_map, List.map_set]
structure TValue where
  N : Int
  Names : (List (List UInt8))
  Parts : (List TValue)
  Entries : (List TEntry)
mutual
def TValue.cells : TValue → List AV
  | ⟨vN, vNames, vParts, vEntries⟩ => [.v (.int .i64 vN), .sl 1 (rowsS vNames), .sl 4 (TValue.rows vParts), .sl 2 (TEntry.rows vEntries)]
def TValue.rows : List TValue → List (List AV)
  | [] => []
  | x :: r => TValue.cells x :: TValue.rows r
end
def TValue.cs (x : TValue) : List AV := [.v (.int .i64 x.N), .sl 1 (rowsS x.Names), .sl 4 (TValue.rows x.Parts), .sl 2 (TEntry.rows x.Entries)]
theorem TValue.cells_eq : ∀ x : TValue, TValue.cells x = TValue.cs x
  | ⟨vN, vNames, vParts, vEntries⟩ => by first | rfl | simp only [TValue.cells, TValue.cs]
theorem TValue.rows_map : ∀ l : List TValue, TValue.rows l = l.map TValue.cs
  | [] => by simp only [TValue.rows, List.map_nil]
  | x :: r => by simp only [TValue.rows, TValue.cells_eq, TValue.rows_map r, List.map_cons]
theorem TValue.rows_len (l : List TValue) : (TValue.rows l).length = l.length := by rw [TValue.rows_map, List.length_map]
theorem TValue.rows_get {l : List TValue} {i : Nat} {x : TValue} (h : l[i]? = some x) : (TValue.rows l)[i]? = some (TValue.cs x) := by rw [TValue.rows_map]; exact get_map h
theorem TValue.rows_app (a b : List TValue) : TValue.rows (a ++ b) = TValue.rows a ++ TValue.rows b := by simp only [TValue.rows_map, List.map_append]
theorem TValue.rows_drop (n : Nat) (l : List TValue) : TValue.rows (l.drop n) = (TValue.rows l).drop n := by simp only [TValue.rows_map, List.map_drop]
theorem TValue.rows_take (n : Nat) (l : List TValue) : TValue.rows (l.take n) = (TValue.rows l).take n := by simp only [TValue.rows_map, List.map_take]
theorem TValue.rows_cons (x : TValue) (r : List TValue) : TValue.rows (x :: r) = TValue.cs x :: TValue.rows r := by simp only [TValue.rows_map, List.map_cons]
theorem TValue.rows_nil : TValue.rows [] = [] := by rw [TValue.rows_map]; rfl
theorem TValue.rows_set (l : List TValue) (i : Nat) (x : TValue) : TValue.rows (l.set i x) = (TValue.rows l).set i (TValue.cs x) := by simp only [TValue.rows_map, List.map_set]
structure TFunction where
  Name : (List UInt8)
  On : (List UInt8)
  Params : (List TParam)
  Result : Int
  Body : TExpr
def TFunction.cs (x : TFunction) : List AV := [.v (.string ⟨⟨x.Name⟩⟩), .v (.string ⟨⟨x.On⟩⟩), .sl 2 (TParam.rows x.Params), .v (.int .i64 x.Result), .v (.int .i64 x.Body.Op), .v (.int .i64 x.Body.Type_.Sort_), .v (.int .i64 x.Body.Type_.Lattice.Kind), .v (.int .i64 x.Body.Type_.Lattice.Lo), .v (.int .i64 x.Body.Type_.Lattice.Hi), .sl 1 (rowsS x.Body.Type_.Lattice.Names), .sl 6 (TLattice.rows x.Body.Type_.Lattice.Parts), .sl 2 (TRule.rows x.Body.Type_.Lattice.Rules), .v (.int .i64 x.Body.N), .v (.string ⟨⟨x.Body.Text⟩⟩), .v (.int .i64 x.Body.At), .sl 12 (TExpr.rows x.Body.Kids)]
def TFunction.rows (l : List TFunction) : List (List AV) := l.map TFunction.cs
theorem TFunction.rows_map (l : List TFunction) : TFunction.rows l = l.map TFunction.cs := rfl
theorem TFunction.rows_len (l : List TFunction) : (TFunction.rows l).length = l.length := by rw [TFunction.rows_map, List.length_map]
theorem TFunction.rows_get {l : List TFunction} {i : Nat} {x : TFunction} (h : l[i]? = some x) : (TFunction.rows l)[i]? = some (TFunction.cs x) := by rw [TFunction.rows_map]; exact get_map h
theorem TFunction.rows_app (a b : List TFunction) : TFunction.rows (a ++ b) = TFunction.rows a ++ TFunction.rows b := by simp only [TFunction.rows_map, List.map_append]
theorem TFunction.rows_drop (n : Nat) (l : List TFunction) : TFunction.rows (l.drop n) = (TFunction.rows l).drop n := by simp only [TFunction.rows_map, List.map_drop]
theorem TFunction.rows_take (n : Nat) (l : List TFunction) : TFunction.rows (l.take n) = (TFunction.rows l).take n := by simp only [TFunction.rows_map, List.map_take]
theorem TFunction.rows_cons (x : TFunction) (r : List TFunction) : TFunction.rows (x :: r) = TFunction.cs x :: TFunction.rows r := by simp only [TFunction.rows_map, List.map_cons]
theorem TFunction.rows_nil : TFunction.rows [] = [] := by rw [TFunction.rows_map]; rfl
theorem TFunction.rows_set (l : List TFunction) (i : Nat) (x : TFunction) : TFunction.rows (l.set i x) = (TFunction.rows l).set i (TFunction.cs x) := by simp only [TFunction.rows_map, List.map_set]
structure TdecideUAnswer where
  Holds : Bool
  I : Int
  J : Int
def TdecideUAnswer.cs (x : TdecideUAnswer) : List AV := [.v (.bool x.Holds), .v (.int .i64 x.I), .v (.int .i64 x.J)]
def TdecideUAnswer.rows (l : List TdecideUAnswer) : List (List AV) := l.map TdecideUAnswer.cs
theorem TdecideUAnswer.rows_map (l : List TdecideUAnswer) : TdecideUAnswer.rows l = l.map TdecideUAnswer.cs := rfl
theorem TdecideUAnswer.rows_len (l : List TdecideUAnswer) : (TdecideUAnswer.rows l).length = l.length := by rw [TdecideUAnswer.rows_map, List.length_map]
theorem TdecideUAnswer.rows_get {l : List TdecideUAnswer} {i : Nat} {x : TdecideUAnswer} (h : l[i]? = some x) : (TdecideUAnswer.rows l)[i]? = some (TdecideUAnswer.cs x) := by rw [TdecideUAnswer.rows_map]; exact get_map h
theorem TdecideUAnswer.rows_app (a b : List TdecideUAnswer) : TdecideUAnswer.rows (a ++ b) = TdecideUAnswer.rows a ++ TdecideUAnswer.rows b := by simp only [TdecideUAnswer.rows_map, List.map_append]
theorem TdecideUAnswer.rows_drop (n : Nat) (l : List TdecideUAnswer) : TdecideUAnswer.rows (l.drop n) = (TdecideUAnswer.rows l).drop n := by simp only [TdecideUAnswer.rows_map, List.map_drop]
theorem TdecideUAnswer.rows_take (n : Nat) (l : List TdecideUAnswer) : TdecideUAnswer.rows (l.take n) = (TdecideUAnswer.rows l).take n := by simp only [TdecideUAnswer.rows_map, List.map_take]
theorem TdecideUAnswer.rows_cons (x : TdecideUAnswer) (r : List TdecideUAnswer) : TdecideUAnswer.rows (x :: r) = TdecideUAnswer.cs x :: TdecideUAnswer.rows r := by simp only [TdecideUAnswer.rows_map, List.map_cons]
theorem TdecideUAnswer.rows_nil : TdecideUAnswer.rows [] = [] := by rw [TdecideUAnswer.rows_map]; rfl
theorem TdecideUAnswer.rows_set (l : List TdecideUAnswer) (i : Nat) (x : TdecideUAnswer) : TdecideUAnswer.rows (l.set i x) = (TdecideUAnswer.rows l).set i (TdecideUAnswer.cs x) := by simp only [TdecideUAnswer.rows_map, List.map_set]
structure TevalUresult where
  d : TDatum
  v : TValue
def TevalUresult.cs (x : TevalUresult) : List AV := [.v (.int .i64 x.d.Sort_), .v (.int .i64 x.d.N), .v (.string ⟨⟨x.d.Name⟩⟩), .sl 1 (rowsS x.d.Names), .v (.int .i64 x.v.N), .sl 1 (rowsS x.v.Names), .sl 4 (TValue.rows x.v.Parts), .sl 2 (TEntry.rows x.v.Entries)]
def TevalUresult.rows (l : List TevalUresult) : List (List AV) := l.map TevalUresult.cs
theorem TevalUresult.rows_map (l : List TevalUresult) : TevalUresult.rows l = l.map TevalUresult.cs := rfl
theorem TevalUresult.rows_len (l : List TevalUresult) : (TevalUresult.rows l).length = l.length := by rw [TevalUresult.rows_map, List.length_map]
theorem TevalUresult.rows_get {l : List TevalUresult} {i : Nat} {x : TevalUresult} (h : l[i]? = some x) : (TevalUresult.rows l)[i]? = some (TevalUresult.cs x) := by rw [TevalUresult.rows_map]; exact get_map h
theorem TevalUresult.rows_app (a b : List TevalUresult) : TevalUresult.rows (a ++ b) = TevalUresult.rows a ++ TevalUresult.rows b := by simp only [TevalUresult.rows_map, List.map_append]
theorem TevalUresult.rows_drop (n : Nat) (l : List TevalUresult) : TevalUresult.rows (l.drop n) = (TevalUresult.rows l).drop n := by simp only [TevalUresult.rows_map, List.map_drop]
theorem TevalUresult.rows_take (n : Nat) (l : List TevalUresult) : TevalUresult.rows (l.take n) = (TevalUresult.rows l).take n := by simp only [TevalUresult.rows_map, List.map_take]
theorem TevalUresult.rows_cons (x : TevalUresult) (r : List TevalUresult) : TevalUresult.rows (x :: r) = TevalUresult.cs x :: TevalUresult.rows r := by simp only [TevalUresult.rows_map, List.map_cons]
theorem TevalUresult.rows_nil : TevalUresult.rows [] = [] := by rw [TevalUresult.rows_map]; rfl
theorem TevalUresult.rows_set (l : List TevalUresult) (i : Nat) (x : TevalUresult) : TevalUresult.rows (l.set i x) = (TevalUresult.rows l).set i (TevalUresult.cs x) := by simp only [TevalUresult.rows_map, List.map_set]
structure TevalUframe where
  state : TValue
  args : (List TDatum)
def TevalUframe.cs (x : TevalUframe) : List AV := [.v (.int .i64 x.state.N), .sl 1 (rowsS x.state.Names), .sl 4 (TValue.rows x.state.Parts), .sl 2 (TEntry.rows x.state.Entries), .sl 4 (TDatum.rows x.args)]
def TevalUframe.rows (l : List TevalUframe) : List (List AV) := l.map TevalUframe.cs
theorem TevalUframe.rows_map (l : List TevalUframe) : TevalUframe.rows l = l.map TevalUframe.cs := rfl
theorem TevalUframe.rows_len (l : List TevalUframe) : (TevalUframe.rows l).length = l.length := by rw [TevalUframe.rows_map, List.length_map]
theorem TevalUframe.rows_get {l : List TevalUframe} {i : Nat} {x : TevalUframe} (h : l[i]? = some x) : (TevalUframe.rows l)[i]? = some (TevalUframe.cs x) := by rw [TevalUframe.rows_map]; exact get_map h
theorem TevalUframe.rows_app (a b : List TevalUframe) : TevalUframe.rows (a ++ b) = TevalUframe.rows a ++ TevalUframe.rows b := by simp only [TevalUframe.rows_map, List.map_append]
theorem TevalUframe.rows_drop (n : Nat) (l : List TevalUframe) : TevalUframe.rows (l.drop n) = (TevalUframe.rows l).drop n := by simp only [TevalUframe.rows_map, List.map_drop]
theorem TevalUframe.rows_take (n : Nat) (l : List TevalUframe) : TevalUframe.rows (l.take n) = (TevalUframe.rows l).take n := by simp only [TevalUframe.rows_map, List.map_take]
theorem TevalUframe.rows_cons (x : TevalUframe) (r : List TevalUframe) : TevalUframe.rows (x :: r) = TevalUframe.cs x :: TevalUframe.rows r := by simp only [TevalUframe.rows_map, List.map_cons]
theorem TevalUframe.rows_nil : TevalUframe.rows [] = [] := by rw [TevalUframe.rows_map]; rfl
theorem TevalUframe.rows_set (l : List TevalUframe) (i : Nat) (x : TevalUframe) : TevalUframe.rows (l.set i x) = (TevalUframe.rows l).set i (TevalUframe.cs x) := by simp only [TevalUframe.rows_map, List.map_set]
structure TNode where
  Kind : Int
  Text : (List UInt8)
  N : Int
  At : Int
  Kids : (List TNode)
mutual
def TNode.cells : TNode → List AV
  | ⟨vKind, vText, vN, vAt, vKids⟩ => [.v (.int .i64 vKind), .v (.string ⟨⟨vText⟩⟩), .v (.int .i64 vN), .v (.int .i64 vAt), .sl 5 (TNode.rows vKids)]
def TNode.rows : List TNode → List (List AV)
  | [] => []
  | x :: r => TNode.cells x :: TNode.rows r
end
def TNode.cs (x : TNode) : List AV := [.v (.int .i64 x.Kind), .v (.string ⟨⟨x.Text⟩⟩), .v (.int .i64 x.N), .v (.int .i64 x.At), .sl 5 (TNode.rows x.Kids)]
theorem TNode.cells_eq : ∀ x : TNode, TNode.cells x = TNode.cs x
  | ⟨vKind, vText, vN, vAt, vKids⟩ => by first | rfl | simp only [TNode.cells, TNode.cs]
theorem TNode.rows_map : ∀ l : List TNode, TNode.rows l = l.map TNode.cs
  | [] => by simp only [TNode.rows, List.map_nil]
  | x :: r => by simp only [TNode.rows, TNode.cells_eq, TNode.rows_map r, List.map_cons]
theorem TNode.rows_len (l : List TNode) : (TNode.rows l).length = l.length := by rw [TNode.rows_map, List.length_map]
theorem TNode.rows_get {l : List TNode} {i : Nat} {x : TNode} (h : l[i]? = some x) : (TNode.rows l)[i]? = some (TNode.cs x) := by rw [TNode.rows_map]; exact get_map h
theorem TNode.rows_app (a b : List TNode) : TNode.rows (a ++ b) = TNode.rows a ++ TNode.rows b := by simp only [TNode.rows_map, List.map_append]
theorem TNode.rows_drop (n : Nat) (l : List TNode) : TNode.rows (l.drop n) = (TNode.rows l).drop n := by simp only [TNode.rows_map, List.map_drop]
theorem TNode.rows_take (n : Nat) (l : List TNode) : TNode.rows (l.take n) = (TNode.rows l).take n := by simp only [TNode.rows_map, List.map_take]
theorem TNode.rows_cons (x : TNode) (r : List TNode) : TNode.rows (x :: r) = TNode.cs x :: TNode.rows r := by simp only [TNode.rows_map, List.map_cons]
theorem TNode.rows_nil : TNode.rows [] = [] := by rw [TNode.rows_map]; rfl
theorem TNode.rows_set (l : List TNode) (i : Nat) (x : TNode) : TNode.rows (l.set i x) = (TNode.rows l).set i (TNode.cs x) := by simp only [TNode.rows_map, List.map_set]
structure TFault where
  Code : Int
  At : Int
def TFault.cs (x : TFault) : List AV := [.v (.int .i64 x.Code), .v (.int .i64 x.At)]
def TFault.rows (l : List TFault) : List (List AV) := l.map TFault.cs
theorem TFault.rows_map (l : List TFault) : TFault.rows l = l.map TFault.cs := rfl
theorem TFault.rows_len (l : List TFault) : (TFault.rows l).length = l.length := by rw [TFault.rows_map, List.length_map]
theorem TFault.rows_get {l : List TFault} {i : Nat} {x : TFault} (h : l[i]? = some x) : (TFault.rows l)[i]? = some (TFault.cs x) := by rw [TFault.rows_map]; exact get_map h
theorem TFault.rows_app (a b : List TFault) : TFault.rows (a ++ b) = TFault.rows a ++ TFault.rows b := by simp only [TFault.rows_map, List.map_append]
theorem TFault.rows_drop (n : Nat) (l : List TFault) : TFault.rows (l.drop n) = (TFault.rows l).drop n := by simp only [TFault.rows_map, List.map_drop]
theorem TFault.rows_take (n : Nat) (l : List TFault) : TFault.rows (l.take n) = (TFault.rows l).take n := by simp only [TFault.rows_map, List.map_take]
theorem TFault.rows_cons (x : TFault) (r : List TFault) : TFault.rows (x :: r) = TFault.cs x :: TFault.rows r := by simp only [TFault.rows_map, List.map_cons]
theorem TFault.rows_nil : TFault.rows [] = [] := by rw [TFault.rows_map]; rfl
theorem TFault.rows_set (l : List TFault) (i : Nat) (x : TFault) : TFault.rows (l.set i x) = (TFault.rows l).set i (TFault.cs x) := by simp only [TFault.rows_map, List.map_set]
structure Tplexusref18UScope where
  L : TLattice
  Params : (List TParam)
def Tplexusref18UScope.cs (x : Tplexusref18UScope) : List AV := [.v (.int .i64 x.L.Kind), .v (.int .i64 x.L.Lo), .v (.int .i64 x.L.Hi), .sl 1 (rowsS x.L.Names), .sl 6 (TLattice.rows x.L.Parts), .sl 2 (TRule.rows x.L.Rules), .sl 2 (TParam.rows x.Params)]
def Tplexusref18UScope.rows (l : List Tplexusref18UScope) : List (List AV) := l.map Tplexusref18UScope.cs
theorem Tplexusref18UScope.rows_map (l : List Tplexusref18UScope) : Tplexusref18UScope.rows l = l.map Tplexusref18UScope.cs := rfl
theorem Tplexusref18UScope.rows_len (l : List Tplexusref18UScope) : (Tplexusref18UScope.rows l).length = l.length := by rw [Tplexusref18UScope.rows_map, List.length_map]
theorem Tplexusref18UScope.rows_get {l : List Tplexusref18UScope} {i : Nat} {x : Tplexusref18UScope} (h : l[i]? = some x) : (Tplexusref18UScope.rows l)[i]? = some (Tplexusref18UScope.cs x) := by rw [Tplexusref18UScope.rows_map]; exact get_map h
theorem Tplexusref18UScope.rows_app (a b : List Tplexusref18UScope) : Tplexusref18UScope.rows (a ++ b) = Tplexusref18UScope.rows a ++ Tplexusref18UScope.rows b := by simp only [Tplexusref18UScope.rows_map, List.map_append]
theorem Tplexusref18UScope.rows_drop (n : Nat) (l : List Tplexusref18UScope) : Tplexusref18UScope.rows (l.drop n) = (Tplexusref18UScope.rows l).drop n := by simp only [Tplexusref18UScope.rows_map, List.map_drop]
theorem Tplexusref18UScope.rows_take (n : Nat) (l : List Tplexusref18UScope) : Tplexusref18UScope.rows (l.take n) = (Tplexusref18UScope.rows l).take n := by simp only [Tplexusref18UScope.rows_map, List.map_take]
theorem Tplexusref18UScope.rows_cons (x : Tplexusref18UScope) (r : List Tplexusref18UScope) : Tplexusref18UScope.rows (x :: r) = Tplexusref18UScope.cs x :: Tplexusref18UScope.rows r := by simp only [Tplexusref18UScope.rows_map, List.map_cons]
theorem Tplexusref18UScope.rows_nil : Tplexusref18UScope.rows [] = [] := by rw [Tplexusref18UScope.rows_map]; rfl
theorem Tplexusref18UScope.rows_set (l : List Tplexusref18UScope) (i : Nat) (x : Tplexusref18UScope) : Tplexusref18UScope.rows (l.set i x) = (Tplexusref18UScope.rows l).set i (Tplexusref18UScope.cs x) := by simp only [Tplexusref18UScope.rows_map, List.map_set]
structure TToken where
  Kind : Int
  Text : (List UInt8)
  N : Int
  At : Int
def TToken.cs (x : TToken) : List AV := [.v (.int .i64 x.Kind), .v (.string ⟨⟨x.Text⟩⟩), .v (.int .i64 x.N), .v (.int .i64 x.At)]
def TToken.rows (l : List TToken) : List (List AV) := l.map TToken.cs
theorem TToken.rows_map (l : List TToken) : TToken.rows l = l.map TToken.cs := rfl
theorem TToken.rows_len (l : List TToken) : (TToken.rows l).length = l.length := by rw [TToken.rows_map, List.length_map]
theorem TToken.rows_get {l : List TToken} {i : Nat} {x : TToken} (h : l[i]? = some x) : (TToken.rows l)[i]? = some (TToken.cs x) := by rw [TToken.rows_map]; exact get_map h
theorem TToken.rows_app (a b : List TToken) : TToken.rows (a ++ b) = TToken.rows a ++ TToken.rows b := by simp only [TToken.rows_map, List.map_append]
theorem TToken.rows_drop (n : Nat) (l : List TToken) : TToken.rows (l.drop n) = (TToken.rows l).drop n := by simp only [TToken.rows_map, List.map_drop]
theorem TToken.rows_take (n : Nat) (l : List TToken) : TToken.rows (l.take n) = (TToken.rows l).take n := by simp only [TToken.rows_map, List.map_take]
theorem TToken.rows_cons (x : TToken) (r : List TToken) : TToken.rows (x :: r) = TToken.cs x :: TToken.rows r := by simp only [TToken.rows_map, List.map_cons]
theorem TToken.rows_nil : TToken.rows [] = [] := by rw [TToken.rows_map]; rfl
theorem TToken.rows_set (l : List TToken) (i : Nat) (x : TToken) : TToken.rows (l.set i x) = (TToken.rows l).set i (TToken.cs x) := by simp only [TToken.rows_map, List.map_set]
structure Tplexusref16UP where
  T : (List TToken)
  I : Int
  Open : Int
  Bad : Bool
  Fault : TFault
def Tplexusref16UP.cs (x : Tplexusref16UP) : List AV := [.sl 4 (TToken.rows x.T), .v (.int .i64 x.I), .v (.int .i64 x.Open), .v (.bool x.Bad), .v (.int .i64 x.Fault.Code), .v (.int .i64 x.Fault.At)]
def Tplexusref16UP.rows (l : List Tplexusref16UP) : List (List AV) := l.map Tplexusref16UP.cs
theorem Tplexusref16UP.rows_map (l : List Tplexusref16UP) : Tplexusref16UP.rows l = l.map Tplexusref16UP.cs := rfl
theorem Tplexusref16UP.rows_len (l : List Tplexusref16UP) : (Tplexusref16UP.rows l).length = l.length := by rw [Tplexusref16UP.rows_map, List.length_map]
theorem Tplexusref16UP.rows_get {l : List Tplexusref16UP} {i : Nat} {x : Tplexusref16UP} (h : l[i]? = some x) : (Tplexusref16UP.rows l)[i]? = some (Tplexusref16UP.cs x) := by rw [Tplexusref16UP.rows_map]; exact get_map h
theorem Tplexusref16UP.rows_app (a b : List Tplexusref16UP) : Tplexusref16UP.rows (a ++ b) = Tplexusref16UP.rows a ++ Tplexusref16UP.rows b := by simp only [Tplexusref16UP.rows_map, List.map_append]
theorem Tplexusref16UP.rows_drop (n : Nat) (l : List Tplexusref16UP) : Tplexusref16UP.rows (l.drop n) = (Tplexusref16UP.rows l).drop n := by simp only [Tplexusref16UP.rows_map, List.map_drop]
theorem Tplexusref16UP.rows_take (n : Nat) (l : List Tplexusref16UP) : Tplexusref16UP.rows (l.take n) = (Tplexusref16UP.rows l).take n := by simp only [Tplexusref16UP.rows_map, List.map_take]
theorem Tplexusref16UP.rows_cons (x : Tplexusref16UP) (r : List Tplexusref16UP) : Tplexusref16UP.rows (x :: r) = Tplexusref16UP.cs x :: Tplexusref16UP.rows r := by simp only [Tplexusref16UP.rows_map, List.map_cons]
theorem Tplexusref16UP.rows_nil : Tplexusref16UP.rows [] = [] := by rw [Tplexusref16UP.rows_map]; rfl
theorem Tplexusref16UP.rows_set (l : List Tplexusref16UP) (i : Nat) (x : Tplexusref16UP) : Tplexusref16UP.rows (l.set i x) = (Tplexusref16UP.rows l).set i (Tplexusref16UP.cs x) := by simp only [Tplexusref16UP.rows_map, List.map_set]
structure TlatticeUchecker where
  nodes : Int
def TlatticeUchecker.cs (x : TlatticeUchecker) : List AV := [.v (.int .i64 x.nodes)]
def TlatticeUchecker.rows (l : List TlatticeUchecker) : List (List AV) := l.map TlatticeUchecker.cs
theorem TlatticeUchecker.rows_map (l : List TlatticeUchecker) : TlatticeUchecker.rows l = l.map TlatticeUchecker.cs := rfl
theorem TlatticeUchecker.rows_len (l : List TlatticeUchecker) : (TlatticeUchecker.rows l).length = l.length := by rw [TlatticeUchecker.rows_map, List.length_map]
theorem TlatticeUchecker.rows_get {l : List TlatticeUchecker} {i : Nat} {x : TlatticeUchecker} (h : l[i]? = some x) : (TlatticeUchecker.rows l)[i]? = some (TlatticeUchecker.cs x) := by rw [TlatticeUchecker.rows_map]; exact get_map h
theorem TlatticeUchecker.rows_app (a b : List TlatticeUchecker) : TlatticeUchecker.rows (a ++ b) = TlatticeUchecker.rows a ++ TlatticeUchecker.rows b := by simp only [TlatticeUchecker.rows_map, List.map_append]
theorem TlatticeUchecker.rows_drop (n : Nat) (l : List TlatticeUchecker) : TlatticeUchecker.rows (l.drop n) = (TlatticeUchecker.rows l).drop n := by simp only [TlatticeUchecker.rows_map, List.map_drop]
theorem TlatticeUchecker.rows_take (n : Nat) (l : List TlatticeUchecker) : TlatticeUchecker.rows (l.take n) = (TlatticeUchecker.rows l).take n := by simp only [TlatticeUchecker.rows_map, List.map_take]
theorem TlatticeUchecker.rows_cons (x : TlatticeUchecker) (r : List TlatticeUchecker) : TlatticeUchecker.rows (x :: r) = TlatticeUchecker.cs x :: TlatticeUchecker.rows r := by simp only [TlatticeUchecker.rows_map, List.map_cons]
theorem TlatticeUchecker.rows_nil : TlatticeUchecker.rows [] = [] := by rw [TlatticeUchecker.rows_map]; rfl
theorem TlatticeUchecker.rows_set (l : List TlatticeUchecker) (i : Nat) (x : TlatticeUchecker) : TlatticeUchecker.rows (l.set i x) = (TlatticeUchecker.rows l).set i (TlatticeUchecker.cs x) := by simp only [TlatticeUchecker.rows_map, List.map_set]
structure TtypesUelaborator where
  l : TLattice
  params : (List TParam)
def TtypesUelaborator.cs (x : TtypesUelaborator) : List AV := [.v (.int .i64 x.l.Kind), .v (.int .i64 x.l.Lo), .v (.int .i64 x.l.Hi), .sl 1 (rowsS x.l.Names), .sl 6 (TLattice.rows x.l.Parts), .sl 2 (TRule.rows x.l.Rules), .sl 2 (TParam.rows x.params)]
def TtypesUelaborator.rows (l : List TtypesUelaborator) : List (List AV) := l.map TtypesUelaborator.cs
theorem TtypesUelaborator.rows_map (l : List TtypesUelaborator) : TtypesUelaborator.rows l = l.map TtypesUelaborator.cs := rfl
theorem TtypesUelaborator.rows_len (l : List TtypesUelaborator) : (TtypesUelaborator.rows l).length = l.length := by rw [TtypesUelaborator.rows_map, List.length_map]
theorem TtypesUelaborator.rows_get {l : List TtypesUelaborator} {i : Nat} {x : TtypesUelaborator} (h : l[i]? = some x) : (TtypesUelaborator.rows l)[i]? = some (TtypesUelaborator.cs x) := by rw [TtypesUelaborator.rows_map]; exact get_map h
theorem TtypesUelaborator.rows_app (a b : List TtypesUelaborator) : TtypesUelaborator.rows (a ++ b) = TtypesUelaborator.rows a ++ TtypesUelaborator.rows b := by simp only [TtypesUelaborator.rows_map, List.map_append]
theorem TtypesUelaborator.rows_drop (n : Nat) (l : List TtypesUelaborator) : TtypesUelaborator.rows (l.drop n) = (TtypesUelaborator.rows l).drop n := by simp only [TtypesUelaborator.rows_map, List.map_drop]
theorem TtypesUelaborator.rows_take (n : Nat) (l : List TtypesUelaborator) : TtypesUelaborator.rows (l.take n) = (TtypesUelaborator.rows l).take n := by simp only [TtypesUelaborator.rows_map, List.map_take]
theorem TtypesUelaborator.rows_cons (x : TtypesUelaborator) (r : List TtypesUelaborator) : TtypesUelaborator.rows (x :: r) = TtypesUelaborator.cs x :: TtypesUelaborator.rows r := by simp only [TtypesUelaborator.rows_map, List.map_cons]
theorem TtypesUelaborator.rows_nil : TtypesUelaborator.rows [] = [] := by rw [TtypesUelaborator.rows_map]; rfl
theorem TtypesUelaborator.rows_set (l : List TtypesUelaborator) (i : Nat) (x : TtypesUelaborator) : TtypesUelaborator.rows (l.set i x) = (TtypesUelaborator.rows l).set i (TtypesUelaborator.cs x) := by simp only [TtypesUelaborator.rows_map, List.map_set]
structure TwireUWriter where
  data : (List Int)
def TwireUWriter.cs (x : TwireUWriter) : List AV := [.sl 1 (rowsI .u8 x.data)]
def TwireUWriter.rows (l : List TwireUWriter) : List (List AV) := l.map TwireUWriter.cs
theorem TwireUWriter.rows_map (l : List TwireUWriter) : TwireUWriter.rows l = l.map TwireUWriter.cs := rfl
theorem TwireUWriter.rows_len (l : List TwireUWriter) : (TwireUWriter.rows l).length = l.length := by rw [TwireUWriter.rows_map, List.length_map]
theorem TwireUWriter.rows_get {l : List TwireUWriter} {i : Nat} {x : TwireUWriter} (h : l[i]? = some x) : (TwireUWriter.rows l)[i]? = some (TwireUWriter.cs x) := by rw [TwireUWriter.rows_map]; exact get_map h
theorem TwireUWriter.rows_app (a b : List TwireUWriter) : TwireUWriter.rows (a ++ b) = TwireUWriter.rows a ++ TwireUWriter.rows b := by simp only [TwireUWriter.rows_map, List.map_append]
theorem TwireUWriter.rows_drop (n : Nat) (l : List TwireUWriter) : TwireUWriter.rows (l.drop n) = (TwireUWriter.rows l).drop n := by simp only [TwireUWriter.rows_map, List.map_drop]
theorem TwireUWriter.rows_take (n : Nat) (l : List TwireUWriter) : TwireUWriter.rows (l.take n) = (TwireUWriter.rows l).take n := by simp only [TwireUWriter.rows_map, List.map_take]
theorem TwireUWriter.rows_cons (x : TwireUWriter) (r : List TwireUWriter) : TwireUWriter.rows (x :: r) = TwireUWriter.cs x :: TwireUWriter.rows r := by simp only [TwireUWriter.rows_map, List.map_cons]
theorem TwireUWriter.rows_nil : TwireUWriter.rows [] = [] := by rw [TwireUWriter.rows_map]; rfl
theorem TwireUWriter.rows_set (l : List TwireUWriter) (i : Nat) (x : TwireUWriter) : TwireUWriter.rows (l.set i x) = (TwireUWriter.rows l).set i (TwireUWriter.cs x) := by simp only [TwireUWriter.rows_map, List.map_set]
structure TwireUReader where
  data : (List Int)
  at_ : Int
  item : Int
  err : Int
def TwireUReader.cs (x : TwireUReader) : List AV := [.sl 1 (rowsI .u8 x.data), .v (.int .i64 x.at_), .v (.int .i64 x.item), .v (.int .i64 x.err)]
def TwireUReader.rows (l : List TwireUReader) : List (List AV) := l.map TwireUReader.cs
theorem TwireUReader.rows_map (l : List TwireUReader) : TwireUReader.rows l = l.map TwireUReader.cs := rfl
theorem TwireUReader.rows_len (l : List TwireUReader) : (TwireUReader.rows l).length = l.length := by rw [TwireUReader.rows_map, List.length_map]
theorem TwireUReader.rows_get {l : List TwireUReader} {i : Nat} {x : TwireUReader} (h : l[i]? = some x) : (TwireUReader.rows l)[i]? = some (TwireUReader.cs x) := by rw [TwireUReader.rows_map]; exact get_map h
theorem TwireUReader.rows_app (a b : List TwireUReader) : TwireUReader.rows (a ++ b) = TwireUReader.rows a ++ TwireUReader.rows b := by simp only [TwireUReader.rows_map, List.map_append]
theorem TwireUReader.rows_drop (n : Nat) (l : List TwireUReader) : TwireUReader.rows (l.drop n) = (TwireUReader.rows l).drop n := by simp only [TwireUReader.rows_map, List.map_drop]
theorem TwireUReader.rows_take (n : Nat) (l : List TwireUReader) : TwireUReader.rows (l.take n) = (TwireUReader.rows l).take n := by simp only [TwireUReader.rows_map, List.map_take]
theorem TwireUReader.rows_cons (x : TwireUReader) (r : List TwireUReader) : TwireUReader.rows (x :: r) = TwireUReader.cs x :: TwireUReader.rows r := by simp only [TwireUReader.rows_map, List.map_cons]
theorem TwireUReader.rows_nil : TwireUReader.rows [] = [] := by rw [TwireUReader.rows_map]; rfl
theorem TwireUReader.rows_set (l : List TwireUReader) (i : Nat) (x : TwireUReader) : TwireUReader.rows (l.set i x) = (TwireUReader.rows l).set i (TwireUReader.cs x) := by simp only [TwireUReader.rows_map, List.map_set]
structure TclosureUhorn where
  premises : (List Int)
  then_ : Int
def TclosureUhorn.cs (x : TclosureUhorn) : List AV := [.sl 1 (rowsI .i64 x.premises), .v (.int .i64 x.then_)]
def TclosureUhorn.rows (l : List TclosureUhorn) : List (List AV) := l.map TclosureUhorn.cs
theorem TclosureUhorn.rows_map (l : List TclosureUhorn) : TclosureUhorn.rows l = l.map TclosureUhorn.cs := rfl
theorem TclosureUhorn.rows_len (l : List TclosureUhorn) : (TclosureUhorn.rows l).length = l.length := by rw [TclosureUhorn.rows_map, List.length_map]
theorem TclosureUhorn.rows_get {l : List TclosureUhorn} {i : Nat} {x : TclosureUhorn} (h : l[i]? = some x) : (TclosureUhorn.rows l)[i]? = some (TclosureUhorn.cs x) := by rw [TclosureUhorn.rows_map]; exact get_map h
theorem TclosureUhorn.rows_app (a b : List TclosureUhorn) : TclosureUhorn.rows (a ++ b) = TclosureUhorn.rows a ++ TclosureUhorn.rows b := by simp only [TclosureUhorn.rows_map, List.map_append]
theorem TclosureUhorn.rows_drop (n : Nat) (l : List TclosureUhorn) : TclosureUhorn.rows (l.drop n) = (TclosureUhorn.rows l).drop n := by simp only [TclosureUhorn.rows_map, List.map_drop]
theorem TclosureUhorn.rows_take (n : Nat) (l : List TclosureUhorn) : TclosureUhorn.rows (l.take n) = (TclosureUhorn.rows l).take n := by simp only [TclosureUhorn.rows_map, List.map_take]
theorem TclosureUhorn.rows_cons (x : TclosureUhorn) (r : List TclosureUhorn) : TclosureUhorn.rows (x :: r) = TclosureUhorn.cs x :: TclosureUhorn.rows r := by simp only [TclosureUhorn.rows_map, List.map_cons]
theorem TclosureUhorn.rows_nil : TclosureUhorn.rows [] = [] := by rw [TclosureUhorn.rows_map]; rfl
theorem TclosureUhorn.rows_set (l : List TclosureUhorn) (i : Nat) (x : TclosureUhorn) : TclosureUhorn.rows (l.set i x) = (TclosureUhorn.rows l).set i (TclosureUhorn.cs x) := by simp only [TclosureUhorn.rows_map, List.map_set]
structure TclosureUsystem where
  universe_ : (List (List UInt8))
  rules : (List TclosureUhorn)
def TclosureUsystem.cs (x : TclosureUsystem) : List AV := [.sl 1 (rowsS x.universe_), .sl 2 (TclosureUhorn.rows x.rules)]
def TclosureUsystem.rows (l : List TclosureUsystem) : List (List AV) := l.map TclosureUsystem.cs
theorem TclosureUsystem.rows_map (l : List TclosureUsystem) : TclosureUsystem.rows l = l.map TclosureUsystem.cs := rfl
theorem TclosureUsystem.rows_len (l : List TclosureUsystem) : (TclosureUsystem.rows l).length = l.length := by rw [TclosureUsystem.rows_map, List.length_map]
theorem TclosureUsystem.rows_get {l : List TclosureUsystem} {i : Nat} {x : TclosureUsystem} (h : l[i]? = some x) : (TclosureUsystem.rows l)[i]? = some (TclosureUsystem.cs x) := by rw [TclosureUsystem.rows_map]; exact get_map h
theorem TclosureUsystem.rows_app (a b : List TclosureUsystem) : TclosureUsystem.rows (a ++ b) = TclosureUsystem.rows a ++ TclosureUsystem.rows b := by simp only [TclosureUsystem.rows_map, List.map_append]
theorem TclosureUsystem.rows_drop (n : Nat) (l : List TclosureUsystem) : TclosureUsystem.rows (l.drop n) = (TclosureUsystem.rows l).drop n := by simp only [TclosureUsystem.rows_map, List.map_drop]
theorem TclosureUsystem.rows_take (n : Nat) (l : List TclosureUsystem) : TclosureUsystem.rows (l.take n) = (TclosureUsystem.rows l).take n := by simp only [TclosureUsystem.rows_map, List.map_take]
theorem TclosureUsystem.rows_cons (x : TclosureUsystem) (r : List TclosureUsystem) : TclosureUsystem.rows (x :: r) = TclosureUsystem.cs x :: TclosureUsystem.rows r := by simp only [TclosureUsystem.rows_map, List.map_cons]
theorem TclosureUsystem.rows_nil : TclosureUsystem.rows [] = [] := by rw [TclosureUsystem.rows_map]; rfl
theorem TclosureUsystem.rows_set (l : List TclosureUsystem) (i : Nat) (x : TclosureUsystem) : TclosureUsystem.rows (l.set i x) = (TclosureUsystem.rows l).set i (TclosureUsystem.cs x) := by simp only [TclosureUsystem.rows_map, List.map_set]
structure TclosureUstep where
  rule : Int
  name : Int
def TclosureUstep.cs (x : TclosureUstep) : List AV := [.v (.int .i64 x.rule), .v (.int .i64 x.name)]
def TclosureUstep.rows (l : List TclosureUstep) : List (List AV) := l.map TclosureUstep.cs
theorem TclosureUstep.rows_map (l : List TclosureUstep) : TclosureUstep.rows l = l.map TclosureUstep.cs := rfl
theorem TclosureUstep.rows_len (l : List TclosureUstep) : (TclosureUstep.rows l).length = l.length := by rw [TclosureUstep.rows_map, List.length_map]
theorem TclosureUstep.rows_get {l : List TclosureUstep} {i : Nat} {x : TclosureUstep} (h : l[i]? = some x) : (TclosureUstep.rows l)[i]? = some (TclosureUstep.cs x) := by rw [TclosureUstep.rows_map]; exact get_map h
theorem TclosureUstep.rows_app (a b : List TclosureUstep) : TclosureUstep.rows (a ++ b) = TclosureUstep.rows a ++ TclosureUstep.rows b := by simp only [TclosureUstep.rows_map, List.map_append]
theorem TclosureUstep.rows_drop (n : Nat) (l : List TclosureUstep) : TclosureUstep.rows (l.drop n) = (TclosureUstep.rows l).drop n := by simp only [TclosureUstep.rows_map, List.map_drop]
theorem TclosureUstep.rows_take (n : Nat) (l : List TclosureUstep) : TclosureUstep.rows (l.take n) = (TclosureUstep.rows l).take n := by simp only [TclosureUstep.rows_map, List.map_take]
theorem TclosureUstep.rows_cons (x : TclosureUstep) (r : List TclosureUstep) : TclosureUstep.rows (x :: r) = TclosureUstep.cs x :: TclosureUstep.rows r := by simp only [TclosureUstep.rows_map, List.map_cons]
theorem TclosureUstep.rows_nil : TclosureUstep.rows [] = [] := by rw [TclosureUstep.rows_map]; rfl
theorem TclosureUstep.rows_set (l : List TclosureUstep) (i : Nat) (x : TclosureUstep) : TclosureUstep.rows (l.set i x) = (TclosureUstep.rows l).set i (TclosureUstep.cs x) := by simp only [TclosureUstep.rows_map, List.map_set]
theorem gcs : (∀ x : TParam, TParam.cs x = [.v (.string ⟨⟨x.Name⟩⟩), .v (.int .i64 x.Sort_)]) ∧ (∀ x : TDatum, TDatum.cs x = [.v (.int .i64 x.Sort_), .v (.int .i64 x.N), .v (.string ⟨⟨x.Name⟩⟩), .sl 1 (rowsS x.Names)]) ∧ (∀ x : TRule, TRule.cs x = [.sl 1 (rowsS x.If), .v (.string ⟨⟨x.Then⟩⟩)]) ∧ (∀ x : TLattice, TLattice.cs x = [.v (.int .i64 x.Kind), .v (.int .i64 x.Lo), .v (.int .i64 x.Hi), .sl 1 (rowsS x.Names), .sl 6 (TLattice.rows x.Parts), .sl 2 (TRule.rows x.Rules)]) ∧ (∀ x : TType, TType.cs x = [.v (.int .i64 x.Sort_), .v (.int .i64 x.Lattice.Kind), .v (.int .i64 x.Lattice.Lo), .v (.int .i64 x.Lattice.Hi), .sl 1 (rowsS x.Lattice.Names), .sl 6 (TLattice.rows x.Lattice.Parts), .sl 2 (TRule.rows x.Lattice.Rules)]) ∧ (∀ x : TExpr, TExpr.cs x = [.v (.int .i64 x.Op), .v (.int .i64 x.Type_.Sort_), .v (.int .i64 x.Type_.Lattice.Kind), .v (.int .i64 x.Type_.Lattice.Lo), .v (.int .i64 x.Type_.Lattice.Hi), .sl 1 (rowsS x.Type_.Lattice.Names), .sl 6 (TLattice.rows x.Type_.Lattice.Parts), .sl 2 (TRule.rows x.Type_.Lattice.Rules), .v (.int .i64 x.N), .v (.string ⟨⟨x.Text⟩⟩), .v (.int .i64 x.At), .sl 12 (TExpr.rows x.Kids)]) ∧ (∀ x : TTick, TTick.cs x = [.v (.int .i64 x.Process), .v (.int .i64 x.N)]) ∧ (∀ x : TEntry, TEntry.cs x = [.sl 2 (TTick.rows x.Clock), .v (.string ⟨⟨x.Name⟩⟩)]) ∧ (∀ x : TValue, TValue.cs x = [.v (.int .i64 x.N), .sl 1 (rowsS x.Names), .sl 4 (TValue.rows x.Parts), .sl 2 (TEntry.rows x.Entries)]) ∧ (∀ x : TFunction, TFunction.cs x = [.v (.string ⟨⟨x.Name⟩⟩), .v (.string ⟨⟨x.On⟩⟩), .sl 2 (TParam.rows x.Params), .v (.int .i64 x.Result), .v (.int .i64 x.Body.Op), .v (.int .i64 x.Body.Type_.Sort_), .v (.int .i64 x.Body.Type_.Lattice.Kind), .v (.int .i64 x.Body.Type_.Lattice.Lo), .v (.int .i64 x.Body.Type_.Lattice.Hi), .sl 1 (rowsS x.Body.Type_.Lattice.Names), .sl 6 (TLattice.rows x.Body.Type_.Lattice.Parts), .sl 2 (TRule.rows x.Body.Type_.Lattice.Rules), .v (.int .i64 x.Body.N), .v (.string ⟨⟨x.Body.Text⟩⟩), .v (.int .i64 x.Body.At), .sl 12 (TExpr.rows x.Body.Kids)]) ∧ (∀ x : TdecideUAnswer, TdecideUAnswer.cs x = [.v (.bool x.Holds), .v (.int .i64 x.I), .v (.int .i64 x.J)]) ∧ (∀ x : TevalUresult, TevalUresult.cs x = [.v (.int .i64 x.d.Sort_), .v (.int .i64 x.d.N), .v (.string ⟨⟨x.d.Name⟩⟩), .sl 1 (rowsS x.d.Names), .v (.int .i64 x.v.N), .sl 1 (rowsS x.v.Names), .sl 4 (TValue.rows x.v.Parts), .sl 2 (TEntry.rows x.v.Entries)]) ∧ (∀ x : TevalUframe, TevalUframe.cs x = [.v (.int .i64 x.state.N), .sl 1 (rowsS x.state.Names), .sl 4 (TValue.rows x.state.Parts), .sl 2 (TEntry.rows x.state.Entries), .sl 4 (TDatum.rows x.args)]) ∧ (∀ x : TNode, TNode.cs x = [.v (.int .i64 x.Kind), .v (.string ⟨⟨x.Text⟩⟩), .v (.int .i64 x.N), .v (.int .i64 x.At), .sl 5 (TNode.rows x.Kids)]) ∧ (∀ x : TFault, TFault.cs x = [.v (.int .i64 x.Code), .v (.int .i64 x.At)]) ∧ (∀ x : Tplexusref18UScope, Tplexusref18UScope.cs x = [.v (.int .i64 x.L.Kind), .v (.int .i64 x.L.Lo), .v (.int .i64 x.L.Hi), .sl 1 (rowsS x.L.Names), .sl 6 (TLattice.rows x.L.Parts), .sl 2 (TRule.rows x.L.Rules), .sl 2 (TParam.rows x.Params)]) ∧ (∀ x : TToken, TToken.cs x = [.v (.int .i64 x.Kind), .v (.string ⟨⟨x.Text⟩⟩), .v (.int .i64 x.N), .v (.int .i64 x.At)]) ∧ (∀ x : Tplexusref16UP, Tplexusref16UP.cs x = [.sl 4 (TToken.rows x.T), .v (.int .i64 x.I), .v (.int .i64 x.Open), .v (.bool x.Bad), .v (.int .i64 x.Fault.Code), .v (.int .i64 x.Fault.At)]) ∧ (∀ x : TlatticeUchecker, TlatticeUchecker.cs x = [.v (.int .i64 x.nodes)]) ∧ (∀ x : TtypesUelaborator, TtypesUelaborator.cs x = [.v (.int .i64 x.l.Kind), .v (.int .i64 x.l.Lo), .v (.int .i64 x.l.Hi), .sl 1 (rowsS x.l.Names), .sl 6 (TLattice.rows x.l.Parts), .sl 2 (TRule.rows x.l.Rules), .sl 2 (TParam.rows x.params)]) ∧ (∀ x : TwireUWriter, TwireUWriter.cs x = [.sl 1 (rowsI .u8 x.data)]) ∧ (∀ x : TwireUReader, TwireUReader.cs x = [.sl 1 (rowsI .u8 x.data), .v (.int .i64 x.at_), .v (.int .i64 x.item), .v (.int .i64 x.err)]) ∧ (∀ x : TclosureUhorn, TclosureUhorn.cs x = [.sl 1 (rowsI .i64 x.premises), .v (.int .i64 x.then_)]) ∧ (∀ x : TclosureUsystem, TclosureUsystem.cs x = [.sl 1 (rowsS x.universe_), .sl 2 (TclosureUhorn.rows x.rules)]) ∧ (∀ x : TclosureUstep, TclosureUstep.cs x = [.v (.int .i64 x.rule), .v (.int .i64 x.name)]) := ⟨fun _ => rfl, fun _ => rfl, fun _ => rfl, fun _ => rfl, fun _ => rfl, fun _ => rfl, fun _ => rfl, fun _ => rfl, fun _ => rfl, fun _ => rfl, fun _ => rfl, fun _ => rfl, fun _ => rfl, fun _ => rfl, fun _ => rfl, fun _ => rfl, fun _ => rfl, fun _ => rfl, fun _ => rfl, fun _ => rfl, fun _ => rfl, fun _ => rfl, fun _ => rfl, fun _ => rfl, fun _ => rfl⟩
theorem gsimp : (∀ a b, TParam.rows (a ++ b) = TParam.rows a ++ TParam.rows b) ∧ (∀ x r, TParam.rows (x :: r) = TParam.cs x :: TParam.rows r) ∧ (TParam.rows [] = []) ∧ (∀ k l, TParam.rows (l.drop k) = (TParam.rows l).drop k) ∧ (∀ k l, TParam.rows (l.take k) = (TParam.rows l).take k) ∧ (∀ l i x, TParam.rows (l.set i x) = (TParam.rows l).set i (TParam.cs x)) ∧ (∀ a b, TDatum.rows (a ++ b) = TDatum.rows a ++ TDatum.rows b) ∧ (∀ x r, TDatum.rows (x :: r) = TDatum.cs x :: TDatum.rows r) ∧ (TDatum.rows [] = []) ∧ (∀ k l, TDatum.rows (l.drop k) = (TDatum.rows l).drop k) ∧ (∀ k l, TDatum.rows (l.take k) = (TDatum.rows l).take k) ∧ (∀ l i x, TDatum.rows (l.set i x) = (TDatum.rows l).set i (TDatum.cs x)) ∧ (∀ a b, TRule.rows (a ++ b) = TRule.rows a ++ TRule.rows b) ∧ (∀ x r, TRule.rows (x :: r) = TRule.cs x :: TRule.rows r) ∧ (TRule.rows [] = []) ∧ (∀ k l, TRule.rows (l.drop k) = (TRule.rows l).drop k) ∧ (∀ k l, TRule.rows (l.take k) = (TRule.rows l).take k) ∧ (∀ l i x, TRule.rows (l.set i x) = (TRule.rows l).set i (TRule.cs x)) ∧ (∀ a b, TLattice.rows (a ++ b) = TLattice.rows a ++ TLattice.rows b) ∧ (∀ x r, TLattice.rows (x :: r) = TLattice.cs x :: TLattice.rows r) ∧ (TLattice.rows [] = []) ∧ (∀ k l, TLattice.rows (l.drop k) = (TLattice.rows l).drop k) ∧ (∀ k l, TLattice.rows (l.take k) = (TLattice.rows l).take k) ∧ (∀ l i x, TLattice.rows (l.set i x) = (TLattice.rows l).set i (TLattice.cs x)) ∧ (∀ a b, TType.rows (a ++ b) = TType.rows a ++ TType.rows b) ∧ (∀ x r, TType.rows (x :: r) = TType.cs x :: TType.rows r) ∧ (TType.rows [] = []) ∧ (∀ k l, TType.rows (l.drop k) = (TType.rows l).drop k) ∧ (∀ k l, TType.rows (l.take k) = (TType.rows l).take k) ∧ (∀ l i x, TType.rows (l.set i x) = (TType.rows l).set i (TType.cs x)) ∧ (∀ a b, TExpr.rows (a ++ b) = TExpr.rows a ++ TExpr.rows b) ∧ (∀ x r, TExpr.rows (x :: r) = TExpr.cs x :: TExpr.rows r) ∧ (TExpr.rows [] = []) ∧ (∀ k l, TExpr.rows (l.drop k) = (TExpr.rows l).drop k) ∧ (∀ k l, TExpr.rows (l.take k) = (TExpr.rows l).take k) ∧ (∀ l i x, TExpr.rows (l.set i x) = (TExpr.rows l).set i (TExpr.cs x)) ∧ (∀ a b, TTick.rows (a ++ b) = TTick.rows a ++ TTick.rows b) ∧ (∀ x r, TTick.rows (x :: r) = TTick.cs x :: TTick.rows r) ∧ (TTick.rows [] = []) ∧ (∀ k l, TTick.rows (l.drop k) = (TTick.rows l).drop k) ∧ (∀ k l, TTick.rows (l.take k) = (TTick.rows l).take k) ∧ (∀ l i x, TTick.rows (l.set i x) = (TTick.rows l).set i (TTick.cs x)) ∧ (∀ a b, TEntry.rows (a ++ b) = TEntry.rows a ++ TEntry.rows b) ∧ (∀ x r, TEntry.rows (x :: r) = TEntry.cs x :: TEntry.rows r) ∧ (TEntry.rows [] = []) ∧ (∀ k l, TEntry.rows (l.drop k) = (TEntry.rows l).drop k) ∧ (∀ k l, TEntry.rows (l.take k) = (TEntry.rows l).take k) ∧ (∀ l i x, TEntry.rows (l.set i x) = (TEntry.rows l).set i (TEntry.cs x)) ∧ (∀ a b, TValue.rows (a ++ b) = TValue.rows a ++ TValue.rows b) ∧ (∀ x r, TValue.rows (x :: r) = TValue.cs x :: TValue.rows r) ∧ (TValue.rows [] = []) ∧ (∀ k l, TValue.rows (l.drop k) = (TValue.rows l).drop k) ∧ (∀ k l, TValue.rows (l.take k) = (TValue.rows l).take k) ∧ (∀ l i x, TValue.rows (l.set i x) = (TValue.rows l).set i (TValue.cs x)) ∧ (∀ a b, TFunction.rows (a ++ b) = TFunction.rows a ++ TFunction.rows b) ∧ (∀ x r, TFunction.rows (x :: r) = TFunction.cs x :: TFunction.rows r) ∧ (TFunction.rows [] = []) ∧ (∀ k l, TFunction.rows (l.drop k) = (TFunction.rows l).drop k) ∧ (∀ k l, TFunction.rows (l.take k) = (TFunction.rows l).take k) ∧ (∀ l i x, TFunction.rows (l.set i x) = (TFunction.rows l).set i (TFunction.cs x)) ∧ (∀ a b, TdecideUAnswer.rows (a ++ b) = TdecideUAnswer.rows a ++ TdecideUAnswer.rows b) ∧ (∀ x r, TdecideUAnswer.rows (x :: r) = TdecideUAnswer.cs x :: TdecideUAnswer.rows r) ∧ (TdecideUAnswer.rows [] = []) ∧ (∀ k l, TdecideUAnswer.rows (l.drop k) = (TdecideUAnswer.rows l).drop k) ∧ (∀ k l, TdecideUAnswer.rows (l.take k) = (TdecideUAnswer.rows l).take k) ∧ (∀ l i x, TdecideUAnswer.rows (l.set i x) = (TdecideUAnswer.rows l).set i (TdecideUAnswer.cs x)) ∧ (∀ a b, TevalUresult.rows (a ++ b) = TevalUresult.rows a ++ TevalUresult.rows b) ∧ (∀ x r, TevalUresult.rows (x :: r) = TevalUresult.cs x :: TevalUresult.rows r) ∧ (TevalUresult.rows [] = []) ∧ (∀ k l, TevalUresult.rows (l.drop k) = (TevalUresult.rows l).drop k) ∧ (∀ k l, TevalUresult.rows (l.take k) = (TevalUresult.rows l).take k) ∧ (∀ l i x, TevalUresult.rows (l.set i x) = (TevalUresult.rows l).set i (TevalUresult.cs x)) ∧ (∀ a b, TevalUframe.rows (a ++ b) = TevalUframe.rows a ++ TevalUframe.rows b) ∧ (∀ x r, TevalUframe.rows (x :: r) = TevalUframe.cs x :: TevalUframe.rows r) ∧ (TevalUframe.rows [] = []) ∧ (∀ k l, TevalUframe.rows (l.drop k) = (TevalUframe.rows l).drop k) ∧ (∀ k l, TevalUframe.rows (l.take k) = (TevalUframe.rows l).take k) ∧ (∀ l i x, TevalUframe.rows (l.set i x) = (TevalUframe.rows l).set i (TevalUframe.cs x)) ∧ (∀ a b, TNode.rows (a ++ b) = TNode.rows a ++ TNode.rows b) ∧ (∀ x r, TNode.rows (x :: r) = TNode.cs x :: TNode.rows r) ∧ (TNode.rows [] = []) ∧ (∀ k l, TNode.rows (l.drop k) = (TNode.rows l).drop k) ∧ (∀ k l, TNode.rows (l.take k) = (TNode.rows l).take k) ∧ (∀ l i x, TNode.rows (l.set i x) = (TNode.rows l).set i (TNode.cs x)) ∧ (∀ a b, TFault.rows (a ++ b) = TFault.rows a ++ TFault.rows b) ∧ (∀ x r, TFault.rows (x :: r) = TFault.cs x :: TFault.rows r) ∧ (TFault.rows [] = []) ∧ (∀ k l, TFault.rows (l.drop k) = (TFault.rows l).drop k) ∧ (∀ k l, TFault.rows (l.take k) = (TFault.rows l).take k) ∧ (∀ l i x, TFault.rows (l.set i x) = (TFault.rows l).set i (TFault.cs x)) ∧ (∀ a b, Tplexusref18UScope.rows (a ++ b) = Tplexusref18UScope.rows a ++ Tplexusref18UScope.rows b) ∧ (∀ x r, Tplexusref18UScope.rows (x :: r) = Tplexusref18UScope.cs x :: Tplexusref18UScope.rows r) ∧ (Tplexusref18UScope.rows [] = []) ∧ (∀ k l, Tplexusref18UScope.rows (l.drop k) = (Tplexusref18UScope.rows l).drop k) ∧ (∀ k l, Tplexusref18UScope.rows (l.take k) = (Tplexusref18UScope.rows l).take k) ∧ (∀ l i x, Tplexusref18UScope.rows (l.set i x) = (Tplexusref18UScope.rows l).set i (Tplexusref18UScope.cs x)) ∧ (∀ a b, TToken.rows (a ++ b) = TToken.rows a ++ TToken.rows b) ∧ (∀ x r, TToken.rows (x :: r) = TToken.cs x :: TToken.rows r) ∧ (TToken.rows [] = []) ∧ (∀ k l, TToken.rows (l.drop k) = (TToken.rows l).drop k) ∧ (∀ k l, TToken.rows (l.take k) = (TToken.rows l).take k) ∧ (∀ l i x, TToken.rows (l.set i x) = (TToken.rows l).set i (TToken.cs x)) ∧ (∀ a b, Tplexusref16UP.rows (a ++ b) = Tplexusref16UP.rows a ++ Tplexusref16UP.rows b) ∧ (∀ x r, Tplexusref16UP.rows (x :: r) = Tplexusref16UP.cs x :: Tplexusref16UP.rows r) ∧ (Tplexusref16UP.rows [] = []) ∧ (∀ k l, Tplexusref16UP.rows (l.drop k) = (Tplexusref16UP.rows l).drop k) ∧ (∀ k l, Tplexusref16UP.rows (l.take k) = (Tplexusref16UP.rows l).take k) ∧ (∀ l i x, Tplexusref16UP.rows (l.set i x) = (Tplexusref16UP.rows l).set i (Tplexusref16UP.cs x)) ∧ (∀ a b, TlatticeUchecker.rows (a ++ b) = TlatticeUchecker.rows a ++ TlatticeUchecker.rows b) ∧ (∀ x r, TlatticeUchecker.rows (x :: r) = TlatticeUchecker.cs x :: TlatticeUchecker.rows r) ∧ (TlatticeUchecker.rows [] = []) ∧ (∀ k l, TlatticeUchecker.rows (l.drop k) = (TlatticeUchecker.rows l).drop k) ∧ (∀ k l, TlatticeUchecker.rows (l.take k) = (TlatticeUchecker.rows l).take k) ∧ (∀ l i x, TlatticeUchecker.rows (l.set i x) = (TlatticeUchecker.rows l).set i (TlatticeUchecker.cs x)) ∧ (∀ a b, TtypesUelaborator.rows (a ++ b) = TtypesUelaborator.rows a ++ TtypesUelaborator.rows b) ∧ (∀ x r, TtypesUelaborator.rows (x :: r) = TtypesUelaborator.cs x :: TtypesUelaborator.rows r) ∧ (TtypesUelaborator.rows [] = []) ∧ (∀ k l, TtypesUelaborator.rows (l.drop k) = (TtypesUelaborator.rows l).drop k) ∧ (∀ k l, TtypesUelaborator.rows (l.take k) = (TtypesUelaborator.rows l).take k) ∧ (∀ l i x, TtypesUelaborator.rows (l.set i x) = (TtypesUelaborator.rows l).set i (TtypesUelaborator.cs x)) ∧ (∀ a b, TwireUWriter.rows (a ++ b) = TwireUWriter.rows a ++ TwireUWriter.rows b) ∧ (∀ x r, TwireUWriter.rows (x :: r) = TwireUWriter.cs x :: TwireUWriter.rows r) ∧ (TwireUWriter.rows [] = []) ∧ (∀ k l, TwireUWriter.rows (l.drop k) = (TwireUWriter.rows l).drop k) ∧ (∀ k l, TwireUWriter.rows (l.take k) = (TwireUWriter.rows l).take k) ∧ (∀ l i x, TwireUWriter.rows (l.set i x) = (TwireUWriter.rows l).set i (TwireUWriter.cs x)) ∧ (∀ a b, TwireUReader.rows (a ++ b) = TwireUReader.rows a ++ TwireUReader.rows b) ∧ (∀ x r, TwireUReader.rows (x :: r) = TwireUReader.cs x :: TwireUReader.rows r) ∧ (TwireUReader.rows [] = []) ∧ (∀ k l, TwireUReader.rows (l.drop k) = (TwireUReader.rows l).drop k) ∧ (∀ k l, TwireUReader.rows (l.take k) = (TwireUReader.rows l).take k) ∧ (∀ l i x, TwireUReader.rows (l.set i x) = (TwireUReader.rows l).set i (TwireUReader.cs x)) ∧ (∀ a b, TclosureUhorn.rows (a ++ b) = TclosureUhorn.rows a ++ TclosureUhorn.rows b) ∧ (∀ x r, TclosureUhorn.rows (x :: r) = TclosureUhorn.cs x :: TclosureUhorn.rows r) ∧ (TclosureUhorn.rows [] = []) ∧ (∀ k l, TclosureUhorn.rows (l.drop k) = (TclosureUhorn.rows l).drop k) ∧ (∀ k l, TclosureUhorn.rows (l.take k) = (TclosureUhorn.rows l).take k) ∧ (∀ l i x, TclosureUhorn.rows (l.set i x) = (TclosureUhorn.rows l).set i (TclosureUhorn.cs x)) ∧ (∀ a b, TclosureUsystem.rows (a ++ b) = TclosureUsystem.rows a ++ TclosureUsystem.rows b) ∧ (∀ x r, TclosureUsystem.rows (x :: r) = TclosureUsystem.cs x :: TclosureUsystem.rows r) ∧ (TclosureUsystem.rows [] = []) ∧ (∀ k l, TclosureUsystem.rows (l.drop k) = (TclosureUsystem.rows l).drop k) ∧ (∀ k l, TclosureUsystem.rows (l.take k) = (TclosureUsystem.rows l).take k) ∧ (∀ l i x, TclosureUsystem.rows (l.set i x) = (TclosureUsystem.rows l).set i (TclosureUsystem.cs x)) ∧ (∀ a b, TclosureUstep.rows (a ++ b) = TclosureUstep.rows a ++ TclosureUstep.rows b) ∧ (∀ x r, TclosureUstep.rows (x :: r) = TclosureUstep.cs x :: TclosureUstep.rows r) ∧ (TclosureUstep.rows [] = []) ∧ (∀ k l, TclosureUstep.rows (l.drop k) = (TclosureUstep.rows l).drop k) ∧ (∀ k l, TclosureUstep.rows (l.take k) = (TclosureUstep.rows l).take k) ∧ (∀ l i x, TclosureUstep.rows (l.set i x) = (TclosureUstep.rows l).set i (TclosureUstep.cs x)) ∧ (∀ a b, rowsS (a ++ b) = rowsS a ++ rowsS b) ∧ (∀ x r, rowsS (x :: r) = [.v (.string ⟨⟨x⟩⟩)] :: rowsS r) ∧ (∀ k x r, rowsI k (x :: r) = [.v (.int k x)] :: rowsI k r) ∧ (rowsS [] = []) ∧ (∀ k, rowsI k [] = []) ∧ (∀ (k : Nat) l, rowsS (l.drop k) = (rowsS l).drop k) ∧ (∀ (k : Nat) l, rowsS (l.take k) = (rowsS l).take k) ∧ (∀ k a b, rowsI k (a ++ b) = rowsI k a ++ rowsI k b) ∧ (∀ a b, rowsB (a ++ b) = rowsB a ++ rowsB b) ∧ (∀ l (i : Nat) x, rowsS (l.set i x) = (rowsS l).set i [.v (.string ⟨⟨x⟩⟩)]) ∧ (∀ k l (i : Nat) x, rowsI k (l.set i x) = (rowsI k l).set i [.v (.int k x)]) ∧ (∀ l (i : Nat) x, rowsB (l.set i x) = (rowsB l).set i [.v (.bool x)]) := ⟨TParam.rows_app, TParam.rows_cons, TParam.rows_nil, TParam.rows_drop, TParam.rows_take, TParam.rows_set, TDatum.rows_app, TDatum.rows_cons, TDatum.rows_nil, TDatum.rows_drop, TDatum.rows_take, TDatum.rows_set, TRule.rows_app, TRule.rows_cons, TRule.rows_nil, TRule.rows_drop, TRule.rows_take, TRule.rows_set, TLattice.rows_app, TLattice.rows_cons, TLattice.rows_nil, TLattice.rows_drop, TLattice.rows_take, TLattice.rows_set, TType.rows_app, TType.rows_cons, TType.rows_nil, TType.rows_drop, TType.rows_take, TType.rows_set, TExpr.rows_app, TExpr.rows_cons, TExpr.rows_nil, TExpr.rows_drop, TExpr.rows_take, TExpr.rows_set, TTick.rows_app, TTick.rows_cons, TTick.rows_nil, TTick.rows_drop, TTick.rows_take, TTick.rows_set, TEntry.rows_app, TEntry.rows_cons, TEntry.rows_nil, TEntry.rows_drop, TEntry.rows_take, TEntry.rows_set, TValue.rows_app, TValue.rows_cons, TValue.rows_nil, TValue.rows_drop, TValue.rows_take, TValue.rows_set, TFunction.rows_app, TFunction.rows_cons, TFunction.rows_nil, TFunction.rows_drop, TFunction.rows_take, TFunction.rows_set, TdecideUAnswer.rows_app, TdecideUAnswer.rows_cons, TdecideUAnswer.rows_nil, TdecideUAnswer.rows_drop, TdecideUAnswer.rows_take, TdecideUAnswer.rows_set, TevalUresult.rows_app, TevalUresult.rows_cons, TevalUresult.rows_nil, TevalUresult.rows_drop, TevalUresult.rows_take, TevalUresult.rows_set, TevalUframe.rows_app, TevalUframe.rows_cons, TevalUframe.rows_nil, TevalUframe.rows_drop, TevalUframe.rows_take, TevalUframe.rows_set, TNode.rows_app, TNode.rows_cons, TNode.rows_nil, TNode.rows_drop, TNode.rows_take, TNode.rows_set, TFault.rows_app, TFault.rows_cons, TFault.rows_nil, TFault.rows_drop, TFault.rows_take, TFault.rows_set, Tplexusref18UScope.rows_app, Tplexusref18UScope.rows_cons, Tplexusref18UScope.rows_nil, Tplexusref18UScope.rows_drop, Tplexusref18UScope.rows_take, Tplexusref18UScope.rows_set, TToken.rows_app, TToken.rows_cons, TToken.rows_nil, TToken.rows_drop, TToken.rows_take, TToken.rows_set, Tplexusref16UP.rows_app, Tplexusref16UP.rows_cons, Tplexusref16UP.rows_nil, Tplexusref16UP.rows_drop, Tplexusref16UP.rows_take, Tplexusref16UP.rows_set, TlatticeUchecker.rows_app, TlatticeUchecker.rows_cons, TlatticeUchecker.rows_nil, TlatticeUchecker.rows_drop, TlatticeUchecker.rows_take, TlatticeUchecker.rows_set, TtypesUelaborator.rows_app, TtypesUelaborator.rows_cons, TtypesUelaborator.rows_nil, TtypesUelaborator.rows_drop, TtypesUelaborator.rows_take, TtypesUelaborator.rows_set, TwireUWriter.rows_app, TwireUWriter.rows_cons, TwireUWriter.rows_nil, TwireUWriter.rows_drop, TwireUWriter.rows_take, TwireUWriter.rows_set, TwireUReader.rows_app, TwireUReader.rows_cons, TwireUReader.rows_nil, TwireUReader.rows_drop, TwireUReader.rows_take, TwireUReader.rows_set, TclosureUhorn.rows_app, TclosureUhorn.rows_cons, TclosureUhorn.rows_nil, TclosureUhorn.rows_drop, TclosureUhorn.rows_take, TclosureUhorn.rows_set, TclosureUsystem.rows_app, TclosureUsystem.rows_cons, TclosureUsystem.rows_nil, TclosureUsystem.rows_drop, TclosureUsystem.rows_take, TclosureUsystem.rows_set, TclosureUstep.rows_app, TclosureUstep.rows_cons, TclosureUstep.rows_nil, TclosureUstep.rows_drop, TclosureUstep.rows_take, TclosureUstep.rows_set, (fun _ _ => rowsS_app), (fun _ _ => rfl), (fun _ _ _ => rfl), rfl, (fun _ => rfl), (fun _ _ => rowsS_drop), (fun _ _ => rowsS_take), (fun _ _ _ => rowsI_app), (fun _ _ => rowsB_app), (fun _ _ _ => List.map_set), (fun _ _ _ _ => List.map_set), (fun _ _ _ => List.map_set)⟩
theorem glen : (∀ l, (TParam.rows l).length = l.length) ∧ (∀ l, (TDatum.rows l).length = l.length) ∧ (∀ l, (TRule.rows l).length = l.length) ∧ (∀ l, (TLattice.rows l).length = l.length) ∧ (∀ l, (TType.rows l).length = l.length) ∧ (∀ l, (TExpr.rows l).length = l.length) ∧ (∀ l, (TTick.rows l).length = l.length) ∧ (∀ l, (TEntry.rows l).length = l.length) ∧ (∀ l, (TValue.rows l).length = l.length) ∧ (∀ l, (TFunction.rows l).length = l.length) ∧ (∀ l, (TdecideUAnswer.rows l).length = l.length) ∧ (∀ l, (TevalUresult.rows l).length = l.length) ∧ (∀ l, (TevalUframe.rows l).length = l.length) ∧ (∀ l, (TNode.rows l).length = l.length) ∧ (∀ l, (TFault.rows l).length = l.length) ∧ (∀ l, (Tplexusref18UScope.rows l).length = l.length) ∧ (∀ l, (TToken.rows l).length = l.length) ∧ (∀ l, (Tplexusref16UP.rows l).length = l.length) ∧ (∀ l, (TlatticeUchecker.rows l).length = l.length) ∧ (∀ l, (TtypesUelaborator.rows l).length = l.length) ∧ (∀ l, (TwireUWriter.rows l).length = l.length) ∧ (∀ l, (TwireUReader.rows l).length = l.length) ∧ (∀ l, (TclosureUhorn.rows l).length = l.length) ∧ (∀ l, (TclosureUsystem.rows l).length = l.length) ∧ (∀ l, (TclosureUstep.rows l).length = l.length) ∧ (∀ l, (rowsS l).length = l.length) ∧ (∀ k l, (rowsI k l).length = l.length) ∧ (∀ l, (rowsB l).length = l.length) := ⟨TParam.rows_len, TDatum.rows_len, TRule.rows_len, TLattice.rows_len, TType.rows_len, TExpr.rows_len, TTick.rows_len, TEntry.rows_len, TValue.rows_len, TFunction.rows_len, TdecideUAnswer.rows_len, TevalUresult.rows_len, TevalUframe.rows_len, TNode.rows_len, TFault.rows_len, Tplexusref18UScope.rows_len, TToken.rows_len, Tplexusref16UP.rows_len, TlatticeUchecker.rows_len, TtypesUelaborator.rows_len, TwireUWriter.rows_len, TwireUReader.rows_len, TclosureUhorn.rows_len, TclosureUsystem.rows_len, TclosureUstep.rows_len, (fun _ => rowsS_len), (fun _ _ => rowsI_len), (fun _ => rowsB_len)⟩
abbrev TParam.z : TParam := { Name := [], Sort_ := 0 : TParam }
abbrev TDatum.z : TDatum := { Sort_ := 0, N := 0, Name := [], Names := [] : TDatum }
abbrev TRule.z : TRule := { If := [], Then := [] : TRule }
abbrev TLattice.z : TLattice := { Kind := 0, Lo := 0, Hi := 0, Names := [], Parts := [], Rules := [] : TLattice }
abbrev TType.z : TType := { Sort_ := 0, Lattice := { Kind := 0, Lo := 0, Hi := 0, Names := [], Parts := [], Rules := [] : TLattice } : TType }
abbrev TExpr.z : TExpr := { Op := 0, Type_ := { Sort_ := 0, Lattice := { Kind := 0, Lo := 0, Hi := 0, Names := [], Parts := [], Rules := [] : TLattice } : TType }, N := 0, Text := [], At := 0, Kids := [] : TExpr }
abbrev TTick.z : TTick := { Process := 0, N := 0 : TTick }
abbrev TEntry.z : TEntry := { Clock := [], Name := [] : TEntry }
abbrev TValue.z : TValue := { N := 0, Names := [], Parts := [], Entries := [] : TValue }
abbrev TFunction.z : TFunction := { Name := [], On := [], Params := [], Result := 0, Body := { Op := 0, Type_ := { Sort_ := 0, Lattice := { Kind := 0, Lo := 0, Hi := 0, Names := [], Parts := [], Rules := [] : TLattice } : TType }, N := 0, Text := [], At := 0, Kids := [] : TExpr } : TFunction }
abbrev TdecideUAnswer.z : TdecideUAnswer := { Holds := false, I := 0, J := 0 : TdecideUAnswer }
abbrev TevalUresult.z : TevalUresult := { d := { Sort_ := 0, N := 0, Name := [], Names := [] : TDatum }, v := { N := 0, Names := [], Parts := [], Entries := [] : TValue } : TevalUresult }
abbrev TevalUframe.z : TevalUframe := { state := { N := 0, Names := [], Parts := [], Entries := [] : TValue }, args := [] : TevalUframe }
abbrev TNode.z : TNode := { Kind := 0, Text := [], N := 0, At := 0, Kids := [] : TNode }
abbrev TFault.z : TFault := { Code := 0, At := 0 : TFault }
abbrev Tplexusref18UScope.z : Tplexusref18UScope := { L := { Kind := 0, Lo := 0, Hi := 0, Names := [], Parts := [], Rules := [] : TLattice }, Params := [] : Tplexusref18UScope }
abbrev TToken.z : TToken := { Kind := 0, Text := [], N := 0, At := 0 : TToken }
abbrev Tplexusref16UP.z : Tplexusref16UP := { T := [], I := 0, Open := 0, Bad := false, Fault := { Code := 0, At := 0 : TFault } : Tplexusref16UP }
abbrev TlatticeUchecker.z : TlatticeUchecker := { nodes := 0 : TlatticeUchecker }
abbrev TtypesUelaborator.z : TtypesUelaborator := { l := { Kind := 0, Lo := 0, Hi := 0, Names := [], Parts := [], Rules := [] : TLattice }, params := [] : TtypesUelaborator }
abbrev TwireUWriter.z : TwireUWriter := { data := [] : TwireUWriter }
abbrev TwireUReader.z : TwireUReader := { data := [], at_ := 0, item := 0, err := 0 : TwireUReader }
abbrev TclosureUhorn.z : TclosureUhorn := { premises := [], then_ := 0 : TclosureUhorn }
abbrev TclosureUsystem.z : TclosureUsystem := { universe_ := [], rules := [] : TclosureUsystem }
abbrev TclosureUstep.z : TclosureUstep := { rule := 0, name := 0 : TclosureUstep }
theorem zi {p : Prop} (h : p := by (try simp only [gsimp]); repeat (first | exact Imp.refl _ | exact Imp.nil _ | exact ImpL.nil | exact ImpR.nil | exact ImpL.refl _ | exact ImpR.refl _ | exact Imp.of (by simp only [gsimp]; rfl) | (dsimp only; try simp only [gsimp]) | apply Imp.agg | apply Imp.tup | apply Imp.ip | apply Imp.fn | apply ImpL.cons | apply Imp.sl | apply ImpR.cons | apply ImpR.append)) : p := h
theorem zp {p : Prop} (h : p := by repeat (first | exact PendD.nil | refine PendD.cons rfl (DOpP.vop (cl := false) rfl eqs_nil) ?_ | refine PendD.skip rfl ?_ | refine PendD.cons rfl (vopL_ok (cl := false) rfl eqs_nil) ?_)) : p := h
theorem zg {p : Prop} (h : p := by first | rfl | simp only [List.length_set] | simp only [glen, List.length_set, List.length_replicate, List.length_append, List.length_cons, List.length_nil]) : p := h
theorem zn {p : Prop} (h : p := by first | rfl | (simp only [gsimp]; rfl) | (simp only [gsimp, List.length_set]; rfl) | (simp only [gcs, gsimp, List.length_set]; rfl)) : p := h
theorem zq {α : Type} {l : List α} {i : Nat} {x : α} {p : Prop} (h : l[i]? = some x) (k : i < l.length → p := by intro h0; first | exact h0 | (simpa only [glen, List.length_append, List.length_set, List.length_replicate, List.length_cons, List.length_nil, List.length_take, List.length_drop, chunk_length] using h0)) : p := k (List.getElem?_eq_some_iff.1 h).1
theorem zo {c p : Prop} [Decidable c] (h : decide c = true) (k : c → p := by intro h0; simp only [glen, List.length_append, List.length_set, List.length_cons, List.length_nil, chunk_length] at h0 ⊢; omega) : p := k (of_decide_eq_true h)
theorem zk {p : Prop} (h : p := by kernel_rfl) : p := h
end Go.Proofs.YtcngmkedekmkhaaGreat
