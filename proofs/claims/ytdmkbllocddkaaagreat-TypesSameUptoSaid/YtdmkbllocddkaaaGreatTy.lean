/-
  Own work, printed by a program. The program's types as trees, and their cells.
-/
import Derived.Test.YtdmkbllocddkaaaGreatCt
namespace Go.Proofs.YtdmkbllocddkaaaGreat
open Go Go.Bw
structure TNode where
  Kind : Int
  Text : (List UInt8)
  N : Int
  At : Int
  Kids : (List TNode)
mutual
def TNode.cells : TNode → List AV
  | ⟨vKind, vText, vN, vAt, vKids⟩ => [.v (.int .i64 vKind), .v (.string ⟨⟨vText⟩⟩), .v (.int .i64 vN), .v (.int .i64 vAt), .sl 5 (TNode.rows vKids)]
def TNode.rows : List TNode → List (List AV)
  | [] => []
  | x :: r => TNode.cells x :: TNode.rows r
end
def TNode.cs (x : TNode) : List AV := [.v (.int .i64 x.Kind), .v (.string ⟨⟨x.Text⟩⟩), .v (.int .i64 x.N), .v (.int .i64 x.At), .sl 5 (TNode.rows x.Kids)]
theorem TNode.cells_eq : ∀ x : TNode, TNode.cells x = TNode.cs x
  | ⟨vKind, vText, vN, vAt, vKids⟩ => by first | rfl | simp only [TNode.cells, TNode.cs]
theorem TNode.rows_map : ∀ l : List TNode, TNode.rows l = l.map TNode.cs
  | [] => by simp only [TNode.rows, List.map_nil]
  | x :: r => by simp only [TNode.rows, TNode.cells_eq, TNode.rows_map r, List.map_cons]
theorem TNode.rows_len (l : List TNode) : (TNode.rows l).length = l.length := by rw [TNode.rows_map, List.length_map]
theorem TNode.rows_get {l : List TNode} {i : Nat} {x : TNode} (h : l[i]? = some x) : (TNode.rows l)[i]? = some (TNode.cs x) := by rw [TNode.rows_map]; exact get_map h
theorem TNode.rows_app (a b : List TNode) : TNode.rows (a ++ b) = TNode.rows a ++ TNode.rows b := by simp only [TNode.rows_map, List.map_append]
theorem TNode.rows_drop (n : Nat) (l : List TNode) : TNode.rows (l.drop n) = (TNode.rows l).drop n := by simp only [TNode.rows_map, List.map_drop]
theorem TNode.rows_take (n : Nat) (l : List TNode) : TNode.rows (l.take n) = (TNode.rows l).take n := by simp only [TNode.rows_map, List.map_take]
theorem TNode.rows_cons (x : TNode) (r : List TNode) : TNode.rows (x :: r) = TNode.cs x :: TNode.rows r := by simp only [TNode.rows_map, List.map_cons]
theorem TNode.rows_nil : TNode.rows [] = [] := by rw [TNode.rows_map]; rfl
theorem TNode.rows_set (l : List TNode) (i : Nat) (x : TNode) : TNode.rows (l.set i x) = (TNode.rows l).set i (TNode.cs x) := by simp only [TNode.rows_map, List.map_set]
theorem TNode.rows_ones (l : List TNode) : rowsOnes (TNode.rows l) = true := by rw [TNode.rows_map]; exact rowsOnes_of (fun _ => rfl) l
structure TFault where
  Code : Int
  At : Int
def TFault.cs (x : TFault) : List AV := [.v (.int .i64 x.Code), .v (.int .i64 x.At)]
def TFault.rows (l : List TFault) : List (List AV) := l.map TFault.cs
theorem TFault.rows_map (l : List TFault) : TFault.rows l = l.map TFault.cs := rfl
theorem TFault.rows_len (l : List TFault) : (TFault.rows l).length = l.length := by rw [TFault.rows_map, List.length_map]
theorem TFault.rows_get {l : List TFault} {i : Nat} {x : TFault} (h : l[i]? = some x) : (TFault.rows l)[i]? = some (TFault.cs x) := by rw [TFault.rows_map]; exact get_map h
theorem TFault.rows_app (a b : List TFault) : TFault.rows (a ++ b) = TFault.rows a ++ TFault.rows b := by simp only [TFault.rows_map, List.map_append]
theorem TFault.rows_drop (n : Nat) (l : List TFault) : TFault.rows (l.drop n) = (TFault.rows l).drop n := by simp only [TFault.rows_map, List.map_drop]
theorem TFault.rows_take (n : Nat) (l : List TFault) : TFault.rows (l.take n) = (TFault.rows l).take n := by simp only [TFault.rows_map, List.map_take]
theorem TFault.rows_cons (x : TFault) (r : List TFault) : TFault.rows (x :: r) = TFault.cs x :: TFault.rows r := by simp only [TFault.rows_map, List.map_cons]
theorem TFault.rows_nil : TFault.rows [] = [] := by rw [TFault.rows_map]; rfl
theorem TFault.rows_set (l : List TFault) (i : Nat) (x : TFault) : TFault.rows (l.set i x) = (TFault.rows l).set i (TFault.cs x) := by simp only [TFault.rows_map, List.map_set]
theorem TFault.rows_ones (l : List TFault) : rowsOnes (TFault.rows l) = true := by rw [TFault.rows_map]; exact rowsOnes_of (fun _ => rfl) l
structure TRule where
  If : (List (List UInt8))
  Then : (List UInt8)
def TRule.cs (x : TRule) : List AV := [.sl 1 (rowsS x.If), .v (.string ⟨⟨x.Then⟩⟩)]
def TRule.rows (l : List TRule) : List (List AV) := l.map TRule.cs
theorem TRule.rows_map (l : List TRule) : TRule.rows l = l.map TRule.cs := rfl
theorem TRule.rows_len (l : List TRule) : (TRule.rows l).length = l.length := by rw [TRule.rows_map, List.length_map]
theorem TRule.rows_get {l : List TRule} {i : Nat} {x : TRule} (h : l[i]? = some x) : (TRule.rows l)[i]? = some (TRule.cs x) := by rw [TRule.rows_map]; exact get_map h
theorem TRule.rows_app (a b : List TRule) : TRule.rows (a ++ b) = TRule.rows a ++ TRule.rows b := by simp only [TRule.rows_map, List.map_append]
theorem TRule.rows_drop (n : Nat) (l : List TRule) : TRule.rows (l.drop n) = (TRule.rows l).drop n := by simp only [TRule.rows_map, List.map_drop]
theorem TRule.rows_take (n : Nat) (l : List TRule) : TRule.rows (l.take n) = (TRule.rows l).take n := by simp only [TRule.rows_map, List.map_take]
theorem TRule.rows_cons (x : TRule) (r : List TRule) : TRule.rows (x :: r) = TRule.cs x :: TRule.rows r := by simp only [TRule.rows_map, List.map_cons]
theorem TRule.rows_nil : TRule.rows [] = [] := by rw [TRule.rows_map]; rfl
theorem TRule.rows_set (l : List TRule) (i : Nat) (x : TRule) : TRule.rows (l.set i x) = (TRule.rows l).set i (TRule.cs x) := by simp only [TRule.rows_map, List.map_set]
theorem TRule.rows_ones (l : List TRule) : rowsOnes (TRule.rows l) = true := by rw [TRule.rows_map]; exact rowsOnes_of (fun _ => rfl) l
structure TLattice where
  Kind : Int
  Lo : Int
  Hi : Int
  Names : (List (List UInt8))
  Parts : (List TLattice)
  Rules : (List TRule)
mutual
def TLattice.cells : TLattice → List AV
  | ⟨vKind, vLo, vHi, vNames, vParts, vRules⟩ => [.v (.int .i64 vKind), .v (.int .i64 vLo), .v (.int .i64 vHi), .sl 1 (rowsS vNames), .sl 6 (TLattice.rows vParts), .sl 2 (TRule.rows vRules)]
def TLattice.rows : List TLattice → List (List AV)
  | [] => []
  | x :: r => TLattice.cells x :: TLattice.rows r
end
def TLattice.cs (x : TLattice) : List AV := [.v (.int .i64 x.Kind), .v (.int .i64 x.Lo), .v (.int .i64 x.Hi), .sl 1 (rowsS x.Names), .sl 6 (TLattice.rows x.Parts), .sl 2 (TRule.rows x.Rules)]
theorem TLattice.cells_eq : ∀ x : TLattice, TLattice.cells x = TLattice.cs x
  | ⟨vKind, vLo, vHi, vNames, vParts, vRules⟩ => by first | rfl | simp only [TLattice.cells, TLattice.cs]
theorem TLattice.rows_map : ∀ l : List TLattice, TLattice.rows l = l.map TLattice.cs
  | [] => by simp only [TLattice.rows, List.map_nil]
  | x :: r => by simp only [TLattice.rows, TLattice.cells_eq, TLattice.rows_map r, List.map_cons]
theorem TLattice.rows_len (l : List TLattice) : (TLattice.rows l).length = l.length := by rw [TLattice.rows_map, List.length_map]
theorem TLattice.rows_get {l : List TLattice} {i : Nat} {x : TLattice} (h : l[i]? = some x) : (TLattice.rows l)[i]? = some (TLattice.cs x) := by rw [TLattice.rows_map]; exact get_map h
theorem TLattice.rows_app (a b : List TLattice) : TLattice.rows (a ++ b) = TLattice.rows a ++ TLattice.rows b := by simp only [TLattice.rows_map, List.map_append]
theorem TLattice.rows_drop (n : Nat) (l : List TLattice) : TLattice.rows (l.drop n) = (TLattice.rows l).drop n := by simp only [TLattice.rows_map, List.map_drop]
theorem TLattice.rows_take (n : Nat) (l : List TLattice) : TLattice.rows (l.take n) = (TLattice.rows l).take n := by simp only [TLattice.rows_map, List.map_take]
theorem TLattice.rows_cons (x : TLattice) (r : List TLattice) : TLattice.rows (x :: r) = TLattice.cs x :: TLattice.rows r := by simp only [TLattice.rows_map, List.map_cons]
theorem TLattice.rows_nil : TLattice.rows [] = [] := by rw [TLattice.rows_map]; rfl
theorem TLattice.rows_set (l : List TLattice) (i : Nat) (x : TLattice) : TLattice.rows (l.set i x) = (TLattice.rows l).set i (TLattice.cs x) := by simp only [TLattice.rows_map, List.map_set]
theorem TLattice.rows_ones (l : List TLattice) : rowsOnes (TLattice.rows l) = true := by rw [TLattice.rows_map]; exact rowsOnes_of (fun _ => rfl) l
structure TObject where
  Name : (List UInt8)
  Lattice : TLattice
def TObject.cs (x : TObject) : List AV := [.v (.string ⟨⟨x.Name⟩⟩), .v (.int .i64 x.Lattice.Kind), .v (.int .i64 x.Lattice.Lo), .v (.int .i64 x.Lattice.Hi), .sl 1 (rowsS x.Lattice.Names), .sl 6 (TLattice.rows x.Lattice.Parts), .sl 2 (TRule.rows x.Lattice.Rules)]
def TObject.rows (l : List TObject) : List (List AV) := l.map TObject.cs
theorem TObject.rows_map (l : List TObject) : TObject.rows l = l.map TObject.cs := rfl
theorem TObject.rows_len (l : List TObject) : (TObject.rows l).length = l.length := by rw [TObject.rows_map, List.length_map]
theorem TObject.rows_get {l : List TObject} {i : Nat} {x : TObject} (h : l[i]? = some x) : (TObject.rows l)[i]? = some (TObject.cs x) := by rw [TObject.rows_map]; exact get_map h
theorem TObject.rows_app (a b : List TObject) : TObject.rows (a ++ b) = TObject.rows a ++ TObject.rows b := by simp only [TObject.rows_map, List.map_append]
theorem TObject.rows_drop (n : Nat) (l : List TObject) : TObject.rows (l.drop n) = (TObject.rows l).drop n := by simp only [TObject.rows_map, List.map_drop]
theorem TObject.rows_take (n : Nat) (l : List TObject) : TObject.rows (l.take n) = (TObject.rows l).take n := by simp only [TObject.rows_map, List.map_take]
theorem TObject.rows_cons (x : TObject) (r : List TObject) : TObject.rows (x :: r) = TObject.cs x :: TObject.rows r := by simp only [TObject.rows_map, List.map_cons]
theorem TObject.rows_nil : TObject.rows [] = [] := by rw [TObject.rows_map]; rfl
theorem TObject.rows_set (l : List TObject) (i : Nat) (x : TObject) : TObject.rows (l.set i x) = (TObject.rows l).set i (TObject.cs x) := by simp only [TObject.rows_map, List.map_set]
theorem TObject.rows_ones (l : List TObject) : rowsOnes (TObject.rows l) = true := by rw [TObject.rows_map]; exact rowsOnes_of (fun _ => rfl) l
structure TParam where
  Name : (List UInt8)
  Sort_ : Int
def TParam.cs (x : TParam) : List AV := [.v (.string ⟨⟨x.Name⟩⟩), .v (.int .i64 x.Sort_)]
def TParam.rows (l : List TParam) : List (List AV) := l.map TParam.cs
theorem TParam.rows_map (l : List TParam) : TParam.rows l = l.map TParam.cs := rfl
theorem TParam.rows_len (l : List TParam) : (TParam.rows l).length = l.length := by rw [TParam.rows_map, List.length_map]
theorem TParam.rows_get {l : List TParam} {i : Nat} {x : TParam} (h : l[i]? = some x) : (TParam.rows l)[i]? = some (TParam.cs x) := by rw [TParam.rows_map]; exact get_map h
theorem TParam.rows_app (a b : List TParam) : TParam.rows (a ++ b) = TParam.rows a ++ TParam.rows b := by simp only [TParam.rows_map, List.map_append]
theorem TParam.rows_drop (n : Nat) (l : List TParam) : TParam.rows (l.drop n) = (TParam.rows l).drop n := by simp only [TParam.rows_map, List.map_drop]
theorem TParam.rows_take (n : Nat) (l : List TParam) : TParam.rows (l.take n) = (TParam.rows l).take n := by simp only [TParam.rows_map, List.map_take]
theorem TParam.rows_cons (x : TParam) (r : List TParam) : TParam.rows (x :: r) = TParam.cs x :: TParam.rows r := by simp only [TParam.rows_map, List.map_cons]
theorem TParam.rows_nil : TParam.rows [] = [] := by rw [TParam.rows_map]; rfl
theorem TParam.rows_set (l : List TParam) (i : Nat) (x : TParam) : TParam.rows (l.set i x) = (TParam.rows l).set i (TParam.cs x) := by simp only [TParam.rows_map, List.map_set]
theorem TParam.rows_ones (l : List TParam) : rowsOnes (TParam.rows l) = true := by rw [TParam.rows_map]; exact rowsOnes_of (fun _ => rfl) l
structure TType where
  Sort_ : Int
  Lattice : TLattice
def TType.cs (x : TType) : List AV := [.v (.int .i64 x.Sort_), .v (.int .i64 x.Lattice.Kind), .v (.int .i64 x.Lattice.Lo), .v (.int .i64 x.Lattice.Hi), .sl 1 (rowsS x.Lattice.Names), .sl 6 (TLattice.rows x.Lattice.Parts), .sl 2 (TRule.rows x.Lattice.Rules)]
def TType.rows (l : List TType) : List (List AV) := l.map TType.cs
theorem TType.rows_map (l : List TType) : TType.rows l = l.map TType.cs := rfl
theorem TType.rows_len (l : List TType) : (TType.rows l).length = l.length := by rw [TType.rows_map, List.length_map]
theorem TType.rows_get {l : List TType} {i : Nat} {x : TType} (h : l[i]? = some x) : (TType.rows l)[i]? = some (TType.cs x) := by rw [TType.rows_map]; exact get_map h
theorem TType.rows_app (a b : List TType) : TType.rows (a ++ b) = TType.rows a ++ TType.rows b := by simp only [TType.rows_map, List.map_append]
theorem TType.rows_drop (n : Nat) (l : List TType) : TType.rows (l.drop n) = (TType.rows l).drop n := by simp only [TType.rows_map, List.map_drop]
theorem TType.rows_take (n : Nat) (l : List TType) : TType.rows (l.take n) = (TType.rows l).take n := by simp only [TType.rows_map, List.map_take]
theorem TType.rows_cons (x : TType) (r : List TType) : TType.rows (x :: r) = TType.cs x :: TType.rows r := by simp only [TType.rows_map, List.map_cons]
theorem TType.rows_nil : TType.rows [] = [] := by rw [TType.rows_map]; rfl
theorem TType.rows_set (l : List TType) (i : Nat) (x : TType) : TType.rows (l.set i x) = (TType.rows l).set i (TType.cs x) := by simp only [TType.rows_map, List.map_set]
theorem TType.rows_ones (l : List TType) : rowsOnes (TType.rows l) = true := by rw [TType.rows_map]; exact rowsOnes_of (fun _ => rfl) l
structure TExpr where
  Op : Int
  Type_ : TType
  N : Int
  Text : (List UInt8)
  At : Int
  Kids : (List TExpr)
mutual
def TExpr.cells : TExpr → List AV
  | ⟨vOp, vType_, vN, vText, vAt, vKids⟩ => [.v (.int .i64 vOp), .v (.int .i64 vType_.Sort_), .v (.int .i64 vType_.Lattice.Kind), .v (.int .i64 vType_.Lattice.Lo), .v (.int .i64 vType_.Lattice.Hi), .sl 1 (rowsS vType_.Lattice.Names), .sl 6 (TLattice.rows vType_.Lattice.Parts), .sl 2 (TRule.rows vType_.Lattice.Rules), .v (.int .i64 vN), .v (.string ⟨⟨vText⟩⟩), .v (.int .i64 vAt), .sl 12 (TExpr.rows vKids)]
def TExpr.rows : List TExpr → List (List AV)
  | [] => []
  | x :: r => TExpr.cells x :: TExpr.rows r
end
def TExpr.cs (x : TExpr) : List AV := [.v (.int .i64 x.Op), .v (.int .i64 x.Type_.Sort_), .v (.int .i64 x.Type_.Lattice.Kind), .v (.int .i64 x.Type_.Lattice.Lo), .v (.int .i64 x.Type_.Lattice.Hi), .sl 1 (rowsS x.Type_.Lattice.Names), .sl 6 (TLattice.rows x.Type_.Lattice.Parts), .sl 2 (TRule.rows x.Type_.Lattice.Rules), .v (.int .i64 x.N), .v (.string ⟨⟨x.Text⟩⟩), .v (.int .i64 x.At), .sl 12 (TExpr.rows x.Kids)]
theorem TExpr.cells_eq : ∀ x : TExpr, TExpr.cells x = TExpr.cs x
  | ⟨vOp, vType_, vN, vText, vAt, vKids⟩ => by first | rfl | simp only [TExpr.cells, TExpr.cs]
theorem TExpr.rows_map : ∀ l : List TExpr, TExpr.rows l = l.map TExpr.cs
  | [] => by simp only [TExpr.rows, List.map_nil]
  | x :: r => by simp only [TExpr.rows, TExpr.cells_eq, TExpr.rows_map r, List.map_cons]
theorem TExpr.rows_len (l : List TExpr) : (TExpr.rows l).length = l.length := by rw [TExpr.rows_map, List.length_map]
theorem TExpr.rows_get {l : List TExpr} {i : Nat} {x : TExpr} (h : l[i]? = some x) : (TExpr.rows l)[i]? = some (TExpr.cs x) := by rw [TExpr.rows_map]; exact get_map h
theorem TExpr.rows_app (a b : List TExpr) : TExpr.rows (a ++ b) = TExpr.rows a ++ TExpr.rows b := by simp only [TExpr.rows_map, List.map_append]
theorem TExpr.rows_drop (n : Nat) (l : List TExpr) : TExpr.rows (l.drop n) = (TExpr.rows l).drop n := by simp only [TExpr.rows_map, List.map_drop]
theorem TExpr.rows_take (n : Nat) (l : List TExpr) : TExpr.rows (l.take n) = (TExpr.rows l).take n := by simp only [TExpr.rows_map, List.map_take]
theorem TExpr.rows_cons (x : TExpr) (r : List TExpr) : TExpr.rows (x :: r) = TExpr.cs x :: TExpr.rows r := by simp only [TExpr.rows_map, List.map_cons]
theorem TExpr.rows_nil : TExpr.rows [] = [] := by rw [TExpr.rows_map]; rfl
theorem TExpr.rows_set (l : List TExpr) (i : Nat) (x : TExpr) : TExpr.rows (l.set i x) = (TExpr.rows l).set i (TExpr.cs x) := by simp only [TExpr.rows_map, List.map_set]
theorem TExpr.rows_ones (l : List TExpr) : rowsOnes (TExpr.rows l) = true := by rw [TExpr.rows_map]; exact rowsOnes_of (fun _ => rfl) l
structure TFunction where
  Name : (List UInt8)
  On : (List UInt8)
  Params : (List TParam)
  Result : Int
  Body : TExpr
def TFunction.cs (x : TFunction) : List AV := [.v (.string ⟨⟨x.Name⟩⟩), .v (.string ⟨⟨x.On⟩⟩), .sl 2 (TParam.rows x.Params), .v (.int .i64 x.Result), .v (.int .i64 x.Body.Op), .v (.int .i64 x.Body.Type_.Sort_), .v (.int .i64 x.Body.Type_.Lattice.Kind), .v (.int .i64 x.Body.Type_.Lattice.Lo), .v (.int .i64 x.Body.Type_.Lattice.Hi), .sl 1 (rowsS x.Body.Type_.Lattice.Names), .sl 6 (TLattice.rows x.Body.Type_.Lattice.Parts), .sl 2 (TRule.rows x.Body.Type_.Lattice.Rules), .v (.int .i64 x.Body.N), .v (.string ⟨⟨x.Body.Text⟩⟩), .v (.int .i64 x.Body.At), .sl 12 (TExpr.rows x.Body.Kids)]
def TFunction.rows (l : List TFunction) : List (List AV) := l.map TFunction.cs
theorem TFunction.rows_map (l : List TFunction) : TFunction.rows l = l.map TFunction.cs := rfl
theorem TFunction.rows_len (l : List TFunction) : (TFunction.rows l).length = l.length := by rw [TFunction.rows_map, List.length_map]
theorem TFunction.rows_get {l : List TFunction} {i : Nat} {x : TFunction} (h : l[i]? = some x) : (TFunction.rows l)[i]? = some (TFunction.cs x) := by rw [TFunction.rows_map]; exact get_map h
theorem TFunction.rows_app (a b : List TFunction) : TFunction.rows (a ++ b) = TFunction.rows a ++ TFunction.rows b := by simp only [TFunction.rows_map, List.map_append]
theorem TFunction.rows_drop (n : Nat) (l : List TFunction) : TFunction.rows (l.drop n) = (TFunction.rows l).drop n := by simp only [TFunction.rows_map, List.map_drop]
theorem TFunction.rows_take (n : Nat) (l : List TFunction) : TFunction.rows (l.take n) = (TFunction.rows l).take n := by simp only [TFunction.rows_map, List.map_take]
theorem TFunction.rows_cons (x : TFunction) (r : List TFunction) : TFunction.rows (x :: r) = TFunction.cs x :: TFunction.rows r := by simp only [TFunction.rows_map, List.map_cons]
theorem TFunction.rows_nil : TFunction.rows [] = [] := by rw [TFunction.rows_map]; rfl
theorem TFunction.rows_set (l : List TFunction) (i : Nat) (x : TFunction) : TFunction.rows (l.set i x) = (TFunction.rows l).set i (TFunction.cs x) := by simp only [TFunction.rows_map, List.map_set]
theorem TFunction.rows_ones (l : List TFunction) : rowsOnes (TFunction.rows l) = true := by rw [TFunction.rows_map]; exact rowsOnes_of (fun _ => rfl) l
structure TProgram where
  Objects : (List TObject)
  Updates : (List TFunction)
  Queries : (List TFunction)
def TProgram.cs (x : TProgram) : List AV := [.sl 7 (TObject.rows x.Objects), .sl 16 (TFunction.rows x.Updates), .sl 16 (TFunction.rows x.Queries)]
def TProgram.rows (l : List TProgram) : List (List AV) := l.map TProgram.cs
theorem TProgram.rows_map (l : List TProgram) : TProgram.rows l = l.map TProgram.cs := rfl
theorem TProgram.rows_len (l : List TProgram) : (TProgram.rows l).length = l.length := by rw [TProgram.rows_map, List.length_map]
theorem TProgram.rows_get {l : List TProgram} {i : Nat} {x : TProgram} (h : l[i]? = some x) : (TProgram.rows l)[i]? = some (TProgram.cs x) := by rw [TProgram.rows_map]; exact get_map h
theorem TProgram.rows_app (a b : List TProgram) : TProgram.rows (a ++ b) = TProgram.rows a ++ TProgram.rows b := by simp only [TProgram.rows_map, List.map_append]
theorem TProgram.rows_drop (n : Nat) (l : List TProgram) : TProgram.rows (l.drop n) = (TProgram.rows l).drop n := by simp only [TProgram.rows_map, List.map_drop]
theorem TProgram.rows_take (n : Nat) (l : List TProgram) : TProgram.rows (l.take n) = (TProgram.rows l).take n := by simp only [TProgram.rows_map, List.map_take]
theorem TProgram.rows_cons (x : TProgram) (r : List TProgram) : TProgram.rows (x :: r) = TProgram.cs x :: TProgram.rows r := by simp only [TProgram.rows_map, List.map_cons]
theorem TProgram.rows_nil : TProgram.rows [] = [] := by rw [TProgram.rows_map]; rfl
theorem TProgram.rows_set (l : List TProgram) (i : Nat) (x : TProgram) : TProgram.rows (l.set i x) = (TProgram.rows l).set i (TProgram.cs x) := by simp only [TProgram.rows_map, List.map_set]
theorem TProgram.rows_ones (l : List TProgram) : rowsOnes (TProgram.rows l) = true := by rw [TProgram.rows_map]; exact rowsOnes_of (fun _ => rfl) l
structure TtypesUchecker where
  count : Int
  used : (List (List UInt8))
  lattices : (List TObject)
  out : TProgram
def TtypesUchecker.cs (x : TtypesUchecker) : List AV := [.v (.int .i64 x.count), .sl 1 (rowsS x.used), .sl 7 (TObject.rows x.lattices), .sl 7 (TObject.rows x.out.Objects), .sl 16 (TFunction.rows x.out.Updates), .sl 16 (TFunction.rows x.out.Queries)]
def TtypesUchecker.rows (l : List TtypesUchecker) : List (List AV) := l.map TtypesUchecker.cs
theorem TtypesUchecker.rows_map (l : List TtypesUchecker) : TtypesUchecker.rows l = l.map TtypesUchecker.cs := rfl
theorem TtypesUchecker.rows_len (l : List TtypesUchecker) : (TtypesUchecker.rows l).length = l.length := by rw [TtypesUchecker.rows_map, List.length_map]
theorem TtypesUchecker.rows_get {l : List TtypesUchecker} {i : Nat} {x : TtypesUchecker} (h : l[i]? = some x) : (TtypesUchecker.rows l)[i]? = some (TtypesUchecker.cs x) := by rw [TtypesUchecker.rows_map]; exact get_map h
theorem TtypesUchecker.rows_app (a b : List TtypesUchecker) : TtypesUchecker.rows (a ++ b) = TtypesUchecker.rows a ++ TtypesUchecker.rows b := by simp only [TtypesUchecker.rows_map, List.map_append]
theorem TtypesUchecker.rows_drop (n : Nat) (l : List TtypesUchecker) : TtypesUchecker.rows (l.drop n) = (TtypesUchecker.rows l).drop n := by simp only [TtypesUchecker.rows_map, List.map_drop]
theorem TtypesUchecker.rows_take (n : Nat) (l : List TtypesUchecker) : TtypesUchecker.rows (l.take n) = (TtypesUchecker.rows l).take n := by simp only [TtypesUchecker.rows_map, List.map_take]
theorem TtypesUchecker.rows_cons (x : TtypesUchecker) (r : List TtypesUchecker) : TtypesUchecker.rows (x :: r) = TtypesUchecker.cs x :: TtypesUchecker.rows r := by simp only [TtypesUchecker.rows_map, List.map_cons]
theorem TtypesUchecker.rows_nil : TtypesUchecker.rows [] = [] := by rw [TtypesUchecker.rows_map]; rfl
theorem TtypesUchecker.rows_set (l : List TtypesUchecker) (i : Nat) (x : TtypesUchecker) : TtypesUchecker.rows (l.set i x) = (TtypesUchecker.rows l).set i (TtypesUchecker.cs x) := by simp only [TtypesUchecker.rows_map, List.map_set]
theorem TtypesUchecker.rows_ones (l : List TtypesUchecker) : rowsOnes (TtypesUchecker.rows l) = true := by rw [TtypesUchecker.rows_map]; exact rowsOnes_of (fun _ => rfl) l
structure TtypesUelaborator where
  l : TLattice
  params : (List TParam)
def TtypesUelaborator.cs (x : TtypesUelaborator) : List AV := [.v (.int .i64 x.l.Kind), .v (.int .i64 x.l.Lo), .v (.int .i64 x.l.Hi), .sl 1 (rowsS x.l.Names), .sl 6 (TLattice.rows x.l.Parts), .sl 2 (TRule.rows x.l.Rules), .sl 2 (TParam.rows x.params)]
def TtypesUelaborator.rows (l : List TtypesUelaborator) : List (List AV) := l.map TtypesUelaborator.cs
theorem TtypesUelaborator.rows_map (l : List TtypesUelaborator) : TtypesUelaborator.rows l = l.map TtypesUelaborator.cs := rfl
theorem TtypesUelaborator.rows_len (l : List TtypesUelaborator) : (TtypesUelaborator.rows l).length = l.length := by rw [TtypesUelaborator.rows_map, List.length_map]
theorem TtypesUelaborator.rows_get {l : List TtypesUelaborator} {i : Nat} {x : TtypesUelaborator} (h : l[i]? = some x) : (TtypesUelaborator.rows l)[i]? = some (TtypesUelaborator.cs x) := by rw [TtypesUelaborator.rows_map]; exact get_map h
theorem TtypesUelaborator.rows_app (a b : List TtypesUelaborator) : TtypesUelaborator.rows (a ++ b) = TtypesUelaborator.rows a ++ TtypesUelaborator.rows b := by simp only [TtypesUelaborator.rows_map, List.map_append]
theorem TtypesUelaborator.rows_drop (n : Nat) (l : List TtypesUelaborator) : TtypesUelaborator.rows (l.drop n) = (TtypesUelaborator.rows l).drop n := by simp only [TtypesUelaborator.rows_map, List.map_drop]
theorem TtypesUelaborator.rows_take (n : Nat) (l : List TtypesUelaborator) : TtypesUelaborator.rows (l.take n) = (TtypesUelaborator.rows l).take n := by simp only [TtypesUelaborator.rows_map, List.map_take]
theorem TtypesUelaborator.rows_cons (x : TtypesUelaborator) (r : List TtypesUelaborator) : TtypesUelaborator.rows (x :: r) = TtypesUelaborator.cs x :: TtypesUelaborator.rows r := by simp only [TtypesUelaborator.rows_map, List.map_cons]
theorem TtypesUelaborator.rows_nil : TtypesUelaborator.rows [] = [] := by rw [TtypesUelaborator.rows_map]; rfl
theorem TtypesUelaborator.rows_set (l : List TtypesUelaborator) (i : Nat) (x : TtypesUelaborator) : TtypesUelaborator.rows (l.set i x) = (TtypesUelaborator.rows l).set i (TtypesUelaborator.cs x) := by simp only [TtypesUelaborator.rows_map, List.map_set]
theorem TtypesUelaborator.rows_ones (l : List TtypesUelaborator) : rowsOnes (TtypesUelaborator.rows l) = true := by rw [TtypesUelaborator.rows_map]; exact rowsOnes_of (fun _ => rfl) l
structure Tplexusref18UScope where
  L : TLattice
  Params : (List TParam)
def Tplexusref18UScope.cs (x : Tplexusref18UScope) : List AV := [.v (.int .i64 x.L.Kind), .v (.int .i64 x.L.Lo), .v (.int .i64 x.L.Hi), .sl 1 (rowsS x.L.Names), .sl 6 (TLattice.rows x.L.Parts), .sl 2 (TRule.rows x.L.Rules), .sl 2 (TParam.rows x.Params)]
def Tplexusref18UScope.rows (l : List Tplexusref18UScope) : List (List AV) := l.map Tplexusref18UScope.cs
theorem Tplexusref18UScope.rows_map (l : List Tplexusref18UScope) : Tplexusref18UScope.rows l = l.map Tplexusref18UScope.cs := rfl
theorem Tplexusref18UScope.rows_len (l : List Tplexusref18UScope) : (Tplexusref18UScope.rows l).length = l.length := by rw [Tplexusref18UScope.rows_map, List.length_map]
theorem Tplexusref18UScope.rows_get {l : List Tplexusref18UScope} {i : Nat} {x : Tplexusref18UScope} (h : l[i]? = some x) : (Tplexusref18UScope.rows l)[i]? = some (Tplexusref18UScope.cs x) := by rw [Tplexusref18UScope.rows_map]; exact get_map h
theorem Tplexusref18UScope.rows_app (a b : List Tplexusref18UScope) : Tplexusref18UScope.rows (a ++ b) = Tplexusref18UScope.rows a ++ Tplexusref18UScope.rows b := by simp only [Tplexusref18UScope.rows_map, List.map_append]
theorem Tplexusref18UScope.rows_drop (n : Nat) (l : List Tplexusref18UScope) : Tplexusref18UScope.rows (l.drop n) = (Tplexusref18UScope.rows l).drop n := by simp only [Tplexusref18UScope.rows_map, List.map_drop]
theorem Tplexusref18UScope.rows_take (n : Nat) (l : List Tplexusref18UScope) : Tplexusref18UScope.rows (l.take n) = (Tplexusref18UScope.rows l).take n := by simp only [Tplexusref18UScope.rows_map, List.map_take]
theorem Tplexusref18UScope.rows_cons (x : Tplexusref18UScope) (r : List Tplexusref18UScope) : Tplexusref18UScope.rows (x :: r) = Tplexusref18UScope.cs x :: Tplexusref18UScope.rows r := by simp only [Tplexusref18UScope.rows_map, List.map_cons]
theorem Tplexusref18UScope.rows_nil : Tplexusref18UScope.rows [] = [] := by rw [Tplexusref18UScope.rows_map]; rfl
theorem Tplexusref18UScope.rows_set (l : List Tplexusref18UScope) (i : Nat) (x : Tplexusref18UScope) : Tplexusref18UScope.rows (l.set i x) = (Tplexusref18UScope.rows l).set i (Tplexusref18UScope.cs x) := by simp only [Tplexusref18UScope.rows_map, List.map_set]
theorem Tplexusref18UScope.rows_ones (l : List Tplexusref18UScope) : rowsOnes (Tplexusref18UScope.rows l) = true := by rw [Tplexusref18UScope.rows_map]; exact rowsOnes_of (fun _ => rfl) l
structure TtypesUdescriber where
  known : (List TObject)
def TtypesUdescriber.cs (x : TtypesUdescriber) : List AV := [.sl 7 (TObject.rows x.known)]
def TtypesUdescriber.rows (l : List TtypesUdescriber) : List (List AV) := l.map TtypesUdescriber.cs
theorem TtypesUdescriber.rows_map (l : List TtypesUdescriber) : TtypesUdescriber.rows l = l.map TtypesUdescriber.cs := rfl
theorem TtypesUdescriber.rows_len (l : List TtypesUdescriber) : (TtypesUdescriber.rows l).length = l.length := by rw [TtypesUdescriber.rows_map, List.length_map]
theorem TtypesUdescriber.rows_get {l : List TtypesUdescriber} {i : Nat} {x : TtypesUdescriber} (h : l[i]? = some x) : (TtypesUdescriber.rows l)[i]? = some (TtypesUdescriber.cs x) := by rw [TtypesUdescriber.rows_map]; exact get_map h
theorem TtypesUdescriber.rows_app (a b : List TtypesUdescriber) : TtypesUdescriber.rows (a ++ b) = TtypesUdescriber.rows a ++ TtypesUdescriber.rows b := by simp only [TtypesUdescriber.rows_map, List.map_append]
theorem TtypesUdescriber.rows_drop (n : Nat) (l : List TtypesUdescriber) : TtypesUdescriber.rows (l.drop n) = (TtypesUdescriber.rows l).drop n := by simp only [TtypesUdescriber.rows_map, List.map_drop]
theorem TtypesUdescriber.rows_take (n : Nat) (l : List TtypesUdescriber) : TtypesUdescriber.rows (l.take n) = (TtypesUdescriber.rows l).take n := by simp only [TtypesUdescriber.rows_map, List.map_take]
theorem TtypesUdescriber.rows_cons (x : TtypesUdescriber) (r : List TtypesUdescriber) : TtypesUdescriber.rows (x :: r) = TtypesUdescriber.cs x :: TtypesUdescriber.rows r := by simp only [TtypesUdescriber.rows_map, List.map_cons]
theorem TtypesUdescriber.rows_nil : TtypesUdescriber.rows [] = [] := by rw [TtypesUdescriber.rows_map]; rfl
theorem TtypesUdescriber.rows_set (l : List TtypesUdescriber) (i : Nat) (x : TtypesUdescriber) : TtypesUdescriber.rows (l.set i x) = (TtypesUdescriber.rows l).set i (TtypesUdescriber.cs x) := by simp only [TtypesUdescriber.rows_map, List.map_set]
theorem TtypesUdescriber.rows_ones (l : List TtypesUdescriber) : rowsOnes (TtypesUdescriber.rows l) = true := by rw [TtypesUdescriber.rows_map]; exact rowsOnes_of (fun _ => rfl) l
structure TToken where
  Kind : Int
  Text : (List UInt8)
  N : Int
  At : Int
def TToken.cs (x : TToken) : List AV := [.v (.int .i64 x.Kind), .v (.string ⟨⟨x.Text⟩⟩), .v (.int .i64 x.N), .v (.int .i64 x.At)]
def TToken.rows (l : List TToken) : List (List AV) := l.map TToken.cs
theorem TToken.rows_map (l : List TToken) : TToken.rows l = l.map TToken.cs := rfl
theorem TToken.rows_len (l : List TToken) : (TToken.rows l).length = l.length := by rw [TToken.rows_map, List.length_map]
theorem TToken.rows_get {l : List TToken} {i : Nat} {x : TToken} (h : l[i]? = some x) : (TToken.rows l)[i]? = some (TToken.cs x) := by rw [TToken.rows_map]; exact get_map h
theorem TToken.rows_app (a b : List TToken) : TToken.rows (a ++ b) = TToken.rows a ++ TToken.rows b := by simp only [TToken.rows_map, List.map_append]
theorem TToken.rows_drop (n : Nat) (l : List TToken) : TToken.rows (l.drop n) = (TToken.rows l).drop n := by simp only [TToken.rows_map, List.map_drop]
theorem TToken.rows_take (n : Nat) (l : List TToken) : TToken.rows (l.take n) = (TToken.rows l).take n := by simp only [TToken.rows_map, List.map_take]
theorem TToken.rows_cons (x : TToken) (r : List TToken) : TToken.rows (x :: r) = TToken.cs x :: TToken.rows r := by simp only [TToken.rows_map, List.map_cons]
theorem TToken.rows_nil : TToken.rows [] = [] := by rw [TToken.rows_map]; rfl
theorem TToken.rows_set (l : List TToken) (i : Nat) (x : TToken) : TToken.rows (l.set i x) = (TToken.rows l).set i (TToken.cs x) := by simp only [TToken.rows_map, List.map_set]
theorem TToken.rows_ones (l : List TToken) : rowsOnes (TToken.rows l) = true := by rw [TToken.rows_map]; exact rowsOnes_of (fun _ => rfl) l
structure Tplexusref16UP where
  T : (List TToken)
  I : Int
  Open : Int
  Bad : Bool
  Fault : TFault
def Tplexusref16UP.cs (x : Tplexusref16UP) : List AV := [.sl 4 (TToken.rows x.T), .v (.int .i64 x.I), .v (.int .i64 x.Open), .v (.bool x.Bad), .v (.int .i64 x.Fault.Code), .v (.int .i64 x.Fault.At)]
def Tplexusref16UP.rows (l : List Tplexusref16UP) : List (List AV) := l.map Tplexusref16UP.cs
theorem Tplexusref16UP.rows_map (l : List Tplexusref16UP) : Tplexusref16UP.rows l = l.map Tplexusref16UP.cs := rfl
theorem Tplexusref16UP.rows_len (l : List Tplexusref16UP) : (Tplexusref16UP.rows l).length = l.length := by rw [Tplexusref16UP.rows_map, List.length_map]
theorem Tplexusref16UP.rows_get {l : List Tplexusref16UP} {i : Nat} {x : Tplexusref16UP} (h : l[i]? = some x) : (Tplexusref16UP.rows l)[i]? = some (Tplexusref16UP.cs x) := by rw [Tplexusref16UP.rows_map]; exact get_map h
theorem Tplexusref16UP.rows_app (a b : List Tplexusref16UP) : Tplexusref16UP.rows (a ++ b) = Tplexusref16UP.rows a ++ Tplexusref16UP.rows b := by simp only [Tplexusref16UP.rows_map, List.map_append]
theorem Tplexusref16UP.rows_drop (n : Nat) (l : List Tplexusref16UP) : Tplexusref16UP.rows (l.drop n) = (Tplexusref16UP.rows l).drop n := by simp only [Tplexusref16UP.rows_map, List.map_drop]
theorem Tplexusref16UP.rows_take (n : Nat) (l : List Tplexusref16UP) : Tplexusref16UP.rows (l.take n) = (Tplexusref16UP.rows l).take n := by simp only [Tplexusref16UP.rows_map, List.map_take]
theorem Tplexusref16UP.rows_cons (x : Tplexusref16UP) (r : List Tplexusref16UP) : Tplexusref16UP.rows (x :: r) = Tplexusref16UP.cs x :: Tplexusref16UP.rows r := by simp only [Tplexusref16UP.rows_map, List.map_cons]
theorem Tplexusref16UP.rows_nil : Tplexusref16UP.rows [] = [] := by rw [Tplexusref16UP.rows_map]; rfl
theorem Tplexusref16UP.rows_set (l : List Tplexusref16UP) (i : Nat) (x : Tplexusref16UP) : Tplexusref16UP.rows (l.set i x) = (Tplexusref16UP.rows l).set i (Tplexusref16UP.cs x) := by simp only [Tplexusref16UP.rows_map, List.map_set]
theorem Tplexusref16UP.rows_ones (l : List Tplexusref16UP) : rowsOnes (Tplexusref16UP.rows l) = true := by rw [Tplexusref16UP.rows_map]; exact rowsOnes_of (fun _ => rfl) l
structure TlatticeUchecker where
  nodes : Int
def TlatticeUchecker.cs (x : TlatticeUchecker) : List AV := [.v (.int .i64 x.nodes)]
def TlatticeUchecker.rows (l : List TlatticeUchecker) : List (List AV) := l.map TlatticeUchecker.cs
theorem TlatticeUchecker.rows_map (l : List TlatticeUchecker) : TlatticeUchecker.rows l = l.map TlatticeUchecker.cs := rfl
theorem TlatticeUchecker.rows_len (l : List TlatticeUchecker) : (TlatticeUchecker.rows l).length = l.length := by rw [TlatticeUchecker.rows_map, List.length_map]
theorem TlatticeUchecker.rows_get {l : List TlatticeUchecker} {i : Nat} {x : TlatticeUchecker} (h : l[i]? = some x) : (TlatticeUchecker.rows l)[i]? = some (TlatticeUchecker.cs x) := by rw [TlatticeUchecker.rows_map]; exact get_map h
theorem TlatticeUchecker.rows_app (a b : List TlatticeUchecker) : TlatticeUchecker.rows (a ++ b) = TlatticeUchecker.rows a ++ TlatticeUchecker.rows b := by simp only [TlatticeUchecker.rows_map, List.map_append]
theorem TlatticeUchecker.rows_drop (n : Nat) (l : List TlatticeUchecker) : TlatticeUchecker.rows (l.drop n) = (TlatticeUchecker.rows l).drop n := by simp only [TlatticeUchecker.rows_map, List.map_drop]
theorem TlatticeUchecker.rows_take (n : Nat) (l : List TlatticeUchecker) : TlatticeUchecker.rows (l.take n) = (TlatticeUchecker.rows l).take n := by simp only [TlatticeUchecker.rows_map, List.map_take]
theorem TlatticeUchecker.rows_cons (x : TlatticeUchecker) (r : List TlatticeUchecker) : TlatticeUchecker.rows (x :: r) = TlatticeUchecker.cs x :: TlatticeUchecker.rows r := by simp only [TlatticeUchecker.rows_map, List.map_cons]
theorem TlatticeUchecker.rows_nil : TlatticeUchecker.rows [] = [] := by rw [TlatticeUchecker.rows_map]; rfl
theorem TlatticeUchecker.rows_set (l : List TlatticeUchecker) (i : Nat) (x : TlatticeUchecker) : TlatticeUchecker.rows (l.set i x) = (TlatticeUchecker.rows l).set i (TlatticeUchecker.cs x) := by simp only [TlatticeUchecker.rows_map, List.map_set]
theorem TlatticeUchecker.rows_ones (l : List TlatticeUchecker) : rowsOnes (TlatticeUchecker.rows l) = true := by rw [TlatticeUchecker.rows_map]; exact rowsOnes_of (fun _ => rfl) l
theorem gcs : (∀ x : TNode, TNode.cs x = [.v (.int .i64 x.Kind), .v (.string ⟨⟨x.Text⟩⟩), .v (.int .i64 x.N), .v (.int .i64 x.At), .sl 5 (TNode.rows x.Kids)]) ∧ (∀ x : TFault, TFault.cs x = [.v (.int .i64 x.Code), .v (.int .i64 x.At)]) ∧ (∀ x : TRule, TRule.cs x = [.sl 1 (rowsS x.If), .v (.string ⟨⟨x.Then⟩⟩)]) ∧ (∀ x : TLattice, TLattice.cs x = [.v (.int .i64 x.Kind), .v (.int .i64 x.Lo), .v (.int .i64 x.Hi), .sl 1 (rowsS x.Names), .sl 6 (TLattice.rows x.Parts), .sl 2 (TRule.rows x.Rules)]) ∧ (∀ x : TObject, TObject.cs x = [.v (.string ⟨⟨x.Name⟩⟩), .v (.int .i64 x.Lattice.Kind), .v (.int .i64 x.Lattice.Lo), .v (.int .i64 x.Lattice.Hi), .sl 1 (rowsS x.Lattice.Names), .sl 6 (TLattice.rows x.Lattice.Parts), .sl 2 (TRule.rows x.Lattice.Rules)]) ∧ (∀ x : TParam, TParam.cs x = [.v (.string ⟨⟨x.Name⟩⟩), .v (.int .i64 x.Sort_)]) ∧ (∀ x : TType, TType.cs x = [.v (.int .i64 x.Sort_), .v (.int .i64 x.Lattice.Kind), .v (.int .i64 x.Lattice.Lo), .v (.int .i64 x.Lattice.Hi), .sl 1 (rowsS x.Lattice.Names), .sl 6 (TLattice.rows x.Lattice.Parts), .sl 2 (TRule.rows x.Lattice.Rules)]) ∧ (∀ x : TExpr, TExpr.cs x = [.v (.int .i64 x.Op), .v (.int .i64 x.Type_.Sort_), .v (.int .i64 x.Type_.Lattice.Kind), .v (.int .i64 x.Type_.Lattice.Lo), .v (.int .i64 x.Type_.Lattice.Hi), .sl 1 (rowsS x.Type_.Lattice.Names), .sl 6 (TLattice.rows x.Type_.Lattice.Parts), .sl 2 (TRule.rows x.Type_.Lattice.Rules), .v (.int .i64 x.N), .v (.string ⟨⟨x.Text⟩⟩), .v (.int .i64 x.At), .sl 12 (TExpr.rows x.Kids)]) ∧ (∀ x : TFunction, TFunction.cs x = [.v (.string ⟨⟨x.Name⟩⟩), .v (.string ⟨⟨x.On⟩⟩), .sl 2 (TParam.rows x.Params), .v (.int .i64 x.Result), .v (.int .i64 x.Body.Op), .v (.int .i64 x.Body.Type_.Sort_), .v (.int .i64 x.Body.Type_.Lattice.Kind), .v (.int .i64 x.Body.Type_.Lattice.Lo), .v (.int .i64 x.Body.Type_.Lattice.Hi), .sl 1 (rowsS x.Body.Type_.Lattice.Names), .sl 6 (TLattice.rows x.Body.Type_.Lattice.Parts), .sl 2 (TRule.rows x.Body.Type_.Lattice.Rules), .v (.int .i64 x.Body.N), .v (.string ⟨⟨x.Body.Text⟩⟩), .v (.int .i64 x.Body.At), .sl 12 (TExpr.rows x.Body.Kids)]) ∧ (∀ x : TProgram, TProgram.cs x = [.sl 7 (TObject.rows x.Objects), .sl 16 (TFunction.rows x.Updates), .sl 16 (TFunction.rows x.Queries)]) ∧ (∀ x : TtypesUchecker, TtypesUchecker.cs x = [.v (.int .i64 x.count), .sl 1 (rowsS x.used), .sl 7 (TObject.rows x.lattices), .sl 7 (TObject.rows x.out.Objects), .sl 16 (TFunction.rows x.out.Updates), .sl 16 (TFunction.rows x.out.Queries)]) ∧ (∀ x : TtypesUelaborator, TtypesUelaborator.cs x = [.v (.int .i64 x.l.Kind), .v (.int .i64 x.l.Lo), .v (.int .i64 x.l.Hi), .sl 1 (rowsS x.l.Names), .sl 6 (TLattice.rows x.l.Parts), .sl 2 (TRule.rows x.l.Rules), .sl 2 (TParam.rows x.params)]) ∧ (∀ x : Tplexusref18UScope, Tplexusref18UScope.cs x = [.v (.int .i64 x.L.Kind), .v (.int .i64 x.L.Lo), .v (.int .i64 x.L.Hi), .sl 1 (rowsS x.L.Names), .sl 6 (TLattice.rows x.L.Parts), .sl 2 (TRule.rows x.L.Rules), .sl 2 (TParam.rows x.Params)]) ∧ (∀ x : TtypesUdescriber, TtypesUdescriber.cs x = [.sl 7 (TObject.rows x.known)]) ∧ (∀ x : TToken, TToken.cs x = [.v (.int .i64 x.Kind), .v (.string ⟨⟨x.Text⟩⟩), .v (.int .i64 x.N), .v (.int .i64 x.At)]) ∧ (∀ x : Tplexusref16UP, Tplexusref16UP.cs x = [.sl 4 (TToken.rows x.T), .v (.int .i64 x.I), .v (.int .i64 x.Open), .v (.bool x.Bad), .v (.int .i64 x.Fault.Code), .v (.int .i64 x.Fault.At)]) ∧ (∀ x : TlatticeUchecker, TlatticeUchecker.cs x = [.v (.int .i64 x.nodes)]) := ⟨fun _ => rfl, fun _ => rfl, fun _ => rfl, fun _ => rfl, fun _ => rfl, fun _ => rfl, fun _ => rfl, fun _ => rfl, fun _ => rfl, fun _ => rfl, fun _ => rfl, fun _ => rfl, fun _ => rfl, fun _ => rfl, fun _ => rfl, fun _ => rfl, fun _ => rfl⟩
theorem gsimp : (∀ a b, TNode.rows (a ++ b) = TNode.rows a ++ TNode.rows b) ∧ (∀ x r, TNode.rows (x :: r) = TNode.cs x :: TNode.rows r) ∧ (TNode.rows [] = []) ∧ (∀ k l, TNode.rows (l.drop k) = (TNode.rows l).drop k) ∧ (∀ k l, TNode.rows (l.take k) = (TNode.rows l).take k) ∧ (∀ l i x, TNode.rows (l.set i x) = (TNode.rows l).set i (TNode.cs x)) ∧ (∀ a b, TFault.rows (a ++ b) = TFault.rows a ++ TFault.rows b) ∧ (∀ x r, TFault.rows (x :: r) = TFault.cs x :: TFault.rows r) ∧ (TFault.rows [] = []) ∧ (∀ k l, TFault.rows (l.drop k) = (TFault.rows l).drop k) ∧ (∀ k l, TFault.rows (l.take k) = (TFault.rows l).take k) ∧ (∀ l i x, TFault.rows (l.set i x) = (TFault.rows l).set i (TFault.cs x)) ∧ (∀ a b, TRule.rows (a ++ b) = TRule.rows a ++ TRule.rows b) ∧ (∀ x r, TRule.rows (x :: r) = TRule.cs x :: TRule.rows r) ∧ (TRule.rows [] = []) ∧ (∀ k l, TRule.rows (l.drop k) = (TRule.rows l).drop k) ∧ (∀ k l, TRule.rows (l.take k) = (TRule.rows l).take k) ∧ (∀ l i x, TRule.rows (l.set i x) = (TRule.rows l).set i (TRule.cs x)) ∧ (∀ a b, TLattice.rows (a ++ b) = TLattice.rows a ++ TLattice.rows b) ∧ (∀ x r, TLattice.rows (x :: r) = TLattice.cs x :: TLattice.rows r) ∧ (TLattice.rows [] = []) ∧ (∀ k l, TLattice.rows (l.drop k) = (TLattice.rows l).drop k) ∧ (∀ k l, TLattice.rows (l.take k) = (TLattice.rows l).take k) ∧ (∀ l i x, TLattice.rows (l.set i x) = (TLattice.rows l).set i (TLattice.cs x)) ∧ (∀ a b, TObject.rows (a ++ b) = TObject.rows a ++ TObject.rows b) ∧ (∀ x r, TObject.rows (x :: r) = TObject.cs x :: TObject.rows r) ∧ (TObject.rows [] = []) ∧ (∀ k l, TObject.rows (l.drop k) = (TObject.rows l).drop k) ∧ (∀ k l, TObject.rows (l.take k) = (TObject.rows l).take k) ∧ (∀ l i x, TObject.rows (l.set i x) = (TObject.rows l).set i (TObject.cs x)) ∧ (∀ a b, TParam.rows (a ++ b) = TParam.rows a ++ TParam.rows b) ∧ (∀ x r, TParam.rows (x :: r) = TParam.cs x :: TParam.rows r) ∧ (TParam.rows [] = []) ∧ (∀ k l, TParam.rows (l.drop k) = (TParam.rows l).drop k) ∧ (∀ k l, TParam.rows (l.take k) = (TParam.rows l).take k) ∧ (∀ l i x, TParam.rows (l.set i x) = (TParam.rows l).set i (TParam.cs x)) ∧ (∀ a b, TType.rows (a ++ b) = TType.rows a ++ TType.rows b) ∧ (∀ x r, TType.rows (x :: r) = TType.cs x :: TType.rows r) ∧ (TType.rows [] = []) ∧ (∀ k l, TType.rows (l.drop k) = (TType.rows l).drop k) ∧ (∀ k l, TType.rows (l.take k) = (TType.rows l).take k) ∧ (∀ l i x, TType.rows (l.set i x) = (TType.rows l).set i (TType.cs x)) ∧ (∀ a b, TExpr.rows (a ++ b) = TExpr.rows a ++ TExpr.rows b) ∧ (∀ x r, TExpr.rows (x :: r) = TExpr.cs x :: TExpr.rows r) ∧ (TExpr.rows [] = []) ∧ (∀ k l, TExpr.rows (l.drop k) = (TExpr.rows l).drop k) ∧ (∀ k l, TExpr.rows (l.take k) = (TExpr.rows l).take k) ∧ (∀ l i x, TExpr.rows (l.set i x) = (TExpr.rows l).set i (TExpr.cs x)) ∧ (∀ a b, TFunction.rows (a ++ b) = TFunction.rows a ++ TFunction.rows b) ∧ (∀ x r, TFunction.rows (x :: r) = TFunction.cs x :: TFunction.rows r) ∧ (TFunction.rows [] = []) ∧ (∀ k l, TFunction.rows (l.drop k) = (TFunction.rows l).drop k) ∧ (∀ k l, TFunction.rows (l.take k) = (TFunction.rows l).take k) ∧ (∀ l i x, TFunction.rows (l.set i x) = (TFunction.rows l).set i (TFunction.cs x)) ∧ (∀ a b, TProgram.rows (a ++ b) = TProgram.rows a ++ TProgram.rows b) ∧ (∀ x r, TProgram.rows (x :: r) = TProgram.cs x :: TProgram.rows r) ∧ (TProgram.rows [] = []) ∧ (∀ k l, TProgram.rows (l.drop k) = (TProgram.rows l).drop k) ∧ (∀ k l, TProgram.rows (l.take k) = (TProgram.rows l).take k) ∧ (∀ l i x, TProgram.rows (l.set i x) = (TProgram.rows l).set i (TProgram.cs x)) ∧ (∀ a b, TtypesUchecker.rows (a ++ b) = TtypesUchecker.rows a ++ TtypesUchecker.rows b) ∧ (∀ x r, TtypesUchecker.rows (x :: r) = TtypesUchecker.cs x :: TtypesUchecker.rows r) ∧ (TtypesUchecker.rows [] = []) ∧ (∀ k l, TtypesUchecker.rows (l.drop k) = (TtypesUchecker.rows l).drop k) ∧ (∀ k l, TtypesUchecker.rows (l.take k) = (TtypesUchecker.rows l).take k) ∧ (∀ l i x, TtypesUchecker.rows (l.set i x) = (TtypesUchecker.rows l).set i (TtypesUchecker.cs x)) ∧ (∀ a b, TtypesUelaborator.rows (a ++ b) = TtypesUelaborator.rows a ++ TtypesUelaborator.rows b) ∧ (∀ x r, TtypesUelaborator.rows (x :: r) = TtypesUelaborator.cs x :: TtypesUelaborator.rows r) ∧ (TtypesUelaborator.rows [] = []) ∧ (∀ k l, TtypesUelaborator.rows (l.drop k) = (TtypesUelaborator.rows l).drop k) ∧ (∀ k l, TtypesUelaborator.rows (l.take k) = (TtypesUelaborator.rows l).take k) ∧ (∀ l i x, TtypesUelaborator.rows (l.set i x) = (TtypesUelaborator.rows l).set i (TtypesUelaborator.cs x)) ∧ (∀ a b, Tplexusref18UScope.rows (a ++ b) = Tplexusref18UScope.rows a ++ Tplexusref18UScope.rows b) ∧ (∀ x r, Tplexusref18UScope.rows (x :: r) = Tplexusref18UScope.cs x :: Tplexusref18UScope.rows r) ∧ (Tplexusref18UScope.rows [] = []) ∧ (∀ k l, Tplexusref18UScope.rows (l.drop k) = (Tplexusref18UScope.rows l).drop k) ∧ (∀ k l, Tplexusref18UScope.rows (l.take k) = (Tplexusref18UScope.rows l).take k) ∧ (∀ l i x, Tplexusref18UScope.rows (l.set i x) = (Tplexusref18UScope.rows l).set i (Tplexusref18UScope.cs x)) ∧ (∀ a b, TtypesUdescriber.rows (a ++ b) = TtypesUdescriber.rows a ++ TtypesUdescriber.rows b) ∧ (∀ x r, TtypesUdescriber.rows (x :: r) = TtypesUdescriber.cs x :: TtypesUdescriber.rows r) ∧ (TtypesUdescriber.rows [] = []) ∧ (∀ k l, TtypesUdescriber.rows (l.drop k) = (TtypesUdescriber.rows l).drop k) ∧ (∀ k l, TtypesUdescriber.rows (l.take k) = (TtypesUdescriber.rows l).take k) ∧ (∀ l i x, TtypesUdescriber.rows (l.set i x) = (TtypesUdescriber.rows l).set i (TtypesUdescriber.cs x)) ∧ (∀ a b, TToken.rows (a ++ b) = TToken.rows a ++ TToken.rows b) ∧ (∀ x r, TToken.rows (x :: r) = TToken.cs x :: TToken.rows r) ∧ (TToken.rows [] = []) ∧ (∀ k l, TToken.rows (l.drop k) = (TToken.rows l).drop k) ∧ (∀ k l, TToken.rows (l.take k) = (TToken.rows l).take k) ∧ (∀ l i x, TToken.rows (l.set i x) = (TToken.rows l).set i (TToken.cs x)) ∧ (∀ a b, Tplexusref16UP.rows (a ++ b) = Tplexusref16UP.rows a ++ Tplexusref16UP.rows b) ∧ (∀ x r, Tplexusref16UP.rows (x :: r) = Tplexusref16UP.cs x :: Tplexusref16UP.rows r) ∧ (Tplexusref16UP.rows [] = []) ∧ (∀ k l, Tplexusref16UP.rows (l.drop k) = (Tplexusref16UP.rows l).drop k) ∧ (∀ k l, Tplexusref16UP.rows (l.take k) = (Tplexusref16UP.rows l).take k) ∧ (∀ l i x, Tplexusref16UP.rows (l.set i x) = (Tplexusref16UP.rows l).set i (Tplexusref16UP.cs x)) ∧ (∀ a b, TlatticeUchecker.rows (a ++ b) = TlatticeUchecker.rows a ++ TlatticeUchecker.rows b) ∧ (∀ x r, TlatticeUchecker.rows (x :: r) = TlatticeUchecker.cs x :: TlatticeUchecker.rows r) ∧ (TlatticeUchecker.rows [] = []) ∧ (∀ k l, TlatticeUchecker.rows (l.drop k) = (TlatticeUchecker.rows l).drop k) ∧ (∀ k l, TlatticeUchecker.rows (l.take k) = (TlatticeUchecker.rows l).take k) ∧ (∀ l i x, TlatticeUchecker.rows (l.set i x) = (TlatticeUchecker.rows l).set i (TlatticeUchecker.cs x)) ∧ (∀ a b, rowsS (a ++ b) = rowsS a ++ rowsS b) ∧ (∀ x r, rowsS (x :: r) = [.v (.string ⟨⟨x⟩⟩)] :: rowsS r) ∧ (∀ k x r, rowsI k (x :: r) = [.v (.int k x)] :: rowsI k r) ∧ (rowsS [] = []) ∧ (∀ k, rowsI k [] = []) ∧ (∀ (k : Nat) l, rowsS (l.drop k) = (rowsS l).drop k) ∧ (∀ (k : Nat) l, rowsS (l.take k) = (rowsS l).take k) ∧ (∀ k a b, rowsI k (a ++ b) = rowsI k a ++ rowsI k b) ∧ (∀ a b, rowsB (a ++ b) = rowsB a ++ rowsB b) ∧ (∀ l (i : Nat) x, rowsS (l.set i x) = (rowsS l).set i [.v (.string ⟨⟨x⟩⟩)]) ∧ (∀ k l (i : Nat) x, rowsI k (l.set i x) = (rowsI k l).set i [.v (.int k x)]) ∧ (∀ l (i : Nat) x, rowsB (l.set i x) = (rowsB l).set i [.v (.bool x)]) := ⟨TNode.rows_app, TNode.rows_cons, TNode.rows_nil, TNode.rows_drop, TNode.rows_take, TNode.rows_set, TFault.rows_app, TFault.rows_cons, TFault.rows_nil, TFault.rows_drop, TFault.rows_take, TFault.rows_set, TRule.rows_app, TRule.rows_cons, TRule.rows_nil, TRule.rows_drop, TRule.rows_take, TRule.rows_set, TLattice.rows_app, TLattice.rows_cons, TLattice.rows_nil, TLattice.rows_drop, TLattice.rows_take, TLattice.rows_set, TObject.rows_app, TObject.rows_cons, TObject.rows_nil, TObject.rows_drop, TObject.rows_take, TObject.rows_set, TParam.rows_app, TParam.rows_cons, TParam.rows_nil, TParam.rows_drop, TParam.rows_take, TParam.rows_set, TType.rows_app, TType.rows_cons, TType.rows_nil, TType.rows_drop, TType.rows_take, TType.rows_set, TExpr.rows_app, TExpr.rows_cons, TExpr.rows_nil, TExpr.rows_drop, TExpr.rows_take, TExpr.rows_set, TFunction.rows_app, TFunction.rows_cons, TFunction.rows_nil, TFunction.rows_drop, TFunction.rows_take, TFunction.rows_set, TProgram.rows_app, TProgram.rows_cons, TProgram.rows_nil, TProgram.rows_drop, TProgram.rows_take, TProgram.rows_set, TtypesUchecker.rows_app, TtypesUchecker.rows_cons, TtypesUchecker.rows_nil, TtypesUchecker.rows_drop, TtypesUchecker.rows_take, TtypesUchecker.rows_set, TtypesUelaborator.rows_app, TtypesUelaborator.rows_cons, TtypesUelaborator.rows_nil, TtypesUelaborator.rows_drop, TtypesUelaborator.rows_take, TtypesUelaborator.rows_set, Tplexusref18UScope.rows_app, Tplexusref18UScope.rows_cons, Tplexusref18UScope.rows_nil, Tplexusref18UScope.rows_drop, Tplexusref18UScope.rows_take, Tplexusref18UScope.rows_set, TtypesUdescriber.rows_app, TtypesUdescriber.rows_cons, TtypesUdescriber.rows_nil, TtypesUdescriber.rows_drop, TtypesUdescriber.rows_take, TtypesUdescriber.rows_set, TToken.rows_app, TToken.rows_cons, TToken.rows_nil, TToken.rows_drop, TToken.rows_take, TToken.rows_set, Tplexusref16UP.rows_app, Tplexusref16UP.rows_cons, Tplexusref16UP.rows_nil, Tplexusref16UP.rows_drop, Tplexusref16UP.rows_take, Tplexusref16UP.rows_set, TlatticeUchecker.rows_app, TlatticeUchecker.rows_cons, TlatticeUchecker.rows_nil, TlatticeUchecker.rows_drop, TlatticeUchecker.rows_take, TlatticeUchecker.rows_set, (fun _ _ => rowsS_app), (fun _ _ => rfl), (fun _ _ _ => rfl), rfl, (fun _ => rfl), (fun _ _ => rowsS_drop), (fun _ _ => rowsS_take), (fun _ _ _ => rowsI_app), (fun _ _ => rowsB_app), (fun _ _ _ => List.map_set), (fun _ _ _ _ => List.map_set), (fun _ _ _ => List.map_set)⟩
theorem glen : (∀ l, (TNode.rows l).length = l.length) ∧ (∀ l, (TFault.rows l).length = l.length) ∧ (∀ l, (TRule.rows l).length = l.length) ∧ (∀ l, (TLattice.rows l).length = l.length) ∧ (∀ l, (TObject.rows l).length = l.length) ∧ (∀ l, (TParam.rows l).length = l.length) ∧ (∀ l, (TType.rows l).length = l.length) ∧ (∀ l, (TExpr.rows l).length = l.length) ∧ (∀ l, (TFunction.rows l).length = l.length) ∧ (∀ l, (TProgram.rows l).length = l.length) ∧ (∀ l, (TtypesUchecker.rows l).length = l.length) ∧ (∀ l, (TtypesUelaborator.rows l).length = l.length) ∧ (∀ l, (Tplexusref18UScope.rows l).length = l.length) ∧ (∀ l, (TtypesUdescriber.rows l).length = l.length) ∧ (∀ l, (TToken.rows l).length = l.length) ∧ (∀ l, (Tplexusref16UP.rows l).length = l.length) ∧ (∀ l, (TlatticeUchecker.rows l).length = l.length) ∧ (∀ l, (rowsS l).length = l.length) ∧ (∀ k l, (rowsI k l).length = l.length) ∧ (∀ l, (rowsB l).length = l.length) := ⟨TNode.rows_len, TFault.rows_len, TRule.rows_len, TLattice.rows_len, TObject.rows_len, TParam.rows_len, TType.rows_len, TExpr.rows_len, TFunction.rows_len, TProgram.rows_len, TtypesUchecker.rows_len, TtypesUelaborator.rows_len, Tplexusref18UScope.rows_len, TtypesUdescriber.rows_len, TToken.rows_len, Tplexusref16UP.rows_len, TlatticeUchecker.rows_len, (fun _ => rowsS_len), (fun _ _ => rowsI_len), (fun _ => rowsB_len)⟩
end Go.Proofs.YtdmkbllocddkaaaGreat
