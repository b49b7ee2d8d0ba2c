/- CO: the program's types (written by a program of ours). -/
import Derived.Test.YtcjflbmpfmibbaaCoBase
namespace Go.Co
open Go.Am
set_option linter.unusedVariables false
structure Tri (α β γ : Type) where
  a : α
  b : β
  c : γ
instance triArg {α β γ : Type} [Arg α] [Arg β] [Arg γ] : Arg (Tri α β γ) where
  enc p := .tup [Arg.enc p.a, Arg.enc p.b, Arg.enc p.c]
  dec x := match x with
    | .tup [x, y, z] => (Arg.dec x).bind fun a => (Arg.dec y).bind fun b => (Arg.dec z).map fun c => ⟨a, b, c⟩
    | _ => none
  dec_enc p := by simp [Arg.dec_enc]
  enc_dec x p h := by
    split at h
    · rename_i x y z
      rw [Option.bind_eq_some_iff] at h
      obtain ⟨a, ha, h⟩ := h
      rw [Option.bind_eq_some_iff] at h
      obtain ⟨b, hb, h⟩ := h
      rw [Option.map_eq_some_iff] at h
      obtain ⟨c, hc, rfl⟩ := h
      rw [Arg.enc_dec _ _ ha, Arg.enc_dec _ _ hb, Arg.enc_dec _ _ hc]
    · cases h
structure Span where
  lo : Int
  hi : Int
  deriving DecidableEq, Inhabited
instance : Row Span where
  sz := 2
  enc x := [.int .i64 x.lo, .int .i64 x.hi]
  dec xs := match xs with
    | [.int .i64 v0, .int .i64 v1] => some ⟨v0, v1⟩
    | _ => none
  pos := by decide
  len _ := rfl
  dec_enc _ := rfl
  enc_dec xs a h := by
    split at h
    · cases h; rfl
    · cases h
instance : Arg Span := aggArg Span
@[simp] theorem dec_Span (v0 : Int) (v1 : Int) : (Arg.dec (.agg [.int .i64 v0, .int .i64 v1]) : Option Span) = some ⟨v0, v1⟩ := rfl
@[simp] theorem enc_Span (x : Span) : Arg.enc x = .agg [.int .i64 x.lo, .int .i64 x.hi] := rfl
@[simp] theorem row_Span (x : Span) : Row.enc x = [.int .i64 x.lo, .int .i64 x.hi] := rfl
@[simp] theorem sz_Span : Row.sz Span = 2 := rfl
structure Box where
  s0 : Span
  s1 : Span
  s2 : Span
  s3 : Span
  s4 : Span
  deriving DecidableEq, Inhabited
instance : Row Box where
  sz := 10
  enc x := [.int .i64 x.s0.lo, .int .i64 x.s0.hi, .int .i64 x.s1.lo, .int .i64 x.s1.hi, .int .i64 x.s2.lo, .int .i64 x.s2.hi, .int .i64 x.s3.lo, .int .i64 x.s3.hi, .int .i64 x.s4.lo, .int .i64 x.s4.hi]
  dec xs := match xs with
    | [.int .i64 v0, .int .i64 v1, .int .i64 v2, .int .i64 v3, .int .i64 v4, .int .i64 v5, .int .i64 v6, .int .i64 v7, .int .i64 v8, .int .i64 v9] => some ⟨⟨v0, v1⟩, ⟨v2, v3⟩, ⟨v4, v5⟩, ⟨v6, v7⟩, ⟨v8, v9⟩⟩
    | _ => none
  pos := by decide
  len _ := rfl
  dec_enc _ := rfl
  enc_dec xs a h := by
    split at h
    · cases h; rfl
    · cases h
instance : Arg Box := aggArg Box
@[simp] theorem dec_Box (v0 : Int) (v1 : Int) (v2 : Int) (v3 : Int) (v4 : Int) (v5 : Int) (v6 : Int) (v7 : Int) (v8 : Int) (v9 : Int) : (Arg.dec (.agg [.int .i64 v0, .int .i64 v1, .int .i64 v2, .int .i64 v3, .int .i64 v4, .int .i64 v5, .int .i64 v6, .int .i64 v7, .int .i64 v8, .int .i64 v9]) : Option Box) = some ⟨⟨v0, v1⟩, ⟨v2, v3⟩, ⟨v4, v5⟩, ⟨v6, v7⟩, ⟨v8, v9⟩⟩ := rfl
@[simp] theorem enc_Box (x : Box) : Arg.enc x = .agg [.int .i64 x.s0.lo, .int .i64 x.s0.hi, .int .i64 x.s1.lo, .int .i64 x.s1.hi, .int .i64 x.s2.lo, .int .i64 x.s2.hi, .int .i64 x.s3.lo, .int .i64 x.s3.hi, .int .i64 x.s4.lo, .int .i64 x.s4.hi] := rfl
@[simp] theorem row_Box (x : Box) : Row.enc x = [.int .i64 x.s0.lo, .int .i64 x.s0.hi, .int .i64 x.s1.lo, .int .i64 x.s1.hi, .int .i64 x.s2.lo, .int .i64 x.s2.hi, .int .i64 x.s3.lo, .int .i64 x.s3.hi, .int .i64 x.s4.lo, .int .i64 x.s4.hi] := rfl
@[simp] theorem sz_Box : Row.sz Box = 10 := rfl
structure Point where
  p0 : Int
  p1 : Int
  p2 : Int
  p3 : Int
  deriving DecidableEq, Inhabited
instance : Row Point where
  sz := 4
  enc x := [.int .i64 x.p0, .int .i64 x.p1, .int .i64 x.p2, .int .i64 x.p3]
  dec xs := match xs with
    | [.int .i64 v0, .int .i64 v1, .int .i64 v2, .int .i64 v3] => some ⟨v0, v1, v2, v3⟩
    | _ => none
  pos := by decide
  len _ := rfl
  dec_enc _ := rfl
  enc_dec xs a h := by
    split at h
    · cases h; rfl
    · cases h
instance : Arg Point := aggArg Point
@[simp] theorem dec_Point (v0 : Int) (v1 : Int) (v2 : Int) (v3 : Int) : (Arg.dec (.agg [.int .i64 v0, .int .i64 v1, .int .i64 v2, .int .i64 v3]) : Option Point) = some ⟨v0, v1, v2, v3⟩ := rfl
@[simp] theorem enc_Point (x : Point) : Arg.enc x = .agg [.int .i64 x.p0, .int .i64 x.p1, .int .i64 x.p2, .int .i64 x.p3] := rfl
@[simp] theorem row_Point (x : Point) : Row.enc x = [.int .i64 x.p0, .int .i64 x.p1, .int .i64 x.p2, .int .i64 x.p3] := rfl
@[simp] theorem sz_Point : Row.sz Point = 4 := rfl
structure Bias where
  b0 : Int
  b1 : Int
  b2 : Int
  deriving DecidableEq, Inhabited
instance : Row Bias where
  sz := 3
  enc x := [.int .i64 x.b0, .int .i64 x.b1, .int .i64 x.b2]
  dec xs := match xs with
    | [.int .i64 v0, .int .i64 v1, .int .i64 v2] => some ⟨v0, v1, v2⟩
    | _ => none
  pos := by decide
  len _ := rfl
  dec_enc _ := rfl
  enc_dec xs a h := by
    split at h
    · cases h; rfl
    · cases h
instance : Arg Bias := aggArg Bias
@[simp] theorem dec_Bias (v0 : Int) (v1 : Int) (v2 : Int) : (Arg.dec (.agg [.int .i64 v0, .int .i64 v1, .int .i64 v2]) : Option Bias) = some ⟨v0, v1, v2⟩ := rfl
@[simp] theorem enc_Bias (x : Bias) : Arg.enc x = .agg [.int .i64 x.b0, .int .i64 x.b1, .int .i64 x.b2] := rfl
@[simp] theorem row_Bias (x : Bias) : Row.enc x = [.int .i64 x.b0, .int .i64 x.b1, .int .i64 x.b2] := rfl
@[simp] theorem sz_Bias : Row.sz Bias = 3 := rfl
structure Node where
  leaf : Bool
  value : Int
  feature : Int
  cut : Int
  left : Int
  right : Int
  deriving DecidableEq, Inhabited
instance : Row Node where
  sz := 6
  enc x := [.bool x.leaf, .int .i64 x.value, .int .i64 x.feature, .int .i64 x.cut, .int .i64 x.left, .int .i64 x.right]
  dec xs := match xs with
    | [.bool v0, .int .i64 v1, .int .i64 v2, .int .i64 v3, .int .i64 v4, .int .i64 v5] => some ⟨v0, v1, v2, v3, v4, v5⟩
    | _ => none
  pos := by decide
  len _ := rfl
  dec_enc _ := rfl
  enc_dec xs a h := by
    split at h
    · cases h; rfl
    · cases h
instance : Arg Node := aggArg Node
@[simp] theorem dec_Node (v0 : Bool) (v1 : Int) (v2 : Int) (v3 : Int) (v4 : Int) (v5 : Int) : (Arg.dec (.agg [.bool v0, .int .i64 v1, .int .i64 v2, .int .i64 v3, .int .i64 v4, .int .i64 v5]) : Option Node) = some ⟨v0, v1, v2, v3, v4, v5⟩ := rfl
@[simp] theorem enc_Node (x : Node) : Arg.enc x = .agg [.bool x.leaf, .int .i64 x.value, .int .i64 x.feature, .int .i64 x.cut, .int .i64 x.left, .int .i64 x.right] := rfl
@[simp] theorem row_Node (x : Node) : Row.enc x = [.bool x.leaf, .int .i64 x.value, .int .i64 x.feature, .int .i64 x.cut, .int .i64 x.left, .int .i64 x.right] := rfl
@[simp] theorem sz_Node : Row.sz Node = 6 := rfl
structure Tree where
  cls : Int
  nodes : List Word
  deriving DecidableEq, Inhabited
instance : Row Tree where
  sz := 2
  enc x := [.int .i64 x.cls, .lst x.nodes.length (encL x.nodes)]
  dec xs := match xs with
    | [.int .i64 v0, .lst n1 w1] => (decL Word n1 w1).bind fun v1 => some ⟨v0, v1⟩
    | _ => none
  pos := by decide
  len _ := rfl
  dec_enc x := by simp only [decL_encL, Option.bind_some]
  enc_dec xs a h := by
    split at h
    · simp only [Option.bind_eq_some_iff] at h
      obtain ⟨v1, h1, h⟩ := h
      cases h
      obtain ⟨rfl, rfl⟩ := decL_some _ _ _ h1
      rfl
    · cases h
instance : Arg Tree := aggArg Tree
@[simp] theorem dec_Tree (v0 : Int) (v1 : List Word) : (Arg.dec (.agg [.int .i64 v0, .lst v1.length (encL v1)]) : Option Tree) = some ⟨v0, v1⟩ := by
  show Row.dec [.int .i64 v0, .lst v1.length (encL v1)] = _
  exact Row.dec_enc (⟨v0, v1⟩ : Tree)
@[simp] theorem enc_Tree (x : Tree) : Arg.enc x = .agg [.int .i64 x.cls, .lst x.nodes.length (encL x.nodes)] := rfl
@[simp] theorem row_Tree (x : Tree) : Row.enc x = [.int .i64 x.cls, .lst x.nodes.length (encL x.nodes)] := rfl
@[simp] theorem sz_Tree : Row.sz Tree = 2 := rfl
structure Model where
  dim : Int
  classes : Int
  bias : Bias
  trees : List Tree
  deriving DecidableEq, Inhabited
instance : Row Model where
  sz := 6
  enc x := [.int .i64 x.dim, .int .i64 x.classes, .int .i64 x.bias.b0, .int .i64 x.bias.b1, .int .i64 x.bias.b2, .lst x.trees.length (encL x.trees)]
  dec xs := match xs with
    | [.int .i64 v0, .int .i64 v1, .int .i64 v2, .int .i64 v3, .int .i64 v4, .lst n5 w5] => (decL Tree n5 w5).bind fun v5 => some ⟨v0, v1, ⟨v2, v3, v4⟩, v5⟩
    | _ => none
  pos := by decide
  len _ := rfl
  dec_enc x := by simp only [decL_encL, Option.bind_some]
  enc_dec xs a h := by
    split at h
    · simp only [Option.bind_eq_some_iff] at h
      obtain ⟨v5, h5, h⟩ := h
      cases h
      obtain ⟨rfl, rfl⟩ := decL_some _ _ _ h5
      rfl
    · cases h
instance : Arg Model := aggArg Model
@[simp] theorem dec_Model (v0 : Int) (v1 : Int) (v2 : Int) (v3 : Int) (v4 : Int) (v5 : List Tree) : (Arg.dec (.agg [.int .i64 v0, .int .i64 v1, .int .i64 v2, .int .i64 v3, .int .i64 v4, .lst v5.length (encL v5)]) : Option Model) = some ⟨v0, v1, ⟨v2, v3, v4⟩, v5⟩ := by
  show Row.dec [.int .i64 v0, .int .i64 v1, .int .i64 v2, .int .i64 v3, .int .i64 v4, .lst v5.length (encL v5)] = _
  exact Row.dec_enc (⟨v0, v1, ⟨v2, v3, v4⟩, v5⟩ : Model)
@[simp] theorem enc_Model (x : Model) : Arg.enc x = .agg [.int .i64 x.dim, .int .i64 x.classes, .int .i64 x.bias.b0, .int .i64 x.bias.b1, .int .i64 x.bias.b2, .lst x.trees.length (encL x.trees)] := rfl
@[simp] theorem row_Model (x : Model) : Row.enc x = [.int .i64 x.dim, .int .i64 x.classes, .int .i64 x.bias.b0, .int .i64 x.bias.b1, .int .i64 x.bias.b2, .lst x.trees.length (encL x.trees)] := rfl
@[simp] theorem sz_Model : Row.sz Model = 6 := rfl
structure Piece where
  box : Box
  value : Int
  deriving DecidableEq, Inhabited
instance : Row Piece where
  sz := 11
  enc x := [.int .i64 x.box.s0.lo, .int .i64 x.box.s0.hi, .int .i64 x.box.s1.lo, .int .i64 x.box.s1.hi, .int .i64 x.box.s2.lo, .int .i64 x.box.s2.hi, .int .i64 x.box.s3.lo, .int .i64 x.box.s3.hi, .int .i64 x.box.s4.lo, .int .i64 x.box.s4.hi, .int .i64 x.value]
  dec xs := match xs with
    | [.int .i64 v0, .int .i64 v1, .int .i64 v2, .int .i64 v3, .int .i64 v4, .int .i64 v5, .int .i64 v6, .int .i64 v7, .int .i64 v8, .int .i64 v9, .int .i64 v10] => some ⟨⟨⟨v0, v1⟩, ⟨v2, v3⟩, ⟨v4, v5⟩, ⟨v6, v7⟩, ⟨v8, v9⟩⟩, v10⟩
    | _ => none
  pos := by decide
  len _ := rfl
  dec_enc _ := rfl
  enc_dec xs a h := by
    split at h
    · cases h; rfl
    · cases h
instance : Arg Piece := aggArg Piece
@[simp] theorem dec_Piece (v0 : Int) (v1 : Int) (v2 : Int) (v3 : Int) (v4 : Int) (v5 : Int) (v6 : Int) (v7 : Int) (v8 : Int) (v9 : Int) (v10 : Int) : (Arg.dec (.agg [.int .i64 v0, .int .i64 v1, .int .i64 v2, .int .i64 v3, .int .i64 v4, .int .i64 v5, .int .i64 v6, .int .i64 v7, .int .i64 v8, .int .i64 v9, .int .i64 v10]) : Option Piece) = some ⟨⟨⟨v0, v1⟩, ⟨v2, v3⟩, ⟨v4, v5⟩, ⟨v6, v7⟩, ⟨v8, v9⟩⟩, v10⟩ := rfl
@[simp] theorem enc_Piece (x : Piece) : Arg.enc x = .agg [.int .i64 x.box.s0.lo, .int .i64 x.box.s0.hi, .int .i64 x.box.s1.lo, .int .i64 x.box.s1.hi, .int .i64 x.box.s2.lo, .int .i64 x.box.s2.hi, .int .i64 x.box.s3.lo, .int .i64 x.box.s3.hi, .int .i64 x.box.s4.lo, .int .i64 x.box.s4.hi, .int .i64 x.value] := rfl
@[simp] theorem row_Piece (x : Piece) : Row.enc x = [.int .i64 x.box.s0.lo, .int .i64 x.box.s0.hi, .int .i64 x.box.s1.lo, .int .i64 x.box.s1.hi, .int .i64 x.box.s2.lo, .int .i64 x.box.s2.hi, .int .i64 x.box.s3.lo, .int .i64 x.box.s3.hi, .int .i64 x.box.s4.lo, .int .i64 x.box.s4.hi, .int .i64 x.value] := rfl
@[simp] theorem sz_Piece : Row.sz Piece = 11 := rfl
structure Step where
  sum : Bool
  place : Int
  cut : Int
  deriving DecidableEq, Inhabited
instance : Row Step where
  sz := 3
  enc x := [.bool x.sum, .int .i64 x.place, .int .i64 x.cut]
  dec xs := match xs with
    | [.bool v0, .int .i64 v1, .int .i64 v2] => some ⟨v0, v1, v2⟩
    | _ => none
  pos := by decide
  len _ := rfl
  dec_enc _ := rfl
  enc_dec xs a h := by
    split at h
    · cases h; rfl
    · cases h
instance : Arg Step := aggArg Step
@[simp] theorem dec_Step (v0 : Bool) (v1 : Int) (v2 : Int) : (Arg.dec (.agg [.bool v0, .int .i64 v1, .int .i64 v2]) : Option Step) = some ⟨v0, v1, v2⟩ := rfl
@[simp] theorem enc_Step (x : Step) : Arg.enc x = .agg [.bool x.sum, .int .i64 x.place, .int .i64 x.cut] := rfl
@[simp] theorem row_Step (x : Step) : Row.enc x = [.bool x.sum, .int .i64 x.place, .int .i64 x.cut] := rfl
@[simp] theorem sz_Step : Row.sz Step = 3 := rfl
structure Query where
  kind : Int
  cls : Int
  region : Box
  lo : Int
  hi : Int
  feature : Int
  falls : Bool
  budget : Int
  deriving DecidableEq, Inhabited
instance : Row Query where
  sz := 17
  enc x := [.int .i64 x.kind, .int .i64 x.cls, .int .i64 x.region.s0.lo, .int .i64 x.region.s0.hi, .int .i64 x.region.s1.lo, .int .i64 x.region.s1.hi, .int .i64 x.region.s2.lo, .int .i64 x.region.s2.hi, .int .i64 x.region.s3.lo, .int .i64 x.region.s3.hi, .int .i64 x.region.s4.lo, .int .i64 x.region.s4.hi, .int .i64 x.lo, .int .i64 x.hi, .int .i64 x.feature, .bool x.falls, .int .i64 x.budget]
  dec xs := match xs with
    | [.int .i64 v0, .int .i64 v1, .int .i64 v2, .int .i64 v3, .int .i64 v4, .int .i64 v5, .int .i64 v6, .int .i64 v7, .int .i64 v8, .int .i64 v9, .int .i64 v10, .int .i64 v11, .int .i64 v12, .int .i64 v13, .int .i64 v14, .bool v15, .int .i64 v16] => some ⟨v0, v1, ⟨⟨v2, v3⟩, ⟨v4, v5⟩, ⟨v6, v7⟩, ⟨v8, v9⟩, ⟨v10, v11⟩⟩, v12, v13, v14, v15, v16⟩
    | _ => none
  pos := by decide
  len _ := rfl
  dec_enc _ := rfl
  enc_dec xs a h := by
    split at h
    · cases h; rfl
    · cases h
instance : Arg Query := aggArg Query
@[simp] theorem dec_Query (v0 : Int) (v1 : Int) (v2 : Int) (v3 : Int) (v4 : Int) (v5 : Int) (v6 : Int) (v7 : Int) (v8 : Int) (v9 : Int) (v10 : Int) (v11 : Int) (v12 : Int) (v13 : Int) (v14 : Int) (v15 : Bool) (v16 : Int) : (Arg.dec (.agg [.int .i64 v0, .int .i64 v1, .int .i64 v2, .int .i64 v3, .int .i64 v4, .int .i64 v5, .int .i64 v6, .int .i64 v7, .int .i64 v8, .int .i64 v9, .int .i64 v10, .int .i64 v11, .int .i64 v12, .int .i64 v13, .int .i64 v14, .bool v15, .int .i64 v16]) : Option Query) = some ⟨v0, v1, ⟨⟨v2, v3⟩, ⟨v4, v5⟩, ⟨v6, v7⟩, ⟨v8, v9⟩, ⟨v10, v11⟩⟩, v12, v13, v14, v15, v16⟩ := rfl
@[simp] theorem enc_Query (x : Query) : Arg.enc x = .agg [.int .i64 x.kind, .int .i64 x.cls, .int .i64 x.region.s0.lo, .int .i64 x.region.s0.hi, .int .i64 x.region.s1.lo, .int .i64 x.region.s1.hi, .int .i64 x.region.s2.lo, .int .i64 x.region.s2.hi, .int .i64 x.region.s3.lo, .int .i64 x.region.s3.hi, .int .i64 x.region.s4.lo, .int .i64 x.region.s4.hi, .int .i64 x.lo, .int .i64 x.hi, .int .i64 x.feature, .bool x.falls, .int .i64 x.budget] := rfl
@[simp] theorem row_Query (x : Query) : Row.enc x = [.int .i64 x.kind, .int .i64 x.cls, .int .i64 x.region.s0.lo, .int .i64 x.region.s0.hi, .int .i64 x.region.s1.lo, .int .i64 x.region.s1.hi, .int .i64 x.region.s2.lo, .int .i64 x.region.s2.hi, .int .i64 x.region.s3.lo, .int .i64 x.region.s3.hi, .int .i64 x.region.s4.lo, .int .i64 x.region.s4.hi, .int .i64 x.lo, .int .i64 x.hi, .int .i64 x.feature, .bool x.falls, .int .i64 x.budget] := rfl
@[simp] theorem sz_Query : Row.sz Query = 17 := rfl
structure Verdict where
  kind : Int
  proof : List Step
  witness : Point
  twin : Int
  spent : Int
  deriving DecidableEq, Inhabited
instance : Row Verdict where
  sz := 8
  enc x := [.int .i64 x.kind, .lst x.proof.length (encL x.proof), .int .i64 x.witness.p0, .int .i64 x.witness.p1, .int .i64 x.witness.p2, .int .i64 x.witness.p3, .int .i64 x.twin, .int .i64 x.spent]
  dec xs := match xs with
    | [.int .i64 v0, .lst n1 w1, .int .i64 v2, .int .i64 v3, .int .i64 v4, .int .i64 v5, .int .i64 v6, .int .i64 v7] => (decL Step n1 w1).bind fun v1 => some ⟨v0, v1, ⟨v2, v3, v4, v5⟩, v6, v7⟩
    | _ => none
  pos := by decide
  len _ := rfl
  dec_enc x := by simp only [decL_encL, Option.bind_some]
  enc_dec xs a h := by
    split at h
    · simp only [Option.bind_eq_some_iff] at h
      obtain ⟨v1, h1, h⟩ := h
      cases h
      obtain ⟨rfl, rfl⟩ := decL_some _ _ _ h1
      rfl
    · cases h
instance : Arg Verdict := aggArg Verdict
@[simp] theorem dec_Verdict (v0 : Int) (v1 : List Step) (v2 : Int) (v3 : Int) (v4 : Int) (v5 : Int) (v6 : Int) (v7 : Int) : (Arg.dec (.agg [.int .i64 v0, .lst v1.length (encL v1), .int .i64 v2, .int .i64 v3, .int .i64 v4, .int .i64 v5, .int .i64 v6, .int .i64 v7]) : Option Verdict) = some ⟨v0, v1, ⟨v2, v3, v4, v5⟩, v6, v7⟩ := by
  show Row.dec [.int .i64 v0, .lst v1.length (encL v1), .int .i64 v2, .int .i64 v3, .int .i64 v4, .int .i64 v5, .int .i64 v6, .int .i64 v7] = _
  exact Row.dec_enc (⟨v0, v1, ⟨v2, v3, v4, v5⟩, v6, v7⟩ : Verdict)
@[simp] theorem enc_Verdict (x : Verdict) : Arg.enc x = .agg [.int .i64 x.kind, .lst x.proof.length (encL x.proof), .int .i64 x.witness.p0, .int .i64 x.witness.p1, .int .i64 x.witness.p2, .int .i64 x.witness.p3, .int .i64 x.twin, .int .i64 x.spent] := rfl
@[simp] theorem row_Verdict (x : Verdict) : Row.enc x = [.int .i64 x.kind, .lst x.proof.length (encL x.proof), .int .i64 x.witness.p0, .int .i64 x.witness.p1, .int .i64 x.witness.p2, .int .i64 x.witness.p3, .int .i64 x.twin, .int .i64 x.spent] := rfl
@[simp] theorem sz_Verdict : Row.sz Verdict = 8 := rfl
structure KTree where
  cls : Int
  part : List Int
  dir : List Int
  cut : List Int
  val : List Int
  deriving DecidableEq, Inhabited
instance : Row KTree where
  sz := 5
  enc x := [.int .i64 x.cls, .lst x.part.length (encL x.part), .lst x.dir.length (encL x.dir), .lst x.cut.length (encL x.cut), .lst x.val.length (encL x.val)]
  dec xs := match xs with
    | [.int .i64 v0, .lst n1 w1, .lst n2 w2, .lst n3 w3, .lst n4 w4] => (decL Int n1 w1).bind fun v1 => (decL Int n2 w2).bind fun v2 => (decL Int n3 w3).bind fun v3 => (decL Int n4 w4).bind fun v4 => some ⟨v0, v1, v2, v3, v4⟩
    | _ => none
  pos := by decide
  len _ := rfl
  dec_enc x := by simp only [decL_encL, Option.bind_some]
  enc_dec xs a h := by
    split at h
    · simp only [Option.bind_eq_some_iff] at h
      obtain ⟨v1, h1, v2, h2, v3, h3, v4, h4, h⟩ := h
      cases h
      obtain ⟨rfl, rfl⟩ := decL_some _ _ _ h1
      obtain ⟨rfl, rfl⟩ := decL_some _ _ _ h2
      obtain ⟨rfl, rfl⟩ := decL_some _ _ _ h3
      obtain ⟨rfl, rfl⟩ := decL_some _ _ _ h4
      rfl
    · cases h
instance : Arg KTree := aggArg KTree
@[simp] theorem dec_KTree (v0 : Int) (v1 : List Int) (v2 : List Int) (v3 : List Int) (v4 : List Int) : (Arg.dec (.agg [.int .i64 v0, .lst v1.length (encL v1), .lst v2.length (encL v2), .lst v3.length (encL v3), .lst v4.length (encL v4)]) : Option KTree) = some ⟨v0, v1, v2, v3, v4⟩ := by
  show Row.dec [.int .i64 v0, .lst v1.length (encL v1), .lst v2.length (encL v2), .lst v3.length (encL v3), .lst v4.length (encL v4)] = _
  exact Row.dec_enc (⟨v0, v1, v2, v3, v4⟩ : KTree)
@[simp] theorem enc_KTree (x : KTree) : Arg.enc x = .agg [.int .i64 x.cls, .lst x.part.length (encL x.part), .lst x.dir.length (encL x.dir), .lst x.cut.length (encL x.cut), .lst x.val.length (encL x.val)] := rfl
@[simp] theorem row_KTree (x : KTree) : Row.enc x = [.int .i64 x.cls, .lst x.part.length (encL x.part), .lst x.dir.length (encL x.dir), .lst x.cut.length (encL x.cut), .lst x.val.length (encL x.val)] := rfl
@[simp] theorem sz_KTree : Row.sz KTree = 5 := rfl
structure Forest where
  dim : Int
  classes : Int
  bias : List Int
  trees : List KTree
  deriving DecidableEq, Inhabited
instance : Row Forest where
  sz := 4
  enc x := [.int .i64 x.dim, .int .i64 x.classes, .lst x.bias.length (encL x.bias), .lst x.trees.length (encL x.trees)]
  dec xs := match xs with
    | [.int .i64 v0, .int .i64 v1, .lst n2 w2, .lst n3 w3] => (decL Int n2 w2).bind fun v2 => (decL KTree n3 w3).bind fun v3 => some ⟨v0, v1, v2, v3⟩
    | _ => none
  pos := by decide
  len _ := rfl
  dec_enc x := by simp only [decL_encL, Option.bind_some]
  enc_dec xs a h := by
    split at h
    · simp only [Option.bind_eq_some_iff] at h
      obtain ⟨v2, h2, v3, h3, h⟩ := h
      cases h
      obtain ⟨rfl, rfl⟩ := decL_some _ _ _ h2
      obtain ⟨rfl, rfl⟩ := decL_some _ _ _ h3
      rfl
    · cases h
instance : Arg Forest := aggArg Forest
@[simp] theorem dec_Forest (v0 : Int) (v1 : Int) (v2 : List Int) (v3 : List KTree) : (Arg.dec (.agg [.int .i64 v0, .int .i64 v1, .lst v2.length (encL v2), .lst v3.length (encL v3)]) : Option Forest) = some ⟨v0, v1, v2, v3⟩ := by
  show Row.dec [.int .i64 v0, .int .i64 v1, .lst v2.length (encL v2), .lst v3.length (encL v3)] = _
  exact Row.dec_enc (⟨v0, v1, v2, v3⟩ : Forest)
@[simp] theorem enc_Forest (x : Forest) : Arg.enc x = .agg [.int .i64 x.dim, .int .i64 x.classes, .lst x.bias.length (encL x.bias), .lst x.trees.length (encL x.trees)] := rfl
@[simp] theorem row_Forest (x : Forest) : Row.enc x = [.int .i64 x.dim, .int .i64 x.classes, .lst x.bias.length (encL x.bias), .lst x.trees.length (encL x.trees)] := rfl
@[simp] theorem sz_Forest : Row.sz Forest = 4 := rfl
structure Ask where
  kind : Int
  cls : Int
  lo : Int
  size : Int
  feature : Int
  budget : Int
  falls : Bool
  spans : List Int
  deriving DecidableEq, Inhabited
instance : Row Ask where
  sz := 8
  enc x := [.int .i64 x.kind, .int .i64 x.cls, .int .i64 x.lo, .int .i64 x.size, .int .i64 x.feature, .int .i64 x.budget, .bool x.falls, .lst x.spans.length (encL x.spans)]
  dec xs := match xs with
    | [.int .i64 v0, .int .i64 v1, .int .i64 v2, .int .i64 v3, .int .i64 v4, .int .i64 v5, .bool v6, .lst n7 w7] => (decL Int n7 w7).bind fun v7 => some ⟨v0, v1, v2, v3, v4, v5, v6, v7⟩
    | _ => none
  pos := by decide
  len _ := rfl
  dec_enc x := by simp only [decL_encL, Option.bind_some]
  enc_dec xs a h := by
    split at h
    · simp only [Option.bind_eq_some_iff] at h
      obtain ⟨v7, h7, h⟩ := h
      cases h
      obtain ⟨rfl, rfl⟩ := decL_some _ _ _ h7
      rfl
    · cases h
instance : Arg Ask := aggArg Ask
@[simp] theorem dec_Ask (v0 : Int) (v1 : Int) (v2 : Int) (v3 : Int) (v4 : Int) (v5 : Int) (v6 : Bool) (v7 : List Int) : (Arg.dec (.agg [.int .i64 v0, .int .i64 v1, .int .i64 v2, .int .i64 v3, .int .i64 v4, .int .i64 v5, .bool v6, .lst v7.length (encL v7)]) : Option Ask) = some ⟨v0, v1, v2, v3, v4, v5, v6, v7⟩ := by
  show Row.dec [.int .i64 v0, .int .i64 v1, .int .i64 v2, .int .i64 v3, .int .i64 v4, .int .i64 v5, .bool v6, .lst v7.length (encL v7)] = _
  exact Row.dec_enc (⟨v0, v1, v2, v3, v4, v5, v6, v7⟩ : Ask)
@[simp] theorem enc_Ask (x : Ask) : Arg.enc x = .agg [.int .i64 x.kind, .int .i64 x.cls, .int .i64 x.lo, .int .i64 x.size, .int .i64 x.feature, .int .i64 x.budget, .bool x.falls, .lst x.spans.length (encL x.spans)] := rfl
@[simp] theorem row_Ask (x : Ask) : Row.enc x = [.int .i64 x.kind, .int .i64 x.cls, .int .i64 x.lo, .int .i64 x.size, .int .i64 x.feature, .int .i64 x.budget, .bool x.falls, .lst x.spans.length (encL x.spans)] := rfl
@[simp] theorem sz_Ask : Row.sz Ask = 8 := rfl
structure Cutting where
  place : List Int
  cut : List Int
  deriving DecidableEq, Inhabited
instance : Row Cutting where
  sz := 2
  enc x := [.lst x.place.length (encL x.place), .lst x.cut.length (encL x.cut)]
  dec xs := match xs with
    | [.lst n0 w0, .lst n1 w1] => (decL Int n0 w0).bind fun v0 => (decL Int n1 w1).bind fun v1 => some ⟨v0, v1⟩
    | _ => none
  pos := by decide
  len _ := rfl
  dec_enc x := by simp only [decL_encL, Option.bind_some]
  enc_dec xs a h := by
    split at h
    · simp only [Option.bind_eq_some_iff] at h
      obtain ⟨v0, h0, v1, h1, h⟩ := h
      cases h
      obtain ⟨rfl, rfl⟩ := decL_some _ _ _ h0
      obtain ⟨rfl, rfl⟩ := decL_some _ _ _ h1
      rfl
    · cases h
instance : Arg Cutting := aggArg Cutting
@[simp] theorem dec_Cutting (v0 : List Int) (v1 : List Int) : (Arg.dec (.agg [.lst v0.length (encL v0), .lst v1.length (encL v1)]) : Option Cutting) = some ⟨v0, v1⟩ := by
  show Row.dec [.lst v0.length (encL v0), .lst v1.length (encL v1)] = _
  exact Row.dec_enc (⟨v0, v1⟩ : Cutting)
@[simp] theorem enc_Cutting (x : Cutting) : Arg.enc x = .agg [.lst x.place.length (encL x.place), .lst x.cut.length (encL x.cut)] := rfl
@[simp] theorem row_Cutting (x : Cutting) : Row.enc x = [.lst x.place.length (encL x.place), .lst x.cut.length (encL x.cut)] := rfl
@[simp] theorem sz_Cutting : Row.sz Cutting = 2 := rfl
@[simp] theorem dec_int (n : Int) : (Arg.dec (.int .i64 n) : Option Int) = some n := rfl
@[simp] theorem enc_int (n : Int) : Arg.enc n = .int .i64 n := rfl
@[simp] theorem row_int (n : Int) : Row.enc n = [.int .i64 n] := rfl
@[simp] theorem sz_int : Row.sz Int = 1 := rfl
@[simp] theorem dec_word (n : Int) : (Arg.dec (.int .u64 n) : Option Word) = some ⟨n⟩ := rfl
@[simp] theorem enc_word (w : Word) : Arg.enc w = .int .u64 w.v := rfl
@[simp] theorem row_word (w : Word) : Row.enc w = [.int .u64 w.v] := rfl
@[simp] theorem sz_word : Row.sz Word = 1 := rfl
@[simp] theorem dec_bool (b : Bool) : (Arg.dec (.bool b) : Option Bool) = some b := rfl
@[simp] theorem enc_bool (b : Bool) : Arg.enc b = .bool b := rfl
@[simp] theorem enc_list {α : Type} [Row α] (l : List α) : Arg.enc l = .lst l.length (encL l) := rfl
attribute [simp] dec_lst
@[simp] theorem enc_pair {α β : Type} [Arg α] [Arg β] (p : α × β) : Arg.enc p = .tup [Arg.enc p.1, Arg.enc p.2] := rfl
@[simp] theorem enc_tri {α β γ : Type} [Arg α] [Arg β] [Arg γ] (p : Tri α β γ) : Arg.enc p = .tup [Arg.enc p.a, Arg.enc p.b, Arg.enc p.c] := rfl
/-! ### specifications -/
def sp0 {γ : Type} [Arg γ] (F : Option γ) : List AV → Option AV
  | [] => (F ).map Arg.enc
  | _ => none
@[simp] theorem sp0_eq {γ : Type} [Arg γ] (F : Option γ) : sp0 F [] = (F ).map Arg.enc := rfl
theorem sp0_runs {γ : Type} [Arg γ] {F : Option γ} {C : Cs} {A : AFun} (h : ∀ c, F  = some c → Runs C A [] (Arg.enc c)) : ∀ args r, sp0 F args = some r → Runs C A args r := by
  intro args r hr
  unfold sp0 at hr
  split at hr
  · rw [Option.map_eq_some_iff] at hr
    obtain ⟨c, hc, rfl⟩ := hr
    exact h c hc
  · cases hr
def sp1 {α0 γ : Type} [Arg α0] [Arg γ] (F : α0 → Option γ) : List AV → Option AV
  | [x0] => (Arg.dec x0).bind fun a0 => (F a0).map Arg.enc
  | _ => none
@[simp] theorem sp1_eq {α0 γ : Type} [Arg α0] [Arg γ] (F : α0 → Option γ) (x0 : AV) : sp1 F [x0] = (Arg.dec x0).bind fun a0 => (F a0).map Arg.enc := rfl
theorem sp1_runs {α0 γ : Type} [Arg α0] [Arg γ] {F : α0 → Option γ} {C : Cs} {A : AFun} (h : ∀ a0 c, F a0 = some c → Runs C A [Arg.enc a0] (Arg.enc c)) : ∀ args r, sp1 F args = some r → Runs C A args r := by
  intro args r hr
  unfold sp1 at hr
  split at hr
  · rw [Option.bind_eq_some_iff] at hr
    obtain ⟨a0, h0, hr⟩ := hr
    rw [Option.map_eq_some_iff] at hr
    obtain ⟨c, hc, rfl⟩ := hr
    rw [Arg.enc_dec _ _ h0]
    exact h a0 c hc
  · cases hr
def sp2 {α0 α1 γ : Type} [Arg α0] [Arg α1] [Arg γ] (F : α0 → α1 → Option γ) : List AV → Option AV
  | [x0, x1] => (Arg.dec x0).bind fun a0 => (Arg.dec x1).bind fun a1 => (F a0 a1).map Arg.enc
  | _ => none
@[simp] theorem sp2_eq {α0 α1 γ : Type} [Arg α0] [Arg α1] [Arg γ] (F : α0 → α1 → Option γ) (x0 x1 : AV) : sp2 F [x0, x1] = (Arg.dec x0).bind fun a0 => (Arg.dec x1).bind fun a1 => (F a0 a1).map Arg.enc := rfl
theorem sp2_runs {α0 α1 γ : Type} [Arg α0] [Arg α1] [Arg γ] {F : α0 → α1 → Option γ} {C : Cs} {A : AFun} (h : ∀ a0 a1 c, F a0 a1 = some c → Runs C A [Arg.enc a0, Arg.enc a1] (Arg.enc c)) : ∀ args r, sp2 F args = some r → Runs C A args r := by
  intro args r hr
  unfold sp2 at hr
  split at hr
  · rw [Option.bind_eq_some_iff] at hr
    obtain ⟨a0, h0, hr⟩ := hr
    rw [Option.bind_eq_some_iff] at hr
    obtain ⟨a1, h1, hr⟩ := hr
    rw [Option.map_eq_some_iff] at hr
    obtain ⟨c, hc, rfl⟩ := hr
    rw [Arg.enc_dec _ _ h0]
    rw [Arg.enc_dec _ _ h1]
    exact h a0 a1 c hc
  · cases hr
def sp3 {α0 α1 α2 γ : Type} [Arg α0] [Arg α1] [Arg α2] [Arg γ] (F : α0 → α1 → α2 → Option γ) : List AV → Option AV
  | [x0, x1, x2] => (Arg.dec x0).bind fun a0 => (Arg.dec x1).bind fun a1 => (Arg.dec x2).bind fun a2 => (F a0 a1 a2).map Arg.enc
  | _ => none
@[simp] theorem sp3_eq {α0 α1 α2 γ : Type} [Arg α0] [Arg α1] [Arg α2] [Arg γ] (F : α0 → α1 → α2 → Option γ) (x0 x1 x2 : AV) : sp3 F [x0, x1, x2] = (Arg.dec x0).bind fun a0 => (Arg.dec x1).bind fun a1 => (Arg.dec x2).bind fun a2 => (F a0 a1 a2).map Arg.enc := rfl
theorem sp3_runs {α0 α1 α2 γ : Type} [Arg α0] [Arg α1] [Arg α2] [Arg γ] {F : α0 → α1 → α2 → Option γ} {C : Cs} {A : AFun} (h : ∀ a0 a1 a2 c, F a0 a1 a2 = some c → Runs C A [Arg.enc a0, Arg.enc a1, Arg.enc a2] (Arg.enc c)) : ∀ args r, sp3 F args = some r → Runs C A args r := by
  intro args r hr
  unfold sp3 at hr
  split at hr
  · rw [Option.bind_eq_some_iff] at hr
    obtain ⟨a0, h0, hr⟩ := hr
    rw [Option.bind_eq_some_iff] at hr
    obtain ⟨a1, h1, hr⟩ := hr
    rw [Option.bind_eq_some_iff] at hr
    obtain ⟨a2, h2, hr⟩ := hr
    rw [Option.map_eq_some_iff] at hr
    obtain ⟨c, hc, rfl⟩ := hr
    rw [Arg.enc_dec _ _ h0]
    rw [Arg.enc_dec _ _ h1]
    rw [Arg.enc_dec _ _ h2]
    exact h a0 a1 a2 c hc
  · cases hr
def sp4 {α0 α1 α2 α3 γ : Type} [Arg α0] [Arg α1] [Arg α2] [Arg α3] [Arg γ] (F : α0 → α1 → α2 → α3 → Option γ) : List AV → Option AV
  | [x0, x1, x2, x3] => (Arg.dec x0).bind fun a0 => (Arg.dec x1).bind fun a1 => (Arg.dec x2).bind fun a2 => (Arg.dec x3).bind fun a3 => (F a0 a1 a2 a3).map Arg.enc
  | _ => none
@[simp] theorem sp4_eq {α0 α1 α2 α3 γ : Type} [Arg α0] [Arg α1] [Arg α2] [Arg α3] [Arg γ] (F : α0 → α1 → α2 → α3 → Option γ) (x0 x1 x2 x3 : AV) : sp4 F [x0, x1, x2, x3] = (Arg.dec x0).bind fun a0 => (Arg.dec x1).bind fun a1 => (Arg.dec x2).bind fun a2 => (Arg.dec x3).bind fun a3 => (F a0 a1 a2 a3).map Arg.enc := rfl
theorem sp4_runs {α0 α1 α2 α3 γ : Type} [Arg α0] [Arg α1] [Arg α2] [Arg α3] [Arg γ] {F : α0 → α1 → α2 → α3 → Option γ} {C : Cs} {A : AFun} (h : ∀ a0 a1 a2 a3 c, F a0 a1 a2 a3 = some c → Runs C A [Arg.enc a0, Arg.enc a1, Arg.enc a2, Arg.enc a3] (Arg.enc c)) : ∀ args r, sp4 F args = some r → Runs C A args r := by
  intro args r hr
  unfold sp4 at hr
  split at hr
  · rw [Option.bind_eq_some_iff] at hr
    obtain ⟨a0, h0, hr⟩ := hr
    rw [Option.bind_eq_some_iff] at hr
    obtain ⟨a1, h1, hr⟩ := hr
    rw [Option.bind_eq_some_iff] at hr
    obtain ⟨a2, h2, hr⟩ := hr
    rw [Option.bind_eq_some_iff] at hr
    obtain ⟨a3, h3, hr⟩ := hr
    rw [Option.map_eq_some_iff] at hr
    obtain ⟨c, hc, rfl⟩ := hr
    rw [Arg.enc_dec _ _ h0]
    rw [Arg.enc_dec _ _ h1]
    rw [Arg.enc_dec _ _ h2]
    rw [Arg.enc_dec _ _ h3]
    exact h a0 a1 a2 a3 c hc
  · cases hr
def sp5 {α0 α1 α2 α3 α4 γ : Type} [Arg α0] [Arg α1] [Arg α2] [Arg α3] [Arg α4] [Arg γ] (F : α0 → α1 → α2 → α3 → α4 → Option γ) : List AV → Option AV
  | [x0, x1, x2, x3, x4] => (Arg.dec x0).bind fun a0 => (Arg.dec x1).bind fun a1 => (Arg.dec x2).bind fun a2 => (Arg.dec x3).bind fun a3 => (Arg.dec x4).bind fun a4 => (F a0 a1 a2 a3 a4).map Arg.enc
  | _ => none
@[simp] theorem sp5_eq {α0 α1 α2 α3 α4 γ : Type} [Arg α0] [Arg α1] [Arg α2] [Arg α3] [Arg α4] [Arg γ] (F : α0 → α1 → α2 → α3 → α4 → Option γ) (x0 x1 x2 x3 x4 : AV) : sp5 F [x0, x1, x2, x3, x4] = (Arg.dec x0).bind fun a0 => (Arg.dec x1).bind fun a1 => (Arg.dec x2).bind fun a2 => (Arg.dec x3).bind fun a3 => (Arg.dec x4).bind fun a4 => (F a0 a1 a2 a3 a4).map Arg.enc := rfl
theorem sp5_runs {α0 α1 α2 α3 α4 γ : Type} [Arg α0] [Arg α1] [Arg α2] [Arg α3] [Arg α4] [Arg γ] {F : α0 → α1 → α2 → α3 → α4 → Option γ} {C : Cs} {A : AFun} (h : ∀ a0 a1 a2 a3 a4 c, F a0 a1 a2 a3 a4 = some c → Runs C A [Arg.enc a0, Arg.enc a1, Arg.enc a2, Arg.enc a3, Arg.enc a4] (Arg.enc c)) : ∀ args r, sp5 F args = some r → Runs C A args r := by
  intro args r hr
  unfold sp5 at hr
  split at hr
  · rw [Option.bind_eq_some_iff] at hr
    obtain ⟨a0, h0, hr⟩ := hr
    rw [Option.bind_eq_some_iff] at hr
    obtain ⟨a1, h1, hr⟩ := hr
    rw [Option.bind_eq_some_iff] at hr
    obtain ⟨a2, h2, hr⟩ := hr
    rw [Option.bind_eq_some_iff] at hr
    obtain ⟨a3, h3, hr⟩ := hr
    rw [Option.bind_eq_some_iff] at hr
    obtain ⟨a4, h4, hr⟩ := hr
    rw [Option.map_eq_some_iff] at hr
    obtain ⟨c, hc, rfl⟩ := hr
    rw [Arg.enc_dec _ _ h0]
    rw [Arg.enc_dec _ _ h1]
    rw [Arg.enc_dec _ _ h2]
    rw [Arg.enc_dec _ _ h3]
    rw [Arg.enc_dec _ _ h4]
    exact h a0 a1 a2 a3 a4 c hc
  · cases hr
def sp6 {α0 α1 α2 α3 α4 α5 γ : Type} [Arg α0] [Arg α1] [Arg α2] [Arg α3] [Arg α4] [Arg α5] [Arg γ] (F : α0 → α1 → α2 → α3 → α4 → α5 → Option γ) : List AV → Option AV
  | [x0, x1, x2, x3, x4, x5] => (Arg.dec x0).bind fun a0 => (Arg.dec x1).bind fun a1 => (Arg.dec x2).bind fun a2 => (Arg.dec x3).bind fun a3 => (Arg.dec x4).bind fun a4 => (Arg.dec x5).bind fun a5 => (F a0 a1 a2 a3 a4 a5).map Arg.enc
  | _ => none
@[simp] theorem sp6_eq {α0 α1 α2 α3 α4 α5 γ : Type} [Arg α0] [Arg α1] [Arg α2] [Arg α3] [Arg α4] [Arg α5] [Arg γ] (F : α0 → α1 → α2 → α3 → α4 → α5 → Option γ) (x0 x1 x2 x3 x4 x5 : AV) : sp6 F [x0, x1, x2, x3, x4, x5] = (Arg.dec x0).bind fun a0 => (Arg.dec x1).bind fun a1 => (Arg.dec x2).bind fun a2 => (Arg.dec x3).bind fun a3 => (Arg.dec x4).bind fun a4 => (Arg.dec x5).bind fun a5 => (F a0 a1 a2 a3 a4 a5).map Arg.enc := rfl
end Go.Co
