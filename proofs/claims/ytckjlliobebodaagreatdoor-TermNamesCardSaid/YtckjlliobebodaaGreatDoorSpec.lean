/- What the parser computes, as plain functions: the term grammar. -/
import Derived.Test.YtckjlliobebodaaGreatDoorTyped
import Derived.Test.YtckjlliobebodaaGreatDoorOps
namespace Go.Proofs.YtckjlliobebodaaGreatDoor
open Go.RowKit
def kLbr : ByteArray := ⟨#[91]⟩
def kRbr : ByteArray := ⟨#[93]⟩
def kLcu : ByteArray := ⟨#[123]⟩
def kRcu : ByteArray := ⟨#[125]⟩
def kBar : ByteArray := ⟨#[124]⟩
def kDot : ByteArray := ⟨#[46]⟩
def kTilde : ByteArray := ⟨#[126]⟩
def kMinus : ByteArray := ⟨#[45]⟩
def kIn : ByteArray := ⟨#[105, 110]⟩
def kNot : ByteArray := ⟨#[110, 111, 116]⟩
def kTrue : ByteArray := ⟨#[116, 114, 117, 101]⟩
def kFalse : ByteArray := ⟨#[102, 97, 108, 115, 101]⟩
def kForall : ByteArray := ⟨#[102, 111, 114, 97, 108, 108]⟩
def kExists : ByteArray := ⟨#[101, 120, 105, 115, 116, 115]⟩
def kFun : ByteArray := ⟨#[102, 117, 110]⟩
def nil0 : ByteArray := ⟨#[]⟩
/-- A node with kids alone. -/
def nd (op : Int) (l : List Tm) : Tm := .mk op nil0 0 ty0 l
abbrev RT := Except ER (Tm × PS)
abbrev TF := Nat → PS → RT
def insideS (T : TF) (s o c : ByteArray) (σ : PS) : RT :=
  match openS s σ o with
  | .error r => .error r
  | .ok σ1 =>
    match T 1 σ1 with
    | .error r => .error r
    | .ok (t, σ2) =>
      match shutS s σ2 c with
      | .error r => .error r
      | .ok σ3 => .ok (t, σ3)
def boundS (T : TF) (s : ByteArray) (op : Int) (σ : PS) : RT :=
  match nameS s σ with
  | .error r => .error r
  | .ok (x, σ1) =>
    match wantS s σ1 kIn with
    | .error r => .error r
    | .ok σ2 =>
      match T 7 σ2 with
      | .error r => .error r
      | .ok (d, σ3) =>
        match wantS s σ3 kDot with
        | .error r => .error r
        | .ok σ4 =>
          match T 1 σ4 with
          | .error r => .error r
          | .ok (c, σ5) => .ok (.mk op x 0 ty0 [d, c], σ5)
/-- A leaf behind one token. -/
def leafS (s : ByteArray) (t : Tm) (σ : PS) : RT :=
  match advS s σ with
  | .error r => .error r
  | .ok σ1 => .ok (t, σ1)
def binderS (T : TF) (s : ByteArray) (op : Int) (σ : PS) : RT :=
  match advS s σ with
  | .error r => .error r
  | .ok σ1 => boundS T s op σ1
def wordedS (T : TF) (s : ByteArray) (σ : PS) : RT :=
  match keywordB σ.tx with
  | false => leafS s (.mk 20 σ.tx 0 ty0 []) σ
  | true =>
    match (functionN σ.tx != 0) with
    | true =>
      match advS s σ with
      | .error r => .error r
      | .ok σ1 =>
        match insideS T s kLpar kRpar σ1 with
        | .error r => .error r
        | .ok (t, σ2) => .ok (nd (functionN σ.tx) [t], σ2)
    | false =>
      match isS σ kTrue with
      | true => leafS s (nd 1 []) σ
      | false =>
        match isS σ kFalse with
        | true => leafS s (nd 2 []) σ
        | false =>
          match isS σ kForall with
          | true => binderS T s 8 σ
          | false =>
            match isS σ kExists with
            | true => binderS T s 9 σ
            | false =>
              match isS σ kFun with
              | true => binderS T s 56 σ
              | false => .error (false, σ.ta)
/-- The elements of a set behind the first ones. -/
def elemsS (T : TF) (s : ByteArray) : Nat → List Tm → PS → Except ER (List Tm × PS)
  | 0, _, _ => .error (false, 0)
  | g + 1, l, σ =>
    match isS σ kComma with
    | false => .ok (l, σ)
    | true =>
      match advS s σ with
      | .error r => .error r
      | .ok σ1 =>
        match T 1 σ1 with
        | .error r => .error r
        | .ok (t, σ2) => elemsS T s g (l ++ [t]) σ2
/-- Is a first element the head of a comprehension? -/
def headB (first : Tm) : Bool :=
  (first.op == 16) && (match first.kids with | k :: _ => (k.op == 20) && identB k.name | [] => false)
def elementsS (T : TF) (s : ByteArray) (first : Tm) (bare : Bool) (σ : PS) : RT :=
  match isS σ kBar && bare && headB first with
  | true =>
    match advS s σ with
    | .error r => .error r
    | .ok σ1 =>
      match T 1 σ1 with
      | .error r => .error r
      | .ok (c, σ2) =>
        match shutS s σ2 kRcu with
        | .error r => .error r
        | .ok σ3 => .ok (.mk 55 ((first.kids.getD 0 first).name) 0 ty0 [first.kids.getD 1 first, c], σ3)
  | false =>
    match elemsS T s (s.size + 2) [first] σ with
    | .error r => .error r
    | .ok (l, σ1) =>
      match shutS s σ1 kRcu with
      | .error r => .error r
      | .ok σ2 => .ok (nd 28 l, σ2)
def bracesS (T : TF) (s : ByteArray) (σ : PS) : RT :=
  match openS s σ kLcu with
  | .error r => .error r
  | .ok σ1 =>
    match isS σ1 kRcu with
    | true =>
      match advS s σ1 with
      | .error r => .error r
      | .ok σ2 =>
        match openS s { σ2 with nest := σ2.nest - 1 } kLbr with
        | .error r => .error r
        | .ok σ3 =>
          match typedS (s.size + 2) s σ3 with
          | .error r => .error r
          | .ok (t, σ4) =>
            match shutS s σ4 kRbr with
            | .error r => .error r
            | .ok σ5 => .ok (.mk 29 nil0 0 t [], σ5)
    | false =>
      match T 1 σ1 with
      | .error r => .error r
      | .ok (t, σ2) => elementsS T s t (σ1.k == 1) σ2
def atomS (T : TF) (s : ByteArray) (σ : PS) : RT :=
  match (σ.k == 2) with
  | true => leafS s (.mk 19 nil0 σ.n ty0 []) σ
  | false =>
    match (σ.k == 1) with
    | true => wordedS T s σ
    | false =>
      match isS σ kLpar with
      | true => insideS T s kLpar kRpar σ
      | false =>
        match isS σ kLcu with
        | true => bracesS T s σ
        | false => .error (false, σ.ta)
def afterS (T : TF) (s : ByteArray) : Nat → Tm → PS → RT
  | 0, _, _ => .error (false, 0)
  | g + 1, t, σ =>
    match isS σ kLpar with
    | true =>
      match insideS T s kLpar kRpar σ with
      | .error r => .error r
      | .ok (u, σ1) => afterS T s g (nd 54 [t, u]) σ1
    | false =>
      match isS σ kLbr with
      | true =>
        match insideS T s kLbr kRbr σ with
        | .error r => .error r
        | .ok (u, σ1) => afterS T s g (nd 53 [t, u]) σ1
      | false =>
        match isS σ kTilde with
        | true =>
          match advS s σ with
          | .error r => .error r
          | .ok σ1 => afterS T s g (nd 52 [t]) σ1
        | false => .ok (t, σ)
/-- The operator of a level that is next, or 0. -/
def opGo (σ : PS) : List ByteArray → List Int → Int
  | x :: xs, o :: os => match isS σ x with | true => o | false => opGo σ xs os
  | _, _ => 0
def opOf (n : Nat) (σ : PS) : Int := opGo σ (lvSigns n) (lvOps n)
def restS (T : TF) (s : ByteArray) (n : Nat) : Nat → Tm → PS → RT
  | 0, _, _ => .error (false, 0)
  | g + 1, t, σ =>
    match (opOf n σ == 0) with
    | true => .ok (t, σ)
    | false =>
      match advS s σ with
      | .error r => .error r
      | .ok σ1 =>
        match T (if lvGroup n = 2 then n else n + 1) σ1 with
        | .error r => .error r
        | .ok (u, σ2) =>
          match (lvGroup n != 1) with
          | true => .ok (nd (opOf n σ) [t, u], σ2)
          | false => restS T s n g (nd (opOf n σ) [t, u]) σ2
def termS : Nat → ByteArray → Nat → PS → RT
  | 0, _, _, _ => .error (false, 0)
  | f + 1, s, n, σ =>
    match (n == 5), (n == 13) with
    | true, _ =>
      match isS σ kNot with
      | true =>
        match advS s σ with
        | .error r => .error r
        | .ok σ1 =>
          match termS f s 5 σ1 with
          | .error r => .error r
          | .ok (t, σ2) => .ok (nd 3 [t], σ2)
      | false => termS f s 6 σ
    | false, true =>
      match isS σ kMinus with
      | true =>
        match advS s σ with
        | .error r => .error r
        | .ok σ1 =>
          match termS f s 13 σ1 with
          | .error r => .error r
          | .ok (t, σ2) => .ok (nd 21 [t], σ2)
      | false =>
        match atomS (termS f s) s σ with
        | .error r => .error r
        | .ok (t, σ1) => afterS (termS f s) s (s.size + 2) t σ1
    | false, false =>
      match termS f s (n + 1) σ with
      | .error r => .error r
      | .ok (t, σ1) => restS (termS f s) s n (s.size + 2) t σ1
/-- A term whose operator is a membership has its two operands. -/
def good (t : Tm) : Prop := t.op = 16 → t.kids.length = 2
/-- What a reader of terms keeps: it goes on, and shuts what it opens. -/
def Inv (s : ByteArray) (σ σ' : PS) : Prop := mu s σ' ≤ mu s σ ∧ σ'.p ≤ s.size ∧ σ'.nest = σ.nest
def TInv (s : ByteArray) (T : TF) : Prop := ∀ n σ t σ', σ.p ≤ s.size → T n σ = .ok (t, σ') → Inv s σ σ' ∧ good t
end Go.Proofs.YtckjlliobebodaaGreatDoor
