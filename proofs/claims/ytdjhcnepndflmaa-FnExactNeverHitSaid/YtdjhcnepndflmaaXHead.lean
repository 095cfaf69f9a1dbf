/- What the head of the cut says of the program: its first words. Proved once a seat, by the words alone, since the kernel's own run over the head wants much memory. -/
import Derived.Test.YtdjhcnepndflmaaRows
import Derived.KernelRfl
import Derived.JoinedOf
namespace Go.Proofs.YtdjhcnepndflmaaX.Head
theorem words_cons (a b : List Char) (h : ∀ c ∈ a, c ≠ Char.ofNat 32) : wordsSigns (a ++ Char.ofNat 32 :: b) = a :: wordsSigns b := by
  induction a with
  | nil => rfl
  | cons c a ih =>
    have h1 := ih fun x hx => h x (List.mem_cons_of_mem _ hx)
    have h2 : c ≠ Char.ofNat 32 := h c (List.mem_cons_self ..)
    rw [List.cons_append, wordsSigns.eq_3 _ _ h2, h1]
def w1 : List Nat := [104, 97, 114, 110, 101, 115, 115]
def w2 : List Nat := [48, 55, 97, 97, 49, 99, 99, 99, 55, 100, 100, 53, 102, 53, 98, 97, 101, 101, 100, 53, 57, 56, 100, 56, 57, 99, 53, 102, 52, 56, 100, 100, 101, 100, 48, 54, 51, 52, 57, 100, 101, 57, 99, 48, 54, 56, 101, 102, 53, 99, 101, 101, 97, 98, 57, 100, 49, 54, 52, 100, 101, 52, 101, 100]
def w3 : List Nat := [99, 117, 116]
def rest : List Nat := [97, 116, 32, 108, 111, 111, 112, 46, 101, 120, 97, 109, 112, 108, 101, 47, 103, 48, 49, 50, 55, 52, 47, 108, 97, 119, 115, 46, 70, 110, 69, 120, 97, 99, 116, 84, 97, 107, 101, 80, 105, 101, 99, 101, 32, 108, 111, 111, 112, 46, 101, 120, 97, 109, 112, 108, 101, 47, 103, 48, 49, 50, 55, 52, 47, 108, 97, 119, 115, 46, 70, 110, 69, 120, 97, 99, 116, 66, 111, 97, 114, 100, 80, 105, 99, 116, 117, 114, 101, 32, 108, 111, 111, 112, 46, 101, 120, 97, 109, 112, 108, 101, 47, 103, 48, 49, 50, 55, 52, 47, 108, 97, 119, 115, 46, 70, 110, 69, 120, 97, 99, 116, 78, 101, 118, 101, 114, 72, 105, 116]
def chars (l : List Nat) : List Char := l.map Char.ofNat
theorem init_ : Try.prog.initOrder = String.ofList (chars w1 ++ Char.ofNat 32 :: (chars w2 ++ Char.ofNat 32 :: (chars w3 ++ Char.ofNat 32 :: chars rest))) := by kernel_rfl
theorem free {l : List Nat} (h : (chars l).all (fun c => c != Char.ofNat 32) = true) : ∀ c ∈ chars l, c ≠ Char.ofNat 32 := fun c hc => by
  have := List.all_eq_true.1 h c hc
  simpa using this
theorem words : wordsSigns Try.prog.initOrder.toList = chars w1 :: chars w2 :: chars w3 :: wordsSigns (chars rest) := by
  rw [init_, String.toList_ofList, words_cons _ _ (free (by kernel_rfl)), words_cons _ _ (free (by kernel_rfl)), words_cons _ _ (free (by kernel_rfl))]
theorem behind (X : List (List Char)) : behindMainWord (chars w1 :: chars w2 :: chars w3 :: X) = chars w3 :: X := by kernel_rfl
theorem strip (X : List (List Char)) : stripLifts liftWords (chars w3 :: X) = ([], chars w3 :: X) := by kernel_rfl
theorem mayEnter_of (P : Program) (X : List (List Char)) (h : wordsSigns P.initOrder.toList = chars w1 :: chars w2 :: chars w3 :: X) (h1 : P.laysLater = false) (h2 : P.bearsReflect = false) (h3 : P.doorFits [] = true) : P.mayEnter = true := by
  unfold Program.mayEnter
  rw [h, behind]
  simp only [strip, h1, h2, h3]
  kernel_rfl
theorem lifts_of (P : Program) (X : List (List Char)) (h : wordsSigns P.initOrder.toList = chars w1 :: chars w2 :: chars w3 :: X) : P.liftsFinal = false := by
  unfold Program.liftsFinal Program.headLifts
  rw [h, behind, strip]
  kernel_rfl
theorem make_of (P : Program) (X : List (List Char)) (h : wordsSigns P.initOrder.toList = chars w1 :: chars w2 :: chars w3 :: X) : P.make = some .cut := by
  unfold Program.make
  rw [h, behind]
  kernel_rfl
theorem mayEnter_ : Try.prog.mayEnter = true := mayEnter_of _ _ words (by kernel_rfl) (by kernel_rfl) (by kernel_rfl)
theorem lifts_ : Try.prog.liftsFinal = false := lifts_of _ _ words
theorem make_ : Try.prog.make = some .cut := make_of _ _ words
end Go.Proofs.YtdjhcnepndflmaaX.Head
