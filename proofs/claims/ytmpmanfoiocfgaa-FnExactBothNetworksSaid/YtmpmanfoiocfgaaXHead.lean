/- What the head of the cut says of the program: its first words. Proved once a seat, by the words alone, since the kernel's own run over the head wants much memory. -/
import Derived.Test.YtmpmanfoiocfgaaRows
import Derived.KernelRfl
import Derived.JoinedOf
namespace Go.Proofs.YtmpmanfoiocfgaaX.Head
theorem words_cons (a b : List Char) (h : ∀ c ∈ a, c ≠ Char.ofNat 32) : wordsSigns (a ++ Char.ofNat 32 :: b) = a :: wordsSigns b := by
  induction a with
  | nil => rfl
  | cons c a ih =>
    have h1 := ih fun x hx => h x (List.mem_cons_of_mem _ hx)
    have h2 : c ≠ Char.ofNat 32 := h c (List.mem_cons_self ..)
    rw [List.cons_append, wordsSigns.eq_3 _ _ h2, h1]
def w1 : List Nat := [104, 97, 114, 110, 101, 115, 115]
def w2 : List Nat := [49, 57, 52, 100, 102, 57, 102, 97, 49, 100, 49, 98, 54, 98, 102, 98, 102, 101, 98, 55, 55, 101, 53, 49, 99, 56, 102, 101, 100, 56, 57, 57, 98, 55, 51, 52, 99, 99, 102, 102, 53, 99, 50, 49, 53, 50, 101, 101, 102, 51, 98, 52, 100, 48, 55, 52, 57, 57, 99, 57, 50, 53, 52, 53]
def w3 : List Nat := [99, 117, 116]
def rest : List Nat := [97, 116, 32, 108, 111, 111, 112, 46, 101, 120, 97, 109, 112, 108, 101, 47, 103, 48, 49, 50, 55, 52, 47, 108, 97, 119, 115, 46, 70, 110, 69, 120, 97, 99, 116, 83, 97, 109, 101, 78, 101, 116, 119, 111, 114, 107, 32, 108, 111, 111, 112, 46, 101, 120, 97, 109, 112, 108, 101, 47, 103, 48, 49, 50, 55, 52, 47, 108, 97, 119, 115, 46, 70, 110, 69, 120, 97, 99, 116, 86, 97, 108, 105, 100, 78, 101, 116, 119, 111, 114, 107, 32, 108, 111, 111, 112, 46, 101, 120, 97, 109, 112, 108, 101, 47, 103, 48, 49, 50, 55, 52, 47, 108, 97, 119, 115, 46, 70, 110, 69, 120, 97, 99, 116, 67, 111, 117, 110, 116, 78, 111, 100, 101, 115, 32, 108, 111, 111, 112, 46, 101, 120, 97, 109, 112, 108, 101, 47, 103, 48, 49, 50, 55, 52, 47, 108, 97, 119, 115, 46, 70, 110, 69, 120, 97, 99, 116, 80, 105, 101, 99, 101, 115, 79, 102, 32, 108, 111, 111, 112, 46, 101, 120, 97, 109, 112, 108, 101, 47, 103, 48, 49, 50, 55, 52, 47, 108, 97, 119, 115, 46, 70, 110, 69, 120, 97, 99, 116, 68, 101, 112, 116, 104, 79, 102, 32, 108, 111, 111, 112, 46, 101, 120, 97, 109, 112, 108, 101, 47, 103, 48, 49, 50, 55, 52, 47, 108, 97, 119, 115, 46, 70, 110, 69, 120, 97, 99, 116, 70, 111, 114, 109, 117, 108, 97, 79, 102, 32, 108, 111, 111, 112, 46, 101, 120, 97, 109, 112, 108, 101, 47, 103, 48, 49, 50, 55, 52, 47, 108, 97, 119, 115, 46, 70, 110, 69, 120, 97, 99, 116, 69, 118, 97, 108, 78, 101, 116, 119, 111, 114, 107, 32, 108, 111, 111, 112, 46, 101, 120, 97, 109, 112, 108, 101, 47, 103, 48, 49, 50, 55, 52, 47, 108, 97, 119, 115, 46, 70, 110, 69, 120, 97, 99, 116, 68, 105, 102, 102, 101, 114, 32, 108, 111, 111, 112, 46, 101, 120, 97, 109, 112, 108, 101, 47, 103, 48, 49, 50, 55, 52, 47, 108, 97, 119, 115, 46, 70, 110, 69, 120, 97, 99, 116, 67, 104, 101, 99, 107, 77, 101, 114, 103, 101, 32, 108, 111, 111, 112, 46, 101, 120, 97, 109, 112, 108, 101, 47, 103, 48, 49, 50, 55, 52, 47, 108, 97, 119, 115, 46, 70, 110, 69, 120, 97, 99, 116, 84, 97, 98, 108, 101, 115, 79, 102, 32, 108, 111, 111, 112, 46, 101, 120, 97, 109, 112, 108, 101, 47, 103, 48, 49, 50, 55, 52, 47, 108, 97, 119, 115, 46, 70, 110, 69, 120, 97, 99, 116, 79, 117, 116, 112, 117, 116, 84, 97, 98, 108, 101, 115, 32, 108, 111, 111, 112, 46, 101, 120, 97, 109, 112, 108, 101, 47, 103, 48, 49, 50, 55, 52, 47, 108, 97, 119, 115, 46, 70, 110, 69, 120, 97, 99, 116, 84, 114, 105, 109, 78, 101, 116, 119, 111, 114, 107, 32, 108, 111, 111, 112, 46, 101, 120, 97, 109, 112, 108, 101, 47, 103, 48, 49, 50, 55, 52, 47, 108, 97, 119, 115, 46, 70, 110, 69, 120, 97, 99, 116, 66, 111, 116, 104, 78, 101, 116, 119, 111, 114, 107, 115, 32, 108, 111, 111, 112, 46, 101, 120, 97, 109, 112, 108, 101, 47, 103, 48, 49, 50, 55, 52, 47, 108, 97, 119, 115, 46, 70, 110, 69, 120, 97, 99, 116, 78, 101, 101, 100, 115, 79, 102, 32, 108, 111, 111, 112, 46, 101, 120, 97, 109, 112, 108, 101, 47, 103, 48, 49, 50, 55, 52, 47, 108, 97, 119, 115, 46, 70, 110, 65, 100, 100, 101, 114, 115, 32, 108, 111, 111, 112, 46, 101, 120, 97, 109, 112, 108, 101, 47, 103, 48, 49, 50, 55, 52, 47, 108, 97, 119, 115, 46, 70, 110, 69, 120, 97, 99, 116, 77, 101, 114, 103, 101, 79, 102, 32, 108, 111, 111, 112, 46, 101, 120, 97, 109, 112, 108, 101, 47, 103, 48, 49, 50, 55, 52, 47, 108, 97, 119, 115, 46, 70, 110, 69, 120, 97, 99, 116, 83, 105, 109, 112, 108, 105, 102, 121, 78, 101, 116, 119, 111, 114, 107, 32, 108, 111, 111, 112, 46, 101, 120, 97, 109, 112, 108, 101, 47, 103, 48, 49, 50, 55, 52, 47, 108, 97, 119, 115, 46, 70, 110, 69, 120, 97, 99, 116, 65, 100, 100, 101, 114, 79, 102]
def chars (l : List Nat) : List Char := l.map Char.ofNat
theorem init_ : Try.prog.initOrder = String.ofList (chars w1 ++ Char.ofNat 32 :: (chars w2 ++ Char.ofNat 32 :: (chars w3 ++ Char.ofNat 32 :: chars rest))) := by kernel_rfl
theorem free {l : List Nat} (h : (chars l).all (fun c => c != Char.ofNat 32) = true) : ∀ c ∈ chars l, c ≠ Char.ofNat 32 := fun c hc => by
  have := List.all_eq_true.1 h c hc
  simpa using this
theorem words : wordsSigns Try.prog.initOrder.toList = chars w1 :: chars w2 :: chars w3 :: wordsSigns (chars rest) := by
  rw [init_, String.toList_ofList, words_cons _ _ (free (by kernel_rfl)), words_cons _ _ (free (by kernel_rfl)), words_cons _ _ (free (by kernel_rfl))]
theorem behind (X : List (List Char)) : behindMainWord (chars w1 :: chars w2 :: chars w3 :: X) = chars w3 :: X := by kernel_rfl
theorem strip (X : List (List Char)) : stripLifts liftWords (chars w3 :: X) = ([], chars w3 :: X) := by kernel_rfl
theorem mayEnter_of (P : Program) (X : List (List Char)) (h : wordsSigns P.initOrder.toList = chars w1 :: chars w2 :: chars w3 :: X) (h1 : P.laysLater = false) (h2 : P.bearsReflect = false) (h3 : P.doorFits [] = true) : P.mayEnter = true := by
  unfold Program.mayEnter
  rw [h, behind]
  simp only [strip, h1, h2, h3]
  kernel_rfl
theorem lifts_of (P : Program) (X : List (List Char)) (h : wordsSigns P.initOrder.toList = chars w1 :: chars w2 :: chars w3 :: X) : P.liftsFinal = false := by
  unfold Program.liftsFinal Program.headLifts
  rw [h, behind, strip]
  kernel_rfl
theorem make_of (P : Program) (X : List (List Char)) (h : wordsSigns P.initOrder.toList = chars w1 :: chars w2 :: chars w3 :: X) : P.make = some .cut := by
  unfold Program.make
  rw [h, behind]
  kernel_rfl
theorem mayEnter_ : Try.prog.mayEnter = true := mayEnter_of _ _ words (by kernel_rfl) (by kernel_rfl) (by kernel_rfl)
theorem lifts_ : Try.prog.liftsFinal = false := lifts_of _ _ words
theorem make_ : Try.prog.make = some .cut := make_of _ _ words
end Go.Proofs.YtmpmanfoiocfgaaX.Head
