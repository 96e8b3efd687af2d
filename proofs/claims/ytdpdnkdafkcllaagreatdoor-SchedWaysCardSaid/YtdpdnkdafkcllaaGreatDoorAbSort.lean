import Derived.Test.YtdpdnkdafkcllaaGreatDoorAbW
import Derived.Shelf.SortM.Plain
import Derived.Shelf.SortM.SortNone
namespace Go.Ab
open Go
set_option linter.all false
def putIn (x:Int):List Int→List Int
 | []=>[x]
 | y::l=>if x≤y then x::y::l else y::putIn x l
def isort:List Int→List Int
 | []=>[]
 | x::l=>putIn x (isort l)
theorem putIn_perm (x:Int):∀ l,(putIn x l).Perm (x::l)
 | []=>List.Perm.refl _
 | y::l=>by
  rw [putIn]
  split
  ·exact List.Perm.refl _
  ·exact((putIn_perm x l).cons y).trans (List.Perm.swap x y l)
theorem isort_perm:∀ l,(isort l).Perm l
 | []=>List.Perm.refl _
 | x::l=>(putIn_perm x (isort l)).trans ((isort_perm l).cons x)
theorem putIn_sorted (x:Int):∀ {l:List Int},l.Pairwise (·≤·)→(putIn x l).Pairwise (·≤·)
 | [],_=>by simp [putIn]
 | y::l,h=>by
  rw [putIn]
  rw [List.pairwise_cons] at h
  split
  ·rename_i hxy
   refine List.pairwise_cons.2 ⟨fun z hz=>?_,List.pairwise_cons.2 h⟩
   rcases List.mem_cons.1 hz with rfl | hz
   ·exact hxy
   ·have:=h.1 z hz;omega
  ·rename_i hxy
   refine List.pairwise_cons.2 ⟨fun z hz=>?_,putIn_sorted x h.2⟩
   rcases List.mem_cons.1 ((putIn_perm x l).mem_iff.1 hz) with rfl | hz
   ·omega
   ·exact h.1 z hz
theorem isort_sorted:∀ l,(isort l).Pairwise (·≤·)
 | []=>List.Pairwise.nil
 | x::l=>putIn_sorted x (isort_sorted l)
theorem isort_merge (l:List Int):isort l=l.mergeSort fun x y=>decide (x≤y):=by
 have h1:=isort_sorted l
 have h2:(l.mergeSort fun x y=>decide (x≤y)).Pairwise fun x y=>decide (x≤y)=true:=
  List.pairwise_mergeSort (fun a b c hab hbc=>by simp at hab hbc ⊢;omega) (fun a b=>by simp;omega) l
 have h2:(l.mergeSort fun x y=>decide (x≤y)).Pairwise (·≤·):=h2.imp (by simp)
 have hp:(isort l).Perm (l.mergeSort fun x y=>decide (x≤y)):=(isort_perm l).trans (List.mergeSort_perm l _).symm
 exact hp.eq_of_pairwise (fun a b _ _ h1 h2=>by omega) h1 h2
section
variable {P:Program}
end
end Go.Ab
