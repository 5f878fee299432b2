/-
  Bytes as whole numbers: what strings and rows of bytes say of one another; conditions: each number is a byte where that is said.
-/
import Derived.Test.YtagjmphkfeiiiaaWAll
import Derived.Test.YtagjmphkfeiiiaaWLast
import Derived.Laws.BitsLemmas
import Derived.Laws.Strings
namespace Go.Proofs.Ytagjmphkfeiiiaa.Ya
open Go.RowKit Go.Proofs.YtagjmphkfeiiiaaW.PrintWords Go.Proofs.YtagjmphkfeiiiaaW.PrintLast Go.Proofs.YtagjmphkfeiiiaaW.PrintMore
def Bytes (l : List Int) : Prop := ∀ x ∈ l, 0 ≤ x ∧ x < 256
theorem Bytes.nil : Bytes [] := fun x h => by simp at h
theorem Bytes.append {a b : List Int} (h : Bytes a) (k : Bytes b) : Bytes (a ++ b) := fun x hx => by
  rcases List.mem_append.1 hx with h1 | h1
  · exact h x h1
  · exact k x h1
theorem Bytes.right {a b : List Int} (h : Bytes (a ++ b)) : Bytes b := fun x hx => h x (List.mem_append_right _ hx)
theorem Bytes.cons {x : Int} {l : List Int} (h0 : 0 ≤ x) (h1 : x < 256) (h : Bytes l) : Bytes (x :: l) := fun y hy => by
  rcases List.mem_cons.1 hy with rfl | hy
  · exact ⟨h0, h1⟩
  · exact h y hy
theorem bytes_bytesOf (s : ByteArray) : Bytes (bytesOf s) := fun x hx => by
  simp only [bytesOf, List.mem_map] at hx
  obtain ⟨b, _, rfl⟩ := hx
  have := b.toNat_lt
  omega
theorem str_size (l : List Int) : (strOfNums l).size = l.length := by
  show (strOfNums l).data.size = _
  simp [strOfNums]
theorem str_bytesOf (s : ByteArray) : strOfNums (bytesOf s) = s := by
  apply ByteArray.ext
  apply Array.ext'
  simp only [strOfNums, bytesOf, List.map_map]
  refine (List.map_congr_left (g := id) fun x _ => ?_).trans (List.map_id _)
  simp
theorem bytesOf_str {l : List Int} (h : Bytes l) : bytesOf (strOfNums l) = l := by
  simp only [bytesOf, strOfNums, List.map_map]
  refine (List.map_congr_left (g := id) fun x hx => ?_).trans (List.map_id l)
  have hb := h x hx
  simp only [Function.comp, UInt8.toNat_ofNat', id]
  omega
theorem str_inj {a b : List Int} (ha : Bytes a) (hb : Bytes b) (h : strOfNums a = strOfNums b) : a = b := by
  rw [← bytesOf_str ha, h, bytesOf_str hb]
theorem toList_eq (s : ByteArray) : s.toList = s.data.toList := by
  exact Go.ByteArray.toList_eq s
theorem toList_inj {s t : ByteArray} (h : s.toList = t.toList) : s = t := by
  rw [toList_eq, toList_eq] at h
  exact ByteArray.ext (Array.ext' h)
theorem extract_data' (s : ByteArray) (i j : Nat) : (s.extract i j).data.toList = (s.data.toList.take j).drop i := by
  simp [ByteArray.data_extract, List.drop_take]
theorem str_take (a b : List Int) : (strOfNums (a ++ b)).extract 0 a.length = strOfNums a := by
  apply ByteArray.ext
  apply Array.ext'
  rw [extract_data']
  simp [strOfNums]
theorem str_drop (a b : List Int) : (strOfNums (a ++ b)).extract a.length (strOfNums (a ++ b)).size = strOfNums b := by
  apply ByteArray.ext
  apply Array.ext'
  rw [extract_data', str_size, List.take_of_length_le (by simp [strOfNums])]
  simp [strOfNums]
theorem str_take' (l : List Int) (n : Nat) : (strOfNums l).extract 0 n = strOfNums (l.take n) := by
  apply ByteArray.ext
  apply Array.ext'
  rw [extract_data']
  simp [strOfNums, List.map_take]
theorem str_drop' (l : List Int) (n : Nat) : (strOfNums l).extract n (strOfNums l).size = strOfNums (l.drop n) := by
  apply ByteArray.ext
  apply Array.ext'
  rw [extract_data', str_size]
  simp only [strOfNums]
  rw [List.take_of_length_le (by simp), List.map_drop]
theorem bt_str (l : List Int) (hb : Bytes l) (i : Nat) (h : i < l.length) : bt (strOfNums l) (i : Int) = l[i] := by
  have h2 := rd_bytesOf (strOfNums l) (i : Int)
  rw [← h2, bytesOf_str hb]
  simp [rd, h]
theorem bt_str0 (x : Int) (l : List Int) (h0 : 0 ≤ x) (h1 : x < 256) : bt (strOfNums (x :: l)) 0 = x := by
  unfold bt
  have hs : (0 : Int).toNat < (strOfNums (x :: l)).size := by rw [str_size]; simp
  rw [dif_pos hs]
  show ((strOfNums (x :: l)).data[0]).toNat = x
  simp [strOfNums]
  omega
theorem one_toList (x : Int) : (strOfNums [x]).toList = [UInt8.ofNat x.toNat] := by
  rw [toList_eq]
  simp [strOfNums]
theorem str_ne_nil (x : Int) (l : List Int) : ¬ (strOfNums (x :: l)).toList = ([] : List UInt8) := by
  rw [toList_eq]
  simp [strOfNums]
end Go.Proofs.Ytagjmphkfeiiiaa.Ya
