/-
  THE LAW MendJoins, WALKED.
-/
import Derived.Test.YtbagecjkfcoapaaDoorMnK
namespace Go.Proofs.YtbagecjkfcoapaaDoor
open Go.RowKit

theorem str_join (s t : ByteArray) : (s ++ t).data.toList = s.data.toList ++ t.data.toList := by simp

set_option maxHeartbeats 2000000 in
/-- s: the first text cut and mended (c), t: the second one cut (d); x: both -/
theorem joins_walk (A : Nat → Addr) (B : Nat) (s t c0 c d x z : ByteArray) (m n b : Nat) (w : World) (hs : Box (s.size ≤ maxLen ∧ cutS s = c0)) (ht : Box (t.size ≤ maxLen ∧ cutS t = d)) (z0 : Box (c0.size ≤ 100000)) (hc : Box ((⟨(M.fix c0.data.toList).toArray⟩ : ByteArray) = c))
    (zc : c.size ≤ 1200) (zd : d.size ≤ 300) (zz : z.size ≤ 1200) (hx : c ++ d = x) (zx : Box (x.size ≤ 100000)) (zcb : Box (c.size ≤ 100000)) (zdb : Box (d.size ≤ 100000))
    (hm : Box ((M.places c.data.toList).length + 1 = m + 1)) (hn : Box ((M.places d.data.toList).length + 1 = n + 1)) (hmn : Box ((M.places x.data.toList).length + 1 = m + n + 1)) (hmz : m ≤ 1200) (hnz : n ≤ 300)
    (hz : Box ((⟨(M.fix d.data.toList).toArray⟩ : ByteArray) = z)) (hxz : Box ((⟨(M.fix x.data.toList).toArray⟩ : ByteArray) = c ++ z)) (hb1 : Box (M.badN x.data.toList = b)) (hb2 : Box (M.badN d.data.toList = b))
    (hcut : Box ((M.cuts (M.places x.data.toList))[m]? = some c.size)) (h0 : St A B w w) :
    Calls Tryd.prog 6 #[.string s, .string t] w fun e w' => e = .returned (.bool true) ∧ St A B w w' := by
  go_enter Tryd.func6, Tryd.ntmps6
  go_wp2_with fail
  refine (shown_st A B w _ h0).mono ?_; rintro e w1 ⟨rfl, h1⟩
  go_wp2_with fail
  refine (cut_b s _ _ hs).mono ?_; rintro e w2 ⟨rfl, rfl⟩
  go_wp2_with fail
  refine (rep_c _ _ hc z0 h1).mono ?_; rintro e w2 ⟨rfl, -, h2⟩
  go_wp2_with fail
  refine (cut_b t _ _ ht).mono ?_; rintro e w3 ⟨rfl, rfl⟩
  go_wp2_with fail
  refine (units_c _ _ _ ⟨rfl⟩ hmn zx h2).mono ?_; rintro e w3 ⟨⟨g, off, cap, rfl, HC⟩, -, h3⟩
  have hcap1 : m + n + 1 ≤ cap := by have := HC.out.2.1; have := hmn.out; omega
  have hcap2 : cap ≤ 9223372036854775807 := by have := HC.out.2.2.1; unfold maxLen at this; omega
  have HS3 := Box.mk h3
  clear h0 h1 h2 h3
  go_wp2_with fail
  refine (units_c _ _ _ ⟨rfl⟩ hm zcb HS3.out).mono ?_; rintro e w4 ⟨⟨g', off', cap', rfl, HC'⟩, hb4, h4⟩
  have HC4 := Box.mk (HC.out.below hb4)
  have HS4 := Box.mk h4
  clear hb4 h4 HC HS3 HC'
  go_wp2_with fail
  refine (rep_c _ _ hxz zx HS4.out).mono ?_; rintro e w5 ⟨rfl, hb5, h5⟩
  have HC5 := Box.mk (HC4.out.below hb5)
  have HS5 := Box.mk h5
  clear hb5 h5 HC4 HS4
  go_wp2_with fail
  refine (rep_c _ _ hz zdb HS5.out).mono ?_; rintro e w6 ⟨rfl, hb6, h6⟩
  have HC6 := Box.mk (HC5.out.below hb6)
  have HS6 := Box.mk h6
  clear hb6 h6 HC5 HS5
  go_wp2_with fail
  refine (bad_c _ _ hb1 zx HS6.out).mono ?_; rintro e w7 ⟨rfl, hb7, h7⟩
  have HC7 := Box.mk (HC6.out.below hb7)
  have HS7 := Box.mk h7
  clear hb7 h7 HC6 HS6
  go_wp2_with fail
  refine (bad_c _ _ hb2 zdb HS7.out).mono ?_; rintro e w8 ⟨rfl, hb8, h8⟩
  have HC8 := Box.mk (HC7.out.below hb8)
  have HS8 := Box.mk h8
  clear hb8 h8 HC7 HS7
  go_wp2_with fail
  refine (units_c _ _ _ ⟨rfl⟩ hn zdb HS8.out).mono ?_; rintro e w9 ⟨⟨g2, off2, cap2, rfl, HC2⟩, hb9, h9⟩
  have hc9 := HC8.out.below hb9
  have k0 : w9.cell? ⟨g, off + m, none⟩ = some (.int .i64 (c.size : Int)) := hc9.2.2.2 m _ hcut.out
  have HS9 := Box.mk h9
  clear hb9 h9 HC8 HS8 hc9 HC2
  go_wp2_with fail
  go_ret
  exact ⟨rfl, HS9.out⟩

theorem law_MendJoins (A : Nat → Addr) (B : Nat) (s t : ByteArray) (w : World) (hs : s.size ≤ maxLen) (ht : t.size ≤ maxLen) (hE : E A B w) (hB : B ≤ w.heap.size) :
    Calls Tryd.prog 6 #[.string s, .string t] w fun e w' => e = .returned (.bool true) ∧ Below w.heap.size w w' := by
  have zs := cutS_size s
  have zt := cutS_size t
  have hf := fix_len (cutS s).data.toList
  have hg := fix_len (cutS t).data.toList
  have hv := M.valid_fix (cutS s).data.toList
  rw [← size_eq] at hf hg
  obtain ⟨F, hF⟩ : ∃ F, M.fix (cutS s).data.toList = F := ⟨_, rfl⟩
  rw [hF] at hf hv
  obtain ⟨j1, j2, j3, j4⟩ := M.joins (cutS t).data.toList F hv
  have hp := places_le F
  have hq := places_le (cutS t).data.toList
  rw [← size_eq] at hq
  have hsz : (⟨F.toArray⟩ : ByteArray).size = F.length := by rw [size_eq]
  have hzz : (⟨(M.fix (cutS t).data.toList).toArray⟩ : ByteArray).size = (M.fix (cutS t).data.toList).length := by rw [size_eq]
  have hxl : ((⟨F.toArray⟩ : ByteArray) ++ cutS t).data.toList = F ++ (cutS t).data.toList := str_join _ _
  have hxs : ((⟨F.toArray⟩ : ByteArray) ++ cutS t).size = F.length + (cutS t).size := by rw [size_eq, hxl, List.length_append, ← size_eq]
  refine (joins_walk A B s t (cutS s) ⟨F.toArray⟩ (cutS t) (⟨F.toArray⟩ ++ cutS t) ⟨(M.fix (cutS t).data.toList).toArray⟩ (M.places F).length (M.places (cutS t).data.toList).length (M.badN (cutS t).data.toList) w ⟨⟨hs, rfl⟩⟩ ⟨⟨ht, rfl⟩⟩ ⟨by omega⟩ ⟨by rw [hF]⟩
    (by omega) zt (by omega) rfl ⟨by omega⟩ ⟨by omega⟩ ⟨by omega⟩ ⟨rfl⟩ ⟨rfl⟩ ⟨?_⟩ (by omega) (by omega) ⟨rfl⟩ ⟨?_⟩ ⟨?_⟩ ⟨rfl⟩ ⟨?_⟩ (St.start hE hB)).mono fun e w' ⟨he, h⟩ => ⟨he, h.b⟩
  · rw [hxl, M.places_len, j4, M.places_len, M.places_len]
  · rw [hxl, j1, ← str_eta ((⟨F.toArray⟩ : ByteArray) ++ ⟨(M.fix (cutS t).data.toList).toArray⟩), str_join]
  · rw [hxl, j2]
  · have hd : ((M.cuts (M.places F)).dropLast).length = (M.places F).length := by rw [List.length_dropLast, M.cuts_len]; omega
    rw [hxl, j3, List.getElem?_append_right (by omega), hd, Nat.sub_self, List.getElem?_map, M.cuts_zero, hsz]
    simp
end Go.Proofs.YtbagecjkfcoapaaDoor
