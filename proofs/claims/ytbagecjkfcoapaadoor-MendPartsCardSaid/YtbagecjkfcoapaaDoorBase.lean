/-
  THE COMMON HEAD OF ALL WALKS: the kit's texts under one name, and small lemmas on what calls give back. Nothing of any one function.
-/
import Derived.Test.YtbagecjkfcoapaaDoorProg
import Derived.Test.YtbagecjkfcoapaaDoorUtf
import Derived.WalkKit
import Derived.WalkSpells
import Derived.WalkLawsBesides
import Derived.Handy
import Derived.Lib.Hide
import Derived.Deep.QuietTactic
import Derived.BigQuiet
import Derived.Deep.RegionHeld3
import Derived.Deep.RegionWith
import Derived.Deep.DeepCutAuto
import Derived.StillTailTactics
import Derived.MapKept
import Derived.LaidEql
import Derived.Stop.Asserts
import Derived.Stop.LaidTwo
import Derived.RowKitTokens
import Derived.Laws.OwnMore
import Derived.Deep.Draws
namespace Go.Proofs.YtbagecjkfcoapaaDoor
open Go.RowKit

/-- a fact kept out of every tactic's sight -/
structure Box (p : Prop) : Prop where
  out : p

theorem ret_bool {a b : Bool} (h : a = b) : Ending.returned (.bool a) = .returned (.bool b) := by rw [h]
theorem ret_int {k : IntKind} {a b : Int} (h : a = b) : Ending.returned (.int k a) = .returned (.int k b) := by rw [h]
theorem ret1 {a a' : Value} (h : a = a') : Ending.returned a = .returned a' := by rw [h]
theorem ret2 {a b a' b' : Value} (h : a = a') (h2 : b = b') : Ending.returned (.tuple #[a, b]) = .returned (.tuple #[a', b']) := by rw [h, h2]
theorem ret3 {a b c a' b' c' : Value} (h : a = a') (h2 : b = b') (h3 : c = c') : Ending.returned (.tuple #[a, b, c]) = .returned (.tuple #[a', b', c']) := by rw [h, h2, h3]
theorem vint {k : IntKind} {a b : Int} (h : a = b) : Value.int k a = .int k b := by rw [h]
theorem vbool {a b : Bool} (h : a = b) : Value.bool a = .bool b := by rw [h]
theorem vstr {a b : ByteArray} (h : a.data.toList = b.data.toList) : Value.string a = .string b := by
  congr 1; cases a; cases b; congr 1; exact Array.toList_inj.1 h

theorem size_eq (s : ByteArray) : s.size = s.data.toList.length := by rw [← ByteArray.size_data, Array.length_toList]

/-- a text's byte at a place that is known -/
theorem idx_of {P : Program} {T : TypeId} (hT : P.underlying T = some .string) (s : ByteArray) (k : Nat) {d : UInt8} (hd : s.data.toList[k]? = some d) (i : Int) (hi : i = k) :
    ∀ w, (Instr.index T (.string s) (.int .i64 i)).run P w = .ok (.int .u8 (U.b2i d)) w := by
  intro w
  subst hi
  have hk : k < s.size := by rw [size_eq]; exact (List.getElem?_eq_some_iff.1 hd).1
  rw [run_index_string w _ _ _ _ hT, dif_pos (by omega)]
  have : s[k]'hk = d := by
    have := (List.getElem?_eq_some_iff.1 hd).2
    rw [← this]; rfl
  simp [this, U.b2i]

/-- a row of bytes that has just been laid, as a text -/
theorem conv_bytes {P : Program} {src e dst : TypeId} (hs : P.underlying src = some (.slice e)) (he : P.underlying e = some (.int .u8)) (hd : P.underlying dst = some .string) (C : List Int) (w : World) (cap : Nat) (n : Nat) (hn : n = C.length) (t : TypeId) :
    (convert src dst (.slice (some ⟨w.heap.size, 0, none⟩) n cap)).run P (w.alloc (.cells (C.map (Value.int .u8)).toArray t)) = .ok (.string (strOfNums C)) (w.alloc (.cells (C.map (Value.int .u8)).toArray t)) := by
  subst hn
  refine run_convert_bytes_arg _ src e hs he w.heap.size 0 C.length cap C rfl (fun i hi => ?_) dst hd
  rw [cell_of_row _ _ _ _ _ _ (heap_alloc_new w _)]
  simp [hi]

theorem heap_new (w : World) (o : Obj) (n : Nat) (hn : n = w.heap.size) : (w.alloc o).heap[n]? = some o := by subst hn; exact heap_alloc_new w o
theorem set_push {α : Type} (a : Array α) (x y : α) : (a.push x).setIfInBounds a.size y = a.push y := by
  apply Array.ext
  · simp
  · intro i h1 h2
    rw [Array.getElem_setIfInBounds (by simpa using h1)]
    split
    · rename_i h; subst h; simp
    · rename_i h
      have : i < a.size := by simp at h1; omega
      simp [Array.getElem_push, this]
theorem set_new (w : World) (o o' : Obj) (n : Nat) (hn : n = w.heap.size) : ({ w.alloc o with heap := (w.alloc o).heap.setIfInBounds n o' } : World) = w.alloc o' := by
  subst hn
  have e : (w.alloc o).heap.setIfInBounds w.heap.size o' = w.heap.push o' := set_push _ _ _
  rw [e]; rfl

/- A MAP THAT THE CALL HAS JUST LAID: a store of a new key, a look-up. -/
theorem map_ins {P : Program} {T K E : TypeId} {q : IntKind} (hm : P.underlying T = some (.map K E)) (hk : P.underlying K = some (.int q)) (w : World) (es : Array MapEntry) (clk : Nat) (k : Int) (v : Value) (n : Nat) (hn : n = w.heap.size)
    (hf : Instr.findNow (.int q) (.int q k) es.toList 0 = some none) :
    (Instr.mapUpdate T (.map (some n)) (.int q k) v).run P (w.alloc (.map es clk)) = .ok () (w.alloc (.map (es.push ⟨.int q k, v, clk⟩) (clk + 1))) := by
  have hg := heap_new w (.map es clk) n hn
  have h1 : (Instr.checkKey false 10000 K (.int q k)).run P (w.alloc (.map es clk)) = .ok () (w.alloc (.map es clk)) := MapKept.run_checkKey hk (by simp [MapKept.IsKey]) false 9999
  have h2 := MapKept.run_findKey (P := P) (w := w.alloc (.map es clk)) hk hf
  unfold Instr.mapUpdate
  simp only [Sem.run_bind, run_underlying hm, Result.andThen, MapKept.run_getObj_map hg, h1, h2, MapKept.run_setObj_map _ hg, set_new w _ _ n hn]
theorem map_look {P : Program} {T K E : TypeId} {q : IntKind} (hm : P.underlying T = some (.map K E)) (hk : P.underlying K = some (.int q)) (W : World) (es : Array MapEntry) (clk : Nat) (k : Int) (n : Nat) (hg : W.heap[n]? = some (.map es clk))
    (i : Nat) (v : Value) (hf : Instr.findNow (.int q) (.int q k) es.toList 0 = some (some (i, v))) :
    (Instr.lookup T (.map (some n)) (.int q k) true).run P W = .ok (.tuple #[v, .bool true]) W := by
  have h1 : (Instr.checkKey es.isEmpty 10000 K (.int q k)).run P W = .ok () W := MapKept.run_checkKey hk (by simp [MapKept.IsKey]) _ 9999
  have h2 := MapKept.run_findKey (P := P) (w := W) hk hf
  unfold Instr.lookup
  simp only [Sem.run_bind, run_underlying hm, Result.andThen, MapKept.run_getObj_map hg, h1, h2, Sem.run_pure, if_true]
theorem map_look_none {P : Program} {T K E : TypeId} {q : IntKind} (hm : P.underlying T = some (.map K E)) (hk : P.underlying K = some (.int q)) (W : World) (es : Array MapEntry) (clk : Nat) (k : Int) (n : Nat) (hg : W.heap[n]? = some (.map es clk))
    (z : Value) (hz : (zeroValue E).run P W = .ok z W) (hf : Instr.findNow (.int q) (.int q k) es.toList 0 = some none) :
    (Instr.lookup T (.map (some n)) (.int q k) true).run P W = .ok (.tuple #[z, .bool false]) W := by
  have h1 : (Instr.checkKey es.isEmpty 10000 K (.int q k)).run P W = .ok () W := MapKept.run_checkKey hk (by simp [MapKept.IsKey]) _ 9999
  have h2 := MapKept.run_findKey (P := P) (w := W) hk hf
  unfold Instr.lookup
  simp only [Sem.run_bind, run_underlying hm, Result.andThen, MapKept.run_getObj_map hg, h1, h2, Sem.run_pure, if_true, hz]

theorem run_store_float (P : Program) (w : World) (a : Addr) (m : Mode) (k : FloatKind) (b : Nat) : (store a (.float k b) m).run P w = stored P w a (.float k b) m := run_store P w a _ m rfl
theorem run_store_complex (P : Program) (w : World) (a : Addr) (m : Mode) (k : FloatKind) (x y : Nat) : (store a (.complex k x y) m).run P w = stored P w a (.complex k x y) m := run_store P w a _ m rfl

/- A BLOCK THAT IS KNOWN WHOLE. -/
def Blk (w : World) (g : Nat) (t : TypeId) (cs : Array Value) : Prop := w.heap[g]? = some (.cells cs t (0, 0))
section
variable {w w' : World} {g : Nat} {t : TypeId} {cs : Array Value}
theorem Blk.lt (h : Blk w g t cs) : g < w.heap.size := by
  rcases Nat.lt_or_ge g w.heap.size with hlt | hge
  · exact hlt
  · unfold Blk at h; rw [Array.getElem?_eq_none hge] at h; cases h
theorem Blk.cell (h : Blk w g t cs) (i : Nat) : w.cell? ⟨g, i, none⟩ = cs[i]? := cell_of_row w g i cs t (0, 0) h
theorem Blk.frozen (h : Blk w g t cs) (i : Nat) : w.frozen? ⟨g, i, none⟩ = false := by
  unfold Blk at h
  simp [World.frozen?, h]
theorem Blk.new (w : World) (t : TypeId) (cs : Array Value) : Blk (w.alloc (.cells cs t)) w.heap.size t cs := heap_alloc_new w _
theorem Blk.drewN (h : Blk w g t cs) (n : Nat) : Blk (w.drewN n) g t cs := h
theorem Blk.alloc (h : Blk w g t cs) (o : Obj) : Blk (w.alloc o) g t cs := (Below.heap_alloc w o g h.lt).trans h
theorem Blk.set_ (h : Blk w g t cs) (i : Nat) (u : Value) : Blk (w.setCell ⟨g, i, none⟩ u) g t (cs.setIfInBounds i u) := by
  unfold Blk at h ⊢
  simp [World.setCell, Array.getElem?_modify, h]
theorem Blk.far (h : Blk w g t cs) {p : Addr} (hp : g ≠ p.block) (u : Value) : Blk (w.setCell p u) g t cs := (Below.heap_setCell w p u g hp).trans h
theorem Blk.below {B : Nat} (h : Blk w g t cs) (hb : Below B w w') (hg : g < B) : Blk w' g t cs := (hb.block g hg).trans h
theorem Blk.grown {row : Option Nat} (h : Blk w g t cs) (hb : w.grownBy w' row) (hg : some g ≠ row) : Blk w' g t cs := (hb.block g h.lt hg).trans h
end

theorem below_drewN {B : Nat} {a w : World} (h : Below B a w) (n : Nat) : Below B a (w.drewN n) := ⟨h.os, h.tape, h.output, h.size, h.block⟩
theorem only_drewN {a w : World} {row : Option Nat} (h : a.grownBy w row) (n : Nat) : a.grownBy (w.drewN n) row := ⟨h.os, h.tape, h.output, h.size, h.block⟩
theorem only_drew {a w : World} {row : Option Nat} (h : a.grownBy w row) : a.grownBy w.drew row := ⟨h.os, h.tape, h.output, h.size, h.block⟩
theorem only_alloc {a w : World} {row : Option Nat} (h : a.grownBy w row) (o : Obj) : a.grownBy (w.alloc o) row :=
  ⟨h.os, h.tape, h.output, Nat.le_trans h.size (by simp), fun i hi hne => (Below.heap_alloc w o i (Nat.lt_of_lt_of_le hi h.size)).trans (h.block i hi hne)⟩
theorem only_setCell {a w : World} {g : Nat} (h : a.grownBy w (some g)) {p : Addr} (hp : p.block = g ∨ a.heap.size ≤ p.block) (u : Value) : a.grownBy (w.setCell p u) (some g) :=
  ⟨h.os, h.tape, h.output, by simpa [World.setCell] using h.size, fun i hi hne => (Below.heap_setCell w p u i (by
    rintro rfl
    rcases hp with hp | hp
    · exact hne (by rw [hp])
    · omega)).trans (h.block i hi hne)⟩
theorem only_of_below {a w : World} (h : Below a.heap.size a w) (row : Option Nat) : a.grownBy w row := ⟨h.os, h.tape, h.output, h.size, fun i hi _ => h.block i hi⟩
theorem only_trans {a b c : World} {row : Option Nat} (h : a.grownBy b row) (k : b.grownBy c row) : a.grownBy c row :=
  ⟨k.os.trans h.os, k.tape.trans h.tape, k.output.trans h.output, Nat.le_trans h.size k.size, fun i hi hne => (k.block i (Nat.lt_of_lt_of_le hi h.size) hne).trans (h.block i hi hne)⟩
theorem only_below {a b : World} {g : Nat} (h : a.grownBy b (some g)) {B : Nat} (hB : B ≤ g) (hB2 : B ≤ a.heap.size) : Below B a b :=
  ⟨h.os, h.tape, h.output, h.size, fun i hi => h.block i (by omega) (by intro e; cases e; omega)⟩

/- THE ERRORS THAT THE PROGRAM's VARIABLES HOLD. -/
/-- the variable g holds the error at A g; each lies below B, in a row of its own -/
structure Env (S : List Nat) (TP : TypeId) (A : Nat → Addr) (B : Nat) (w : World) : Prop where
  var : ∀ g ∈ S, w.cell? ⟨g, 0, none⟩ = some (.iface TP (.pointer (some (A g))))
  row : ∀ g ∈ S, ∃ c t, w.heap[(A g).block]? = some (.cells c t (0, 0))
  lt : ∀ g ∈ S, g < B ∧ (A g).block < B
  ne : ∀ g ∈ S, ∀ h ∈ S, g ≠ h → A g ≠ A h
theorem Env.below {S : List Nat} {TP : TypeId} {A : Nat → Addr} {B : Nat} {w w' : World} (h : Env S TP A B w) (hb : Below B w w') : Env S TP A B w' where
  var g hg := (hb.cell (p := ⟨g, 0, none⟩) (h.lt g hg).1).trans (h.var g hg)
  row g hg := by
    obtain ⟨c, t, hr⟩ := h.row g hg
    exact ⟨c, t, (hb.block _ (h.lt g hg).2).trans hr⟩
  lt := h.lt
  ne := h.ne

/- A SCOPE WHOSE GOTOS ALL LEAD ON TO ONE LABEL: the rest behind the label is walked where the jump is met. -/
def fwd (l : Nat) (J : Act → World → Prop) (Q : Exit → Act → World → Prop) : Exit → Act → World → Prop
  | .goto l', a, w => l' = l ∧ J a w
  | e, a, w => Q e a w
section
variable {l : Nat} {J : Act → World → Prop} {Q : Exit → Act → World → Prop} {a : Act} {w : World}
@[go_sem] theorem fwd_normal : fwd l J Q .normal a w = Q .normal a w := rfl
@[go_sem] theorem fwd_exit (id : Nat) : fwd l J Q (.exit id) a w = Q (.exit id) a w := rfl
@[go_sem] theorem fwd_ret : fwd l J Q .ret a w = Q .ret a w := rfl
@[go_sem] theorem fwd_panic (ch : List PanicEntry) : fwd l J Q (.panic ch) a w = Q (.panic ch) a w := rfl
end
theorem wp_scope_fwd {P : Program} {a : Act} {w : World} {Q : Exit → Act → World → Prop} {c rest : Code} (l : Nat) (hf : findLabel c l = some rest)
    (h : c.wp P (fwd l (fun a w => rest.wp P (Exit.noGoto Q) a w) Q) a w) : (Code.scope c).wp P Q a w := by
  refine wp_scope_jumps l (fun a w => rest.wp P (Exit.noGoto Q) a w) (fun _ _ => 0) hf (Code.wp_mono ?_ h) (fun a w hJ => Code.wp_mono ?_ hJ)
  · intro e a w he
    cases e <;> exact he
  · intro e a w he
    cases e with
    | goto l' => exact (he : False).elim
    | _ => exact he

theorem slice_str {P : Program} {T : TypeId} (hT : P.underlying T = some .string) (s : ByteArray) (lo hi : Int) (h : 0 ≤ lo ∧ lo ≤ hi ∧ hi ≤ s.size) :
    ∀ W, (Instr.slice T (.string s) (some (.int .i64 lo)) (some (.int .i64 hi)) none).run P W = .ok (.string (s.extract lo.toNat hi.toNat)) W := by
  intro W
  rw [run_slice_string_if W _ _ _ _ _ _ hT, if_pos (by omega), if_pos (by omega)]

theorem bytes_cells (W : World) (e : TypeId) (s : ByteArray) (cap : Nat) (fr : Nat × Nat) (j : Nat) (d : UInt8) (hd : s.data.toList[j]? = some d) :
    (W.alloc (.cells (bytesRow s cap) e fr)).cell? ⟨W.heap.size, j, none⟩ = some (.int .u8 (U.b2i d)) := by
  rw [World.cell?_alloc_mark]
  have hj : j < s.data.toList.length := (List.getElem?_eq_some_iff.1 hd).1
  have hd' : s.data[j]? = some d := by rw [← hd, Array.getElem?_toList]
  unfold bytesRow
  rw [Array.getElem?_append_left (by simpa using hj), Array.getElem?_map, hd']
  rfl

theorem ofInt_i64 (a : Nat) (ha : a < 9223372036854775808) : (BitVec.ofInt 64 (a : Int)).toNat = a := by
  rw [BitVec.ofInt_natCast, BitVec.toNat_ofNat]; exact Nat.mod_eq_of_lt (by omega)
theorem i64_and_nat (a b : Nat) (ha : a < 9223372036854775808) (hb : b < 9223372036854775808) : bits .and .i64 (a : Int) (b : Int) = ((a &&& b : Nat) : Int) := by
  have hx : a &&& b < 2 ^ 63 := Nat.and_lt_two_pow _ (by omega)
  show IntKind.i64.wrap ((BitVec.ofInt 64 (a : Int) &&& BitVec.ofInt 64 (b : Int)).toNat : Int) = _
  rw [BitVec.toNat_and, ofInt_i64 a ha, ofInt_i64 b hb, IntKind.wrap_i64]
  omega
theorem i64_or_nat (a b : Nat) (ha : a < 9223372036854775808) (hb : b < 9223372036854775808) : bits .or .i64 (a : Int) (b : Int) = ((a ||| b : Nat) : Int) := by
  have hx : a ||| b < 2 ^ 63 := Nat.or_lt_two_pow (by omega) (by omega)
  show IntKind.i64.wrap ((BitVec.ofInt 64 (a : Int) ||| BitVec.ofInt 64 (b : Int)).toNat : Int) = _
  rw [BitVec.toNat_or, ofInt_i64 a ha, ofInt_i64 b hb, IntKind.wrap_i64]
  omega
theorem and_63 (y : Int) (h0 : 0 ≤ y) (h1 : y < 9223372036854775808) : bits .and .i64 y 63 = y % 64 := by
  obtain ⟨k, rfl⟩ := Int.eq_ofNat_of_zero_le h0
  have := i64_and_nat k 63 (by omega) (by omega)
  rw [show ((63 : Nat) : Int) = 63 from rfl] at this
  rw [this, show k &&& 63 = k % 64 from Nat.and_two_pow_sub_one_eq_mod k 6]
  omega
theorem or_64 (x z : Int) (h0 : 0 ≤ x) (h1 : x < 4294967296) (h2 : 0 ≤ z) (h3 : z < 64) : bits .or .i64 (x * 64) z = x * 64 + z := by
  obtain ⟨k, rfl⟩ := Int.eq_ofNat_of_zero_le h0
  obtain ⟨l, rfl⟩ := Int.eq_ofNat_of_zero_le h2
  have := i64_or_nat (2 ^ 6 * k) l (by omega) (by omega)
  rw [← Nat.two_pow_add_eq_or_of_lt (by omega) k] at this
  rw [show (k : Int) * 64 = ((2 ^ 6 * k : Nat) : Int) by omega, this]
  omega

/- A REGION THAT DRAWS ITS ORDER, ITS OPERATIONS READING AND CALLING IN WORLDS OF ONE CLASS. -/
structure CW (Inv : World → Prop) where
  w : World
  h : Inv w
theorem wp_region_class {P : Program} {id : Nat} {Q : Exit → Act → World → Prop} {a : Act} {w : World} {l : List Oper} (Inv : World → Prop) (hm : P.follows .mixedOrders = true) (hB : Region.lexB .any l.toArray = true) (h0 : Inv w.drew)
    (h : Nonempty (CW Inv) → wpQuiet P l.toArray (fun w' => ∃ n : CW Inv, w' = n.w) (fun a' => ∀ w', (∃ n : CW Inv, w' = n.w) → Q .normal a' w') l a) : (Code.region id l.toArray true).wp P Q a w :=
  wp_region_quiet (C := fun w' => ∃ n : CW Inv, w' = n.w) hm hB ⟨⟨_, h0⟩, rfl⟩ (by simpa using h ⟨⟨_, h0⟩⟩)
theorem class_call {P : Program} {f : FuncId} {args : Array Value} {v : Value} {W : World} {Inv : World → Prop} (h : Calls P f args W fun e w' => e = .returned v ∧ Below W.heap.size W w') (hI : ∀ w', Below W.heap.size W w' → Inv w') :
    Calls P f args W fun e w'' => e = .returned v ∧ ∃ m : CW Inv, w'' = m.w := h.mono fun _ _ ⟨he, hb⟩ => ⟨he, ⟨_, hI _ hb⟩, rfl⟩
theorem class_same {P : Program} {f : FuncId} {args : Array Value} {v : Value} {W : World} {Inv : World → Prop} (h : Calls P f args W fun e w' => e = .returned v ∧ W = w') (hI : Inv W) :
    Calls P f args W fun e w'' => e = .returned v ∧ ∃ m : CW Inv, w'' = m.w := h.mono fun _ _ ⟨he, hb⟩ => ⟨he, ⟨_, hb ▸ hI⟩, rfl⟩
end Go.Proofs.YtbagecjkfcoapaaDoor
