/- Texts of this claim. -/
import Derived.Laws.RangeAny
import Derived.Lib.IndexBytes
import Derived.Test.YtdenoeakcflnmaaGreatDoorH8

set_option maxHeartbeats 2000000
namespace Go.Proofs.YtdenoeakcflnmaaGreatDoor
section
open Go.RowKit
theorem aiU:∀ x:Fin 64,bits .or .u8 128 (x.val:Int)=128+(x.val:Int):=by decide +kernel
theorem ak9:∀ x:Fin 32,bits .or .u8 192 (x.val:Int)=192+(x.val:Int):=by decide +kernel
theorem adx:∀ x:Fin 16,bits .or .u8 224 (x.val:Int)=224+(x.val:Int):=by decide +kernel
theorem alz:∀ x:Fin 8,bits .or .u8 240 (x.val:Int)=240+(x.val:Int):=by decide +kernel
theorem Fg (x:Int) (h0:0<=x) (h1:x<64):bits .or .u8 128 x=128+x:=by
 have:=aiU ⟨x.toNat,by omega⟩;simpa [Int.toNat_of_nonneg h0] using this
theorem ahz (x:Int) (h0:0<=x) (h1:x<32):bits .or .u8 192 x=192+x:=by
 have:=ak9 ⟨x.toNat,by omega⟩;simpa [Int.toNat_of_nonneg h0] using this
theorem ano (x:Int) (h0:0<=x) (h1:x<16):bits .or .u8 224 x=224+x:=by
 have:=adx ⟨x.toNat,by omega⟩;simpa [Int.toNat_of_nonneg h0] using this
theorem aiO (x:Int) (h0:0<=x) (h1:x<8):bits .or .u8 240 x=240+x:=by
 have:=alz ⟨x.toNat,by omega⟩;simpa [Int.toNat_of_nonneg h0] using this
theorem zA (x:Int) (h0:0<=x) (h1:x<9223372036854775808):bits .and .i64 x 63 % 256=x % 64:=by rw [Yr x h0 h1];omega
theorem Yp (r:Int) (w:World) :
  Calls Tryz.prog 94 #[.int .i64 r] w λe w'=>e = .returned (.bool (U.right r))/\w=w':=by
 go_enter Tryz.func94,Tryz.ntmps94
 go_wp2
 all_goals go_ret
 all_goals exact⟨aI (by first | (simp [U.right, *];done) | (simp [U.right];omega)),rfl⟩
theorem akU (r:Int) (g:Nat) (w:World) (h0:0<=r) (h1:r<2048) (hg:aj w g 5 #[.int .u8 192, .int .u8 128]) :
  Calls Tryz.prog 96 #[.int .i64 r, .slice (some ⟨g,0,none⟩) 2 2] w λe w'=>e = .returned (.string (strOfNums [192+r / 64,128+r % 64]))/\Below w.heap.size w w':=by
 have hmk:∀ w,(Instr.makeSlice 94 (.int .i64 2) (.int .i64 2)).run Tryz.prog w = .ok (.slice (some ⟨w.heap.size,0,none⟩) 2 2) (w.alloc (.cells #[.int .u8 0, .int .u8 0] 5)):=λ_=>by kernel_rfl
 have c0:w.cell? ⟨g,0,none⟩=some (.int .u8 192):=(hg.cell 0).trans rfl;have c1:w.cell? ⟨g,1,none⟩=some (.int .u8 128):=(hg.cell 1).trans rfl;have hlt:=hg.lt;have cc:=λ(w:World) (a b:Int)=>OZ (P:=Tryz.prog) (src:=94) (dst:=9) Tryz.underlying94 Tryz.underlying5 Tryz.underlying9 [a,b] w 2 2 rfl 5
 simp only [List.map_cons,List.map_nil] at cc;have E0:=bx (show bits .or .u8 192 (bits .and .i64 (r / 64) 63 % 256)=192+r / 64 by rw [zA _ (by omega) (by omega),ahz _ (by omega) (by omega)];try omega);have E1:=bx (show bits .or .u8 128 (bits .and .i64 (r) 63 % 256)=128+r % 64 by rw [zA _ (by omega) (by omega),Fg _ (by omega) (by omega)];try omega);clear hg
 go_enter Tryz.func96,Tryz.ntmps96
 go_wp2_with fail
 go_rounds 3
 go_ret
 exact⟨uS (by rw [<- E0.o,<- E1.o];rfl),(Below.refl _ _).alloc (Nat.le_refl _) _⟩
theorem ajP (r:Int) (g:Nat) (w:World) (h0:0<=r) (h1:r<65536) (hg:aj w g 5 #[.int .u8 224, .int .u8 128, .int .u8 128]) :
  Calls Tryz.prog 96 #[.int .i64 r, .slice (some ⟨g,0,none⟩) 3 3] w λe w'=>e = .returned (.string (strOfNums [224+r / 4096,128+r / 64 % 64,128+r % 64]))/\Below w.heap.size w w':=by
 have hmk:∀ w,(Instr.makeSlice 94 (.int .i64 3) (.int .i64 3)).run Tryz.prog w = .ok (.slice (some ⟨w.heap.size,0,none⟩) 3 3) (w.alloc (.cells #[.int .u8 0, .int .u8 0, .int .u8 0] 5)):=λ_=>by kernel_rfl
 have c0:w.cell? ⟨g,0,none⟩=some (.int .u8 224):=(hg.cell 0).trans rfl;have c1:w.cell? ⟨g,1,none⟩=some (.int .u8 128):=(hg.cell 1).trans rfl;have c2:w.cell? ⟨g,2,none⟩=some (.int .u8 128):=(hg.cell 2).trans rfl;have hlt:=hg.lt;have cc:=λ(w:World) (a b c:Int)=>OZ (P:=Tryz.prog) (src:=94) (dst:=9) Tryz.underlying94 Tryz.underlying5 Tryz.underlying9 [a,b,c] w 3 3 rfl 5
 simp only [List.map_cons,List.map_nil] at cc;have E0:=bx (show bits .or .u8 224 (bits .and .i64 (r / 64 / 64) 63 % 256)=224+r / 4096 by rw [zA _ (by omega) (by omega),ano _ (by omega) (by omega)];try omega);have E1:=bx (show bits .or .u8 128 (bits .and .i64 (r / 64) 63 % 256)=128+r / 64 % 64 by rw [zA _ (by omega) (by omega),Fg _ (by omega) (by omega)];try omega);have E2:=bx (show bits .or .u8 128 (bits .and .i64 (r) 63 % 256)=128+r % 64 by rw [zA _ (by omega) (by omega),Fg _ (by omega) (by omega)];try omega);clear hg
 go_enter Tryz.func96,Tryz.ntmps96
 go_wp2_with fail
 go_rounds 4
 go_ret
 exact⟨uS (by rw [<- E0.o,<- E1.o,<- E2.o];rfl),(Below.refl _ _).alloc (Nat.le_refl _) _⟩
theorem adA (r:Int) (g:Nat) (w:World) (h0:0<=r) (h1:r<2097152) (hg:aj w g 5 #[.int .u8 240, .int .u8 128, .int .u8 128, .int .u8 128]) :
  Calls Tryz.prog 96 #[.int .i64 r, .slice (some ⟨g,0,none⟩) 4 4] w λe w'=>e = .returned (.string (strOfNums [240+r / 262144,128+r / 4096 % 64,128+r / 64 % 64,128+r % 64]))/\Below w.heap.size w w':=by
 have hmk:∀ w,(Instr.makeSlice 94 (.int .i64 4) (.int .i64 4)).run Tryz.prog w = .ok (.slice (some ⟨w.heap.size,0,none⟩) 4 4) (w.alloc (.cells #[.int .u8 0, .int .u8 0, .int .u8 0, .int .u8 0] 5)):=λ_=>by kernel_rfl
 have c0:w.cell? ⟨g,0,none⟩=some (.int .u8 240):=(hg.cell 0).trans rfl;have c1:w.cell? ⟨g,1,none⟩=some (.int .u8 128):=(hg.cell 1).trans rfl;have c2:w.cell? ⟨g,2,none⟩=some (.int .u8 128):=(hg.cell 2).trans rfl;have c3:w.cell? ⟨g,3,none⟩=some (.int .u8 128):=(hg.cell 3).trans rfl;have hlt:=hg.lt;have cc:=λ(w:World) (a b c d:Int)=>OZ (P:=Tryz.prog) (src:=94) (dst:=9) Tryz.underlying94 Tryz.underlying5 Tryz.underlying9 [a,b,c,d] w 4 4 rfl 5
 simp only [List.map_cons,List.map_nil] at cc;have E0:=bx (show bits .or .u8 240 (bits .and .i64 (r / 64 / 64 / 64) 63 % 256)=240+r / 262144 by rw [zA _ (by omega) (by omega),aiO _ (by omega) (by omega)];try omega);have E1:=bx (show bits .or .u8 128 (bits .and .i64 (r / 64 / 64) 63 % 256)=128+r / 4096 % 64 by rw [zA _ (by omega) (by omega),Fg _ (by omega) (by omega)];try omega);have E2:=bx (show bits .or .u8 128 (bits .and .i64 (r / 64) 63 % 256)=128+r / 64 % 64 by rw [zA _ (by omega) (by omega),Fg _ (by omega) (by omega)];try omega);have E3:=bx (show bits .or .u8 128 (bits .and .i64 (r) 63 % 256)=128+r % 64 by rw [zA _ (by omega) (by omega),Fg _ (by omega) (by omega)];try omega);clear hg
 go_enter Tryz.func96,Tryz.ntmps96
 go_wp2_with fail
 go_rounds 5
 go_ret
 exact⟨uS (by rw [<- E0.o,<- E1.o,<- E2.o,<- E3.o];rfl),(Below.refl _ _).alloc (Nat.le_refl _) _⟩
theorem agC (A:Nat->Addr) (B:Nat) (r:Int) (w:World) (hE:E A B w) :
  Calls Tryz.prog 50 #[.int .i64 r] w λe w'=>e = .returned (ER r)/\Below w.heap.size w w':=by
 by_cases hr:U.right r=true
 case neg =>
  have hr':U.right r=false:=by simpa using hr
  have hc:=Yp r;rw [hr'] at hc;have HC:=bx hc;have HD:=bx (afq hr');have HT:=bx (ajz A B w hE);have e0:=hE.cell 2 (by decide);clear hc hr hr' hE
  go_enter Tryz.func50,Tryz.ntmps50
  go_wp2_with (first
   | (go_at_call 94;refine(HC.o _).mono ?_;rintro e w' ⟨rfl,rfl⟩)
   | (go_at_call 95;refine(HT.o).mono ?_;rintro e w' ⟨rfl,rfl⟩))
  go_ret2
  exact⟨by rw [HD.o];rfl,Below.refl _ _⟩
 have hb:=(U.BO r).1 hr;obtain⟨g0,g1,_⟩:=hb;have hc:=Yp r;rw [hr] at hc;have HC:=bx hc;have HE:=bx (λ(l:List Int)=>aeg (l:=l) hr);clear hc hr hE
 by_cases k1:r<128
 ·have c1:=λ(w:World) (a:Int)=>OZ (P:=Tryz.prog) (src:=94) (dst:=9) Tryz.underlying94 Tryz.underlying5 Tryz.underlying9 [a] w 1 1 rfl 5
  simp only [List.map_cons,List.map_nil] at c1
  go_enter Tryz.func50,Tryz.ntmps50
  go_wp2_with (first | (go_at_call 94;refine(HC.o _).mono ?_;rintro e w' ⟨rfl,rfl⟩))
  go_ret2
  exact⟨uS (HE.o [r] (by unfold U.enc;rw [if_pos (by omega)];rfl)),(Below.refl _ _).alloc (Nat.le_refl _) _⟩
 by_cases k2:r<2048
 ·
  have HP:=bx (λW=>akU r w.heap.size W (by omega) (by omega));have HV:=bx (HE.o [192+r / 64,128+r % 64] (by unfold U.enc;rw [if_neg (by omega),if_pos (by omega)];rfl))
  go_enter Tryz.func50,Tryz.ntmps50
  go_wp2_with (first
   | (go_at_call 94;refine(HC.o _).mono ?_;rintro e w' ⟨rfl,rfl⟩)
   | (go_at_call 96;refine(HP.o _ (aj.new w _ _)).mono ?_;rintro e w' ⟨rfl,hb⟩))
  go_ret2
  exact⟨uS HV.o,((Below.refl _ _).alloc (Nat.le_refl _) _).trans (hb.mono (by simp))⟩
 by_cases k3:r<65536
 ·
  have HP:=bx (λW=>ajP r w.heap.size W (by omega) (by omega));have HV:=bx (HE.o [224+r / 4096,128+r / 64 % 64,128+r % 64] (by unfold U.enc;rw [if_neg (by omega),if_neg (by omega),if_pos (by omega)];rfl))
  go_enter Tryz.func50,Tryz.ntmps50
  go_wp2_with (first
   | (go_at_call 94;refine(HC.o _).mono ?_;rintro e w' ⟨rfl,rfl⟩)
   | (go_at_call 96;refine(HP.o _ (aj.new w _ _)).mono ?_;rintro e w' ⟨rfl,hb⟩))
  go_ret2
  exact⟨uS HV.o,((Below.refl _ _).alloc (Nat.le_refl _) _).trans (hb.mono (by simp))⟩
 ·
  have HP:=bx (λW=>adA r w.heap.size W (by omega) (by omega));have HV:=bx (HE.o [240+r / 262144,128+r / 4096 % 64,128+r / 64 % 64,128+r % 64] (by unfold U.enc;rw [if_neg (by omega),if_neg (by omega),if_neg (by omega)];rfl))
  go_enter Tryz.func50,Tryz.ntmps50
  go_wp2_with (first
   | (go_at_call 94;refine(HC.o _).mono ?_;rintro e w' ⟨rfl,rfl⟩)
   | (go_at_call 96;refine(HP.o _ (aj.new w _ _)).mono ?_;rintro e w' ⟨rfl,hb⟩))
  go_ret2
  exact⟨uS HV.o,((Below.refl _ _).alloc (Nat.le_refl _) _).trans (hb.mono (by simp))⟩
theorem O4 (A:Nat->Addr) (B:Nat) (s:ByteArray) (w:World) (hs:s.size<=maxLen) (hE:E A B w) (hB:B<=w.heap.size) :
  Calls Tryz.prog 93 #[.string s] w λe w'=>e = .returned (iY s.data.toList)/\Below w.heap.size w w':=by
 have HN:=bx (next_any A B w.heap.size .nilIface s (w.alloc (.cells #[.string s, .nilIface] 229)) hs (hE.below ((Below.refl B w).alloc hB _)) hB (aj.new w _ _));clear hE
 go_enter Tryz.func93,Tryz.ntmps93
 go_wp2_with fail;refine HN.o.mono ?_;intro e w' hN;unfold EH at hN
 cases hd:U.dec s.data.toList with
 | none =>
  rw [hd] at hN;obtain⟨rfl,hk,hg⟩:=hN;have HD:=bx hd;clear hd hk;go_wp2_with fail
  go_ret3
  refine⟨by unfold iY;rw [HD.o];rfl,?_⟩;exact((Below.refl _ _).alloc (Nat.le_refl _) _).trans (CY hg (Nat.le_refl _) (by simp))
 | some p =>
  obtain⟨r,n⟩:=p;rw [hd] at hN;obtain⟨rfl,hk,hg⟩:=hN;have hn:=(U.zh hd).2.2.1;have HD:=bx hd;clear hd hk;go_wp2_with fail
  go_ret3
  refine⟨by unfold iY;rw [HD.o];exact SV rfl rfl (MK (by simp;omega)),?_⟩;exact((Below.refl _ _).alloc (Nat.le_refl _) _).trans (CY hg (Nat.le_refl _) (by simp))
end
namespace T
open Go.Proofs.YtdenoeakcflnmaaGreatDoor
def part (l:List Int) (a k:Nat):List Int:=(l.drop a).take k
end T
namespace M
open U
def rng (c d:UInt8):Bool:=decide (cO (ak c)<=ak d)&&decide (ak d<=bZ (ak c))
def lQ:List UInt8->Nat
 | c::d::t=>if decide (2<=aN (ak c))&&rng c d then (match t with | e::_=>if decide (aN (ak c)=3)&&gW e then 3 else 2 | []=>2) else 1
 | [_]=>1
 | []=>0
theorem KY {c d:UInt8} (t:List UInt8) (h:(decide (2<=aN (ak c))&&rng c d)=false):lQ (c::d::t)=1:=by
 simp only [lQ];rw [if_neg (by rw [h];decide)]
theorem Pz {c d:UInt8} (h:(decide (2<=aN (ak c))&&rng c d)=true):lQ [c,d]=2:=by
 simp only [lQ];rw [if_pos h]
theorem QU {c d e:UInt8} (t:List UInt8) (h:(decide (2<=aN (ak c))&&rng c d)=true) (h2:(decide (aN (ak c)=3)&&gW e)=false):lQ (c::d::e::t)=2:=by
 simp only [lQ];rw [if_pos h,if_neg (by rw [h2];decide)]
theorem WC {c d e:UInt8} (t:List UInt8) (h:(decide (2<=aN (ak c))&&rng c d)=true) (h2:(decide (aN (ak c)=3)&&gW e)=true):lQ (c::d::e::t)=3:=by
 simp only [lQ];rw [if_pos h,if_pos h2]
def unit (s:List UInt8):Nat×Bool :=
 match dec s with
 | some (_,n)=>(n,true)
 | none=>(lQ s,false)
def Fj (p:List UInt8):Bool :=
 (match dec (p++[128]) with | some (_,n)=>n==p.length+1 | none=>false)||(match dec (p++[128,128]) with | some (_,n)=>n==p.length+2 | none=>false)
theorem G7 (c d:UInt8):rng c d=true↔cO (ak c)<=ak d/\ak d<=bZ (ak c):=by unfold rng;simp
theorem GZ (p:Prop) [Decidable p] (x:Int) (m k:Nat) (h:(m==k)=false):(match (if p then some (x,m) else none:Option (Int×Nat)) with | some (_,n)=>n==k | none=>false)=false:=by
 by_cases h':p
 ·rw [if_pos h'];exact h
 ·rw [if_neg h']
theorem QK:ak 128=128:=rfl
theorem ado (c d:UInt8):Fj [c,d]=(decide (2<=aN (ak c))&&rng c d):=by
 have hr:=G7 c d;unfold Fj;simp only [List.cons_append,List.nil_append,List.length_cons,List.length_nil]
 rcases wQ (ak c) with e | e | e | e | e
 ·rw [EJ (by omega),EJ (by omega),e];rfl
 ·rw [Gw e,Gw e,e];rfl
 ·rw [Bg e,Bg e,e,GZ _ _ _ _ rfl,GZ _ _ _ _ rfl];rfl
 ·have hlo:=Ec (ak c) (by omega);have hhi:=D8 (ak c) (by omega);rw [Ba e,Ba e,e]
  by_cases h:cO (ak c)<=ak d/\ak d<=bZ (ak c)
  ·rw [if_pos (by rw [QK];omega),hr.2 h];rfl
  ·rw [if_neg (by omega),show rng c d=false by rw [<- Bool.not_eq_true,hr];exact h];rfl
 ·have hlo:=Ec (ak c) (by omega);have hhi:=D8 (ak c) (by omega);rw [OT (by simp;omega),Ee e,e]
  by_cases h:cO (ak c)<=ak d/\ak d<=bZ (ak c)
  ·rw [if_pos (by rw [QK];omega),hr.2 h];rfl
  ·rw [if_neg (by omega),show rng c d=false by rw [<- Bool.not_eq_true,hr];exact h];rfl
theorem aio (c d e:UInt8):Fj [c,d,e]=(decide (aN (ak c)=3)&&rng c d&&gW e):=by
 have hr:=G7 c d;have ht:=lU e;unfold Fj;simp only [List.cons_append,List.nil_append,List.length_cons,List.length_nil]
 rcases wQ (ak c) with k | k | k | k | k
 ·rw [EJ (by omega),EJ (by omega),k];rfl
 ·rw [Gw k,Gw k,k];rfl
 ·rw [Bg k,Bg k,k,GZ _ _ _ _ rfl,GZ _ _ _ _ rfl];rfl
 ·rw [Ba k,Ba k,k,GZ _ _ _ _ rfl,GZ _ _ _ _ rfl];rfl
 ·have hlo:=Ec (ak c) (by omega);have hhi:=D8 (ak c) (by omega);rw [Ee k,Ee k,k]
  by_cases h:(cO (ak c)<=ak d/\ak d<=bZ (ak c))/\(128<=ak e/\ak e<=191)
  ·rw [if_pos (by rw [QK];omega),hr.2 h.1,ht.2 h.2];rfl
  ·rw [if_neg (by omega)];have:(rng c d&&gW e)=false:=by
    rw [<- Bool.not_eq_true,Bool.and_eq_true,hr,ht];exact h
   rw [show (decide ((3:Int)=3)&&rng c d&&gW e)=(rng c d&&gW e) by simp,this];rfl
theorem Gs {s:List UInt8} {r:Int} {n:Nat} (h:dec s=some (r,n)):unit s=(n,true):=by unfold unit;rw [h]
theorem LH {s:List UInt8} (h:dec s=none):unit s=(lQ s,false):=by unfold unit;rw [h]
theorem adw (s:List UInt8):lQ s<=s.length/\lQ s<=3/\(s≠[]->1<=lQ s):=by
 match s with
 | []=>simp [lQ]
 | [_]=>simp [lQ]
 | c::d::[]=>simp only [lQ,List.length_cons,List.length_nil];split <;> simp
 | c::d::e::t=>simp only [lQ,List.length_cons];split <;> (try split) <;> simp <;> omega
theorem Fh {s:List UInt8} (hs:s≠[]):1<=(unit s).1/\(unit s).1<=4/\(unit s).1<=s.length:=by
 cases h:dec s with
 | some p =>
  obtain⟨r,n⟩:=p;obtain⟨_,_,h1,h2,h3⟩:=zh h;rw [Gs h];exact⟨h1,h2,h3⟩
 | none =>
  have:=adw s;rw [LH h];exact⟨this.2.2 hs,by omega,this.1⟩
def A8:Nat->List UInt8->List (Nat×Bool)
 | 0,_=>[]
 | k+1,s=>if s=[] then [] else unit s::A8 k (s.drop (unit s).1)
def units (s:List UInt8):List (Nat×Bool):=A8 s.length s
theorem YA:∀ (k j:Nat) (s:List UInt8),s.length<=k->s.length<=j->A8 k s=A8 j s
 | 0,j,s,h,_=>by
  have:s=[]:=List.eq_nil_of_length_eq_zero (by omega);subst this;cases j <;> rfl
 | k+1,0,s,_,h=>by
  have:s=[]:=List.eq_nil_of_length_eq_zero (by omega);subst this;rfl
 | k+1,j+1,s,h,h'=>by
  simp only [A8]
  split
  ·rfl
  ·rename_i hs
   have:=Fh hs;rw [YA k j _ (by rw [List.length_drop];omega) (by rw [List.length_drop];omega)]
theorem abM {s:List UInt8} (hs:s≠[]):units s=unit s::units (s.drop (unit s).1):=by
 have h1:=Fh hs;unfold units
 cases hl:s.length with
 | zero=>exact absurd (List.eq_nil_of_length_eq_zero hl) hs
 | succ k =>
  simp only [A8];rw [if_neg hs,YA k _ _ (by rw [List.length_drop];omega) (Nat.le_refl _)]
abbrev Place:=Nat×Nat×Bool
def place:Nat->List (Nat×Bool)->List Place
 | _,[]=>[]
 | a,u::us=>(a,u.1,u.2)::place (a+u.1) us
def places (s:List UInt8):List Place:=place 0 (units s)
def rest (s:List UInt8) (a:Nat):List Place:=place a (units (s.drop a))
theorem zC (s:List UInt8):rest s 0=places s:=by unfold rest places;rw [List.drop_zero]
theorem rest_end (s:List UInt8) (a:Nat) (h:s.length<=a):rest s a=[]:=by unfold rest;rw [List.drop_eq_nil_of_le h];rfl
theorem uy (s:List UInt8) (a:Nat) (h:a<s.length):rest s a=(a,(unit (s.drop a)).1,(unit (s.drop a)).2)::rest s (a+(unit (s.drop a)).1):=by
 have hs:s.drop a≠[]:=by intro e;rw [List.drop_eq_nil_iff] at e;omega
 unfold rest;rw [abM hs,List.drop_drop]
 rfl
def mark:List UInt8:=[239,191,189]
def mended (s:List UInt8) (x:Place):List UInt8:=if x.2.2 then (s.drop x.1).take x.2.1 else mark
def repair (s:List UInt8) (pl:List Place):List UInt8:=pl.flatMap (mended s)
def fwd (pl:List Place) (q:Int):Option Place:=pl.find? λx=>(x.1:Int)==q
def bwd (pl:List Place) (q:Int):Option Place:=pl.find? λx=>((x.1+x.2.1:Nat):Int)==q
end M
namespace M
open U
theorem WG {P:List UInt8->Prop} (h0:P []) (h1:∀ s,s≠[]->P (s.drop (unit s).1)->P s):∀ s,P s:=by
 have key:∀ (k:Nat) (s:List UInt8),s.length<=k->P s:=by
  intro k
  induction k with
  | zero =>
   intro s h;have:s=[]:=List.eq_nil_of_length_eq_zero (by omega);subst this;exact h0
  | succ k ih =>
   intro s h
   by_cases hs:s=[]
   ·subst hs;exact h0
   ·have:=Fh hs;exact h1 s hs (ih _ (by rw [List.length_drop];omega))
 exact λs=>key s.length s (Nat.le_refl _)
def shift (a:Nat) (x:Place):Place:=(x.1+a,x.2.1,x.2.2)
theorem akw (us:List (Nat×Bool)):∀ a b,place (a+b) us=(place a us).map (shift b):=by
 induction us with
 | nil=>intro a b;rfl
 | cons u us ih =>
  intro a b;simp only [place,List.map_cons,shift];rw [show a+b+u.1=(a+u.1)+b by omega,ih]
theorem aii (s:List UInt8) (a:Nat):rest s a=(places (s.drop a)).map (shift a):=by
 unfold rest places;have:=akw (units (s.drop a)) 0 a;rw [Nat.zero_add] at this;exact this
theorem amW (s:List UInt8) (a:Nat) (x:Place):mended s (shift a x)=mended (s.drop a) x:=by
 unfold mended shift;rw [List.drop_drop];simp only [Nat.add_comm]
theorem agm (s:List UInt8) (a:Nat) (pl:List Place):repair s (pl.map (shift a))=repair (s.drop a) pl:=by
 unfold repair;rw [List.flatMap_map]
 congr 1
 exact funext λx=>amW s a x
def fix (s:List UInt8):List UInt8:=repair s (places s)
theorem places_cons {s:List UInt8} (hs:s≠[]):places s=(0,(unit s).1,(unit s).2)::(places (s.drop (unit s).1)).map (shift (unit s).1):=by
 have hl:0<s.length:=List.length_pos_iff.2 hs;have:=uy s 0 hl;rw [zC,List.drop_zero,Nat.zero_add,aii] at this;exact this
theorem alg:fix []=[]:=rfl
theorem Ny {s:List UInt8} (hs:s≠[]):fix s=(if (unit s).2 then s.take (unit s).1 else mark)++fix (s.drop (unit s).1):=by
 unfold fix;rw [places_cons hs];show repair s (_::_)=_
 rw [show repair s ((0,(unit s).1,(unit s).2)::(places (s.drop (unit s).1)).map (shift (unit s).1))=mended s (0,(unit s).1,(unit s).2)++repair s ((places (s.drop (unit s).1)).map (shift (unit s).1)) from rfl,agm]
 rfl
theorem aiL:mark=enc 65533:=by decide +kernel
theorem ahq {s:List UInt8} (h:(unit s).2=true):∃ r,dec s=some (r,(unit s).1):=by
 cases hd:dec s with
 | none=>rw [LH hd] at h;cases h
 | some p=>obtain⟨r,n⟩:=p;rw [Gs hd];exact⟨r,rfl⟩
theorem P5 (s:List UInt8):∃ l,scalars (fix s)=some l/\l.length=(units s).length:=by
 refine WG (P:=λs=>∃ l,scalars (fix s)=some l/\l.length=(units s).length) ⟨[],rfl,rfl⟩ (λs hs ih=>?_) s;obtain⟨l,h1,h2⟩:=ih;have hu:=abM hs
 cases hok:(unit s).2 with
 | true =>
  obtain⟨r,hd⟩:=ahq hok;obtain⟨hr,he,_⟩:=zh hd;refine⟨r::l,?_,by rw [hu,List.length_cons,List.length_cons,h2]⟩;rw [Ny hs,hok,if_pos rfl,<- he,Ws r hr,h1]
  rfl
 | false =>
  refine⟨65533::l,?_,by rw [hu,List.length_cons,List.length_cons,h2]⟩;rw [Ny hs,hok,if_neg (by simp),aiL,Ws 65533 (by decide),h1]
  rfl
end M
namespace M
open U
theorem Ci {s:List UInt8} {P:Nat->Prop} (h0:∀ a,s.length<=a->P a) (h1:∀ a,a<s.length->P (a+(unit (s.drop a)).1)->P a):∀ a,P a:=by
 have key:∀ (k a:Nat),s.length<=a+k->P a:=by
  intro k
  induction k with
  | zero=>intro a h;exact h0 a (by omega)
  | succ k ih =>
   intro a h
   by_cases hs:s.length<=a
   ·exact h0 a hs
   ·have hne:s.drop a≠[]:=by intro e;rw [List.drop_eq_nil_iff] at e;omega
    have:=Fh hne;exact h1 a (by omega) (ih _ (by omega))
 exact λa=>key s.length a (by omega)
theorem Bf {s:List UInt8} {a:Nat} (h:a<s.length):1<=(unit (s.drop a)).1/\(unit (s.drop a)).1<=4/\a+(unit (s.drop a)).1<=s.length:=by
 have hne:s.drop a≠[]:=by intro e;rw [List.drop_eq_nil_iff] at e;omega
 have:=Fh hne;rw [List.length_drop] at this;omega
theorem BX (s:List UInt8):∀ a,∀ x∈rest s a,a<=x.1/\x.1<s.length/\(x.2.1,x.2.2)=unit (s.drop x.1)/\x.1+x.2.1<=s.length/\1<=x.2.1/\x.2.1<=4:=by
 refine Ci (s:=s) (λa h x hx=>?_) (λa h ih x hx=>?_)
 ·rw [rest_end s a h] at hx;exact absurd hx List.not_mem_nil
 ·rw [uy s a h] at hx;have hu:=Bf h
  rcases List.mem_cons.1 hx with rfl | hx
  ·exact⟨Nat.le_refl _,h,rfl,hu.2.2,hu.1,hu.2.1⟩
  ·have:=ih x hx;exact⟨by omega,this.2⟩
def Kw (a:Nat) (pl:List Place):List Nat:=a::pl.map λx=>x.1+x.2.1
theorem afk (s:List UInt8):∀ a,a<=s.length->(Kw a (rest s a))[(rest s a).length]?=some s.length:=by
 refine Ci (s:=s) (λa h h'=>?_) (λa h ih h'=>?_)
 ·rw [rest_end s a h];show some a=_;congr 1;omega
 ·rw [uy s a h];exact ih (Bf h).2.2
end M
section
open Go.RowKit
def Uo (es:Array MapEntry) (q:Int):Option Value:=match Instr.findNow (.int .i64) (.int .i64 q) es.toList 0 with | some (some p)=>some p.2 | _=>none
def WQ (es:Array MapEntry):Prop:=∀ x∈es.toList,∃ k,x.key = .int .i64 k
def Nr:Value->Int->Bool
 | .int .i64 k,q=>decide (k=q)
 | _,_=>false
def CZ:List MapEntry->Int->Option Value
 | [],_=>none
 | e::es,q=>if Nr e.key q=true then some e.val else CZ es q
theorem Uy (q:Int):∀ (l:List MapEntry) (i:Nat),(∀ x∈l,∃ k,x.key = .int .i64 k) ->
  (Instr.findNow (.int .i64) (.int .i64 q) l i=some none/\CZ l q=none)\/∃ j v,Instr.findNow (.int .i64) (.int .i64 q) l i=some (some (i+j,v))/\CZ l q=some v/\∃ e,l[j]?=some e/\e.key = .int .i64 q/\e.val=v
 | [],_,_=>.inl ⟨rfl,rfl⟩
 | e::es,i,h=>by
  obtain⟨k,hk⟩:=h e (List.mem_cons_self ..)
  by_cases hq:q=k
  ·subst hq;refine .inr ⟨0,e.val,?_,?_,e,rfl,hk,rfl⟩
   ·simp [Instr.findNow,Instr.sameNow,hk]
   ·simp [CZ,Nr,hk]
  ·have hq':(q==k)=false:=by simpa using hq
   have hkq:¬ k=q:=λe=>hq e.symm
   rcases Uy q es (i+1) (λx hx=>h x (List.mem_cons_of_mem _ hx)) with⟨h1,h2⟩ | ⟨j,v,h1,h2,e',h3,h4⟩
   ·exact .inl ⟨by simp [Instr.findNow,Instr.sameNow,hk,hq',h1],by simp [CZ,Nr,hk,hkq,h2]⟩
   ·exact .inr ⟨j+1,v,by simp [Instr.findNow,Instr.sameNow,hk,hq',h1];omega,by simp [CZ,Nr,hk,hkq,h2],e',h3,h4⟩
theorem abN {es:Array MapEntry} (h:WQ es) (q:Int):Uo es q=CZ es.toList q:=by
 unfold Uo
 rcases Uy q es.toList 0 h with⟨h1,h2⟩ | ⟨j,v,h1,h2,_⟩ <;> rw [h1,h2]
section
variable {P:Program} {T K E:TypeId}
theorem RN (hm:P.underlying T=some (.map K E)) (hk:P.underlying K=some (.int .i64)) (W:World) (es:Array MapEntry) (clk:Nat) (k:Int) (n:Nat) (hg:W.heap[n]?=some (.map es clk)) (hik:WQ es) (z:Value) (hz:(zeroValue E).run P W = .ok z W) :
  (Instr.lookup T (.map (some n)) (.int .i64 k) false).run P W = .ok ((Uo es k).getD z) W:=by
 have h1:(Instr.checkKey es.isEmpty 10000 K (.int .i64 k)).run P W = .ok () W:=MapKept.run_checkKey hk (by simp [MapKept.IsKey]) _ 9999
 rcases Uy k es.toList 0 hik with⟨hf,hl⟩ | ⟨j,v,hf,hl,_⟩
 ·have h2:=MapKept.run_findKey (P:=P) (w:=W) hk hf;unfold Instr.lookup;rw [abN hik,hl];simp only [Sem.run_bind,run_underlying hm,Result.andThen,MapKept.run_getObj_map hg,h1,h2,Sem.run_pure,Bool.false_eq_true,if_false,hz,Option.getD_none]
 ·have h2:=MapKept.run_findKey (P:=P) (w:=W) hk hf;unfold Instr.lookup;rw [abN hik,hl];simp only [Sem.run_bind,run_underlying hm,Result.andThen,MapKept.run_getObj_map hg,h1,h2,Sem.run_pure,Bool.false_eq_true,if_false,Option.getD_some]
end
def aap {α:Type} (keep:Nat->Prop) (I:List α->World->Prop) (Ix:Code->List α->World->Prop) (l D:Nat) (xs:List α) (W:World):Exit->Act->World->Prop
 | .normal,_,W'=>Turns (λk=>¬ (keep k\/k=l\/k=D)) W W'/\I xs W'
 | .ret,_,W'=>Holds (λk=>k=l\/k=D) W W'/\Ix .ret xs W'
 | .exit id,_,W'=>Holds (λk=>k=l\/k=D) W W'/\Ix (.exit id) xs W'
 | .goto t,_,W'=>Holds (λk=>k=l\/k=D) W W'/\Ix (.goto t) xs W'
 | .panic _,_,_=>False
 | .outgrown,_,_=>False
end
section
open Go
theorem adt (s:ByteArray) (i k:Nat) (d:UInt8) (h:(s.data.toList.drop i)[k]?=some d):(s.get! (i+k)).toNat=d.toNat/\i+k<s.size:=by
 rw [List.getElem?_drop] at h;obtain⟨h1,h2⟩:=List.getElem?_eq_some_iff.1 h;have h3:i+k<s.size:=by rw [<- ByteArray.size_data,<- Array.length_toList];exact h1
 refine⟨?_,h3⟩;have e:s.get! (i+k)=s[i+k]'h3:=by
  show s.get! (i+k)=_
  simp [ByteArray.get!,getElem!_pos,h3]
  rfl
 rw [e]
 congr 1
theorem MX (n:Nat) (h:n<256):(U.byte (n:Int)).toNat=n:=by
 have:=U.vS (n:Int) (by omega) (by omega);unfold U.ak at this;omega
def yY (b0 b1 b2 b3:Nat) (c1 c2 c3:Bool):Nat×Nat :=
 if b0<128 then (b0,1)
 else if (b0 / 32==6&&c1)=true then (if b0 % 32*64+b1 % 64≥128 then (b0 % 32*64+b1 % 64,2) else (Utf8.runeError,1))
 else if (b0 / 16==14&&c1&&c2)=true then (if (decide (b0 % 16*4096+b1 % 64*64+b2 % 64≥2048)&&Utf8.valid ((b0 % 16*4096+b1 % 64*64+b2 % 64:Nat):Int))=true then (b0 % 16*4096+b1 % 64*64+b2 % 64,3) else (Utf8.runeError,1))
 else if (b0 / 8==30&&c1&&c2&&c3)=true then (if (decide (b0 % 8*262144+b1 % 64*4096+b2 % 64*64+b3 % 64≥65536)&&Utf8.valid ((b0 % 8*262144+b1 % 64*4096+b2 % 64*64+b3 % 64:Nat):Int))=true then (b0 % 8*262144+b1 % 64*4096+b2 % 64*64+b3 % 64,4) else (Utf8.runeError,1))
 else (Utf8.runeError,1)
theorem ajF (s:ByteArray) (i:Nat):Utf8.decode s i=yY (s.get! (i+0)).toNat (s.get! (i+1)).toNat (s.get! (i+2)).toNat (s.get! (i+3)).toNat
  (decide (i+1<s.size)&&(s.get! (i+1)).toNat / 64==2) (decide (i+2<s.size)&&(s.get! (i+2)).toNat / 64==2) (decide (i+3<s.size)&&(s.get! (i+3)).toNat / 64==2):=rfl
theorem adZ (n b1 b2 b3:Nat) (c1 c2 c3:Bool) (h:n<128):yY n b1 b2 b3 c1 c2 c3=(n,1):=by unfold yY;rw [if_pos h]
theorem ahN (n b2 b3:Nat) (c2 c3:Bool) (h:128<=n) (h2:n<2048):yY (192+n / 64) (128+n % 64) b2 b3 true c2 c3=(n,2):=by
 unfold yY;have e:(192+n / 64) % 32*64+(128+n % 64) % 64=n:=by omega
 have e2:(192+n / 64) / 32=6:=by omega
 rw [e,e2,if_neg (by omega),if_pos (by rfl),if_pos h]
theorem alc (n b3:Nat) (c3:Bool) (h:2048<=n) (h2:n<65536) (hv:Utf8.valid (n:Int)=true):yY (224+n / 4096) (128+n / 64 % 64) (128+n % 64) b3 true true c3=(n,3):=by
 unfold yY;have e:(224+n / 4096) % 16*4096+(128+n / 64 % 64) % 64*64+(128+n % 64) % 64=n:=by omega
 have e1:((224+n / 4096) / 32==6)=false:=by rw [beq_eq_false_iff_ne];omega
 have e2:(224+n / 4096) / 16=14:=by omega
 rw [e,e1,e2,if_neg (by omega),if_neg (by simp),if_pos (by rfl),if_pos (by rw [hv,decide_eq_true h];rfl)]
theorem am2 (n:Nat) (h:65536<=n) (h2:n<1114112) (hv:Utf8.valid (n:Int)=true):yY (240+n / 262144) (128+n / 4096 % 64) (128+n / 64 % 64) (128+n % 64) true true true=(n,4):=by
 unfold yY;have e:(240+n / 262144) % 8*262144+(128+n / 4096 % 64) % 64*4096+(128+n / 64 % 64) % 64*64+(128+n % 64) % 64=n:=by omega
 have e1:((240+n / 262144) / 32==6)=false:=by rw [beq_eq_false_iff_ne];omega
 have e2:((240+n / 262144) / 16==14)=false:=by rw [beq_eq_false_iff_ne];omega
 have e3:(240+n / 262144) / 8=30:=by omega
 rw [e,e1,e2,e3,if_neg (by omega),if_neg (by simp),if_neg (by simp),if_pos (by rfl),if_pos (by rw [hv,decide_eq_true h];rfl)]
theorem amQ (n:Nat) (hr:U.right (n:Int)=true):Utf8.valid (n:Int)=true:=by
 rw [U.BO] at hr;simp [Utf8.valid];omega
theorem Yk (s:ByteArray) (i n:Nat) (t:List UInt8) (hr:U.right (n:Int)=true) (h:s.data.toList.drop i=U.enc (n:Int)++t):Utf8.decode s i=(n,(U.enc (n:Int)).length):=by
 have hv:=amQ n hr;rw [U.BO] at hr;have key:∀ k d,(U.enc (n:Int))[k]?=some d->(s.get! (i+k)).toNat=d.toNat/\i+k<s.size:=λk d hk=>adt s i k d (by
  rw [h,List.getElem?_append_left (List.getElem?_eq_some_iff.1 hk).1];exact hk)
 have cont:∀ m,m / 64=2->∀ k,i+k<s.size->(decide (i+k<s.size)&&m / 64==2)=true:=λm hm k hk=>by rw [decide_eq_true hk,hm];rfl
 rw [ajF]
 by_cases h1:n<128
 ·have e:U.enc (n:Int)=[U.byte (n:Int)]:=by unfold U.enc;rw [if_pos (by omega)]
  rw [e] at key ⊢;have k0:=(key 0 _ rfl).1;rw [MX n (by omega)] at k0;rw [k0,adZ _ _ _ _ _ _ _ h1]
  rfl
 ·by_cases h2:n<2048
  ·have e:U.enc (n:Int)=[U.byte ((192+n / 64:Nat):Int),U.byte ((128+n % 64:Nat):Int)]:=by
    unfold U.enc;rw [if_neg (by omega),if_pos (by omega)];rfl
   rw [e] at key ⊢;have k0:=(key 0 _ rfl).1;obtain⟨k1,s1⟩:=key 1 _ rfl;rw [MX _ (by omega)] at k0 k1;rw [k0,k1,cont _ (by omega) 1 s1,ahN _ _ _ _ _ (by omega) h2]
   rfl
  ·by_cases h3:n<65536
   ·have e:U.enc (n:Int)=[U.byte ((224+n / 4096:Nat):Int),U.byte ((128+n / 64 % 64:Nat):Int),U.byte ((128+n % 64:Nat):Int)]:=by
     unfold U.enc;rw [if_neg (by omega),if_neg (by omega),if_pos (by omega)];rfl
    rw [e] at key ⊢;have k0:=(key 0 _ rfl).1;obtain⟨k1,s1⟩:=key 1 _ rfl;obtain⟨k2,s2⟩:=key 2 _ rfl;rw [MX _ (by omega)] at k0 k1 k2;rw [k0,k1,k2,cont _ (by omega) 1 s1,cont _ (by omega) 2 s2,alc _ _ _ (by omega) h3 hv]
    rfl
   ·have e:U.enc (n:Int)=[U.byte ((240+n / 262144:Nat):Int),U.byte ((128+n / 4096 % 64:Nat):Int),U.byte ((128+n / 64 % 64:Nat):Int),U.byte ((128+n % 64:Nat):Int)]:=by
     unfold U.enc;rw [if_neg (by omega),if_neg (by omega),if_neg (by omega)];rfl
    rw [e] at key ⊢;have k0:=(key 0 _ rfl).1;obtain⟨k1,s1⟩:=key 1 _ rfl;obtain⟨k2,s2⟩:=key 2 _ rfl;obtain⟨k3,s3⟩:=key 3 _ rfl;rw [MX _ (by omega)] at k0 k1 k2 k3;rw [k0,k1,k2,k3,cont _ (by omega) 1 s1,cont _ (by omega) 2 s2,cont _ (by omega) 3 s3,am2 _ (by omega) (by omega) hv]
    rfl
def aT (s:List UInt8):List Int:=(U.scalars (M.fix s)).getD []
theorem Fa (s:List UInt8):U.scalars (M.fix s)=some (aT s):=by
 obtain⟨l,h,-⟩:=M.P5 s;unfold aT;rw [h]
 rfl
theorem AB (s:List UInt8):∀ r∈aT s,U.right r=true:=((U.qK _ _).1 (Fa s)).2
theorem af9 (s:List UInt8):U.textOf (aT s)=M.fix s:=((U.qK _ _).1 (Fa s)).1
def dW (t:F.Trie) (l:List Int):List Int:=l.map (F.says t)
end
section
open Go.RowKit Go.Shelf
attribute [local go_sem] Oper.semAt_some
def Nc (s:ByteArray) (A:Nat->Addr) (b:Nat) (xs:List Int) (W:World):Prop :=
 (U.scalars s.data.toList=some xs/\∃ s',aj W b 229 #[.string s', .nilIface])\/(U.scalars s.data.toList=none/\∃ s',aj W b 229 #[.string s',jZ A 7])
theorem akK (l:List Int):l.length<=(U.textOf l).length:=by
 induction l with
 | nil=>simp
 | cons r l ih =>
  have:=U.Kz r;show l.length+1<=(U.enc r++U.textOf l).length
  rw [List.length_append];omega
theorem E.holds {A:Nat->Addr} {B:Nat} {w w':World} (h:E A B w) {own:Nat->Prop} (hh:Holds own w w') (hB:∀ k,k<B->own k):E A B w' where
 var g hg:=(World.cell?_of_block (hh.block g (hB _ (h.lt g hg).1))).trans (h.var g hg)
 row g hg:=by
  obtain⟨c,t,hr⟩:=h.row g hg;exact⟨c,t,(hh.block _ (hB _ (h.lt g hg).2)).trans hr⟩
 lt:=h.lt
 ne:=h.ne
theorem Holds.blk {own:Nat->Prop} {A B:World} (h:Holds own A B) {g:Nat} {t:TypeId} {cs:Array Value} (hb:aj A g t cs) (hg:own g):aj B g t cs:=(h.block g hg).trans hb
theorem E.only {A:Nat->Addr} {B:Nat} {w w':World} {b:Nat} (h:E A B w) (hg:w.grownBy w' (some b)) (hB:B<=b) (hB2:B<=w.heap.size):E A B w':=h.below (CY hg hB hB2)
theorem ah6 (n:Nat) (A:Nat->Addr) (B b Bn:Nat) (s:ByteArray) (hs:s.size<=maxLen) (l:Nat) (W1:World)
  (hE:E A B W1) (hB:B<=b) (hB2:B<=Bn) (hne:b≠Bn) (hb:aj W1 b 229 #[.string s, .nilIface]) (hBn:aj W1 Bn 225 #[.pointer (some ⟨b,0,none⟩)]) :
  Ph (n+1) Tryz.prog 228 #[.pointer (some ⟨Bn,0,none⟩)] (λx:Int=>#[.int .i64 x]) (λk=>k=b) (λk=>k=b\/k=Bn\/k<B) (λpre _=>pre.length<s.size) (Nc s A b) l W1:=by
 intro J Jx hJ hJx hY h0;have HY:=bx hY;have HJ:=bx hJ;clear hY hJ;refine callsIn_of_wp Tryz.func228 rfl trivial ?_;simp only [Tryz.ntmps228,List.size_toArray,List.length_cons,List.length_nil,Nat.reduceAdd,Nat.reduceSub,Array.replicate_succ,Array.replicate_zero,List.push_toArray,List.append_toArray,List.nil_append,List.cons_append]
 gi_wp2
 refine wpIn_wide.2 (wp_scope_straight ((wpIn_wide (n:=n+1)).1 ?_))
 gi_wp2
 refine wpIn_label ?_
 gi_wp2
 gi_loopw [3] (λv wr=>∃ (pre:List Int) (rest:ByteArray),rest.size<=s.size/\Box (U.textOf pre++rest.data.toList=s.data.toList/\∀ r∈pre,U.right r=true)/\E A B wr/\aj wr b 229 #[.string rest, .nilIface]/\aj wr Bn 225 #[.pointer (some ⟨b,0,none⟩)]/\J pre wr)
  (λ_ wr=>match wr.cell? ⟨b,0,none⟩ with | some (.string r)=>r.size | _=>0)
 case atStart=>exact⟨[],s,Nat.le_refl _,⟨⟨rfl,λr hr=>by cases hr⟩⟩,hE,hb,hBn,h0⟩
 case round =>
  obtain⟨pre,rest,hrs,hp,hEr,hbr,Hz,hj⟩:=hrel;have c0:wr.cell? ⟨b,0,none⟩=some (.string rest):=(hbr.cell 0).trans rfl;have c1:wr.cell? ⟨Bn,0,none⟩=some (.pointer (some ⟨b,0,none⟩)):=(Hz.cell 0).trans rfl
  cases hl:rest.data.toList with
  | nil =>
   have hz:=isEmpty_nil hl;have HS:=bx (show Nc s A b pre wr from .inl ⟨(U.qK _ _).2 ⟨by rw [<- hp.o.1,hl,List.append_nil],hp.o.2⟩,rest,hbr⟩);clear hl
   gi_wp2
   rw [Exit.noGoto_normal]
   go_end0
   exact⟨⟨_,rfl⟩, .inl ⟨pre,HS.o,hj⟩⟩
  | cons c t =>
   have hz:=isEmpty_cons hl;have HN:=bx ((callsIn_wide (n:=n)).2 (next_any A B b .nilIface rest wr (by omega) hEr hB hbr));have hsz:B<=wr.heap.size:=by have:=hbr.lt;omega
   have HEr:=bx hEr;have HBn:=bx Hz;have YO:=bx hj;have HL:=bx hl;clear hEr hbr Hz hj hl
   gi_wp2
   refine⟨trivial,HN.o.mono ?_⟩;intro e w2 hN;unfold EH at hN
   cases hd:U.dec rest.data.toList with
   | none =>
    rw [hd] at hN;obtain⟨rfl,hb2,hg2⟩:=hN;have HS:=bx (show Nc s A b pre w2 from .inr ⟨by
     rw [<- hp.o.1,U.NC _ hp.o.2,U.LW (by rw [HL.o];simp) hd];rfl,rest,hb2⟩)
    have HJ2:=bx (HJ.o _ _ _ YO.o (Turns.ac1 hg2 rfl));clear hd hb2 hg2
    gi_wp2
    refine⟨λ_ h=>(by cases h),?_⟩
    gi_wp2
    rw [Exit.noGoto_normal]
    go_end0
    exact⟨⟨_,rfl⟩, .inl ⟨pre,HS.o,HJ2.o⟩⟩
   | some p =>
    obtain⟨r,m⟩:=p;rw [hd] at hN;obtain⟨rfl,hb2,hg2⟩:=hN;obtain⟨hr,he,hm1,_,hm⟩:=U.zh hd;have hj2:=HJ.o _ _ _ YO.o (Turns.ac1 hg2 rfl);have hE2:=HEr.o.only hg2 hB hsz;have acu:aj w2 Bn 225 #[.pointer (some ⟨b,0,none⟩)]:=HBn.o.grown hg2 (by intro e;cases e;exact hne rfl);have HB2:=bx hb2;have HE2:=bx hE2;have ahS:=bx acu;have hsr:rest.size=rest.data.toList.length:=size_eq rest;have HP:=bx (show (rest.extract m rest.size).size<=s.size/\(rest.extract m rest.size).size<rest.size/\U.textOf (pre++[r])++(rest.extract m rest.size).data.toList=s.data.toList/\∀ x∈pre++[r],U.right x=true by
     have hx:(rest.extract m rest.size).data.toList=rest.data.toList.drop m:=Lib.extract_to_end rest m;have hx2:(rest.extract m rest.size).size=rest.size-m:=by rw [size_eq,hx,List.length_drop,<- hsr]
     refine⟨by omega,by omega,?_,?_⟩
     ·rw [U.I9,hx,List.append_assoc,<- hp.o.1]
      congr 1
      show U.enc r++[]++_=_
      rw [he,List.append_nil,List.take_append_drop]
     ·intro x hx
      rcases List.mem_append.1 hx with hx | hx
      ·exact hp.o.2 x hx
      ·simp at hx;rw [hx];exact hr)
    have HLEN:=bx (show pre.length<s.size by
     have h1:=congrArg List.length hp.o.1;have h2:=akK pre;rw [List.length_append,<- size_eq,<- size_eq] at h1;omega)
    obtain⟨fn,tmps,assign,body,hy,hR⟩:=HY.o pre r w2 hj2 HLEN.o;have HR:=bx hR;have hm0:((m:Int)==0)=false:=by rw [beq_eq_false_iff_ne];omega
    clear hd hb2 hg2 hE2 acu hj2 hR he hr hsr
    gi_wp2
    refine HR.o.mono ?_;rintro e W3 (⟨rfl,hj3,hk3⟩ | ⟨rfl,hx3⟩)
    ·have hb3:=hk3.blk HB2.o (.inl rfl);have HR3:=bx (show ∃ (pre:List Int) (rest:ByteArray),rest.size<=s.size/\Box (U.textOf pre++rest.data.toList=s.data.toList/\∀ r∈pre,U.right r=true)/\E A B W3/\aj W3 b 229 #[.string rest, .nilIface]/\aj W3 Bn 225 #[.pointer (some ⟨b,0,none⟩)]/\J pre W3 from
      ⟨pre++[r],_,HP.o.1,⟨HP.o.2.2⟩,HE2.o.holds hk3 (λk hk=>.inr (.inr hk)),hb3,hk3.blk ahS.o (.inr (.inl rfl)),hj3⟩)
     have c3:W3.cell? ⟨b,0,none⟩=some (.string (rest.extract m rest.size)):=(hb3.cell 0).trans rfl;have dN:=bx c3;have HC0:=bx c0;clear hb3 hj3 hk3 c3 c0 c1
     gi_wp2
     go_roundw
     case rel=>exact HR3.o
     case measure=>rw [dN.o,HC0.o];exact HP.o.2.1
    ·gi_wp2
     rw [Exit.noGoto_normal]
     go_end0
     exact⟨⟨_,rfl⟩, .inr ⟨_,hx3⟩⟩
theorem ahJ (p:Option Addr) (w:World) :
  Calls Tryz.prog 215 #[.pointer p] w λe w'=>e = .returned (.func (.func 228) #[] #[.pointer (some ⟨w.heap.size,0,none⟩)])/\w.alloc (.cells #[.pointer p] 225)=w':=by
 go_enter Tryz.func215,Tryz.ntmps215
 go_wp2
 go_ret
 exact⟨rfl,rfl⟩
theorem Turns.alE {own:Nat->Prop} {A B:World} {row:Option Nat} (h:A.grownBy B row) (hr:∀ k,row=some k->own k):Turns own A B :=
 ⟨h.os,h.tape,h.output,h.size,λi hi ho=>h.block i hi (λe=>ho (hr i e.symm))⟩
theorem am6 {w:World} {base base':Nat} {e:TypeId} {size:Nat} {v:Value} {n:Nat} {xs:List Value} (h:w.ownsRow base e size v n xs) (hb:base'<=base):w.ownsRow base' e size v n xs:=by
 refine⟨h.1,?_⟩
 rcases h.2 with h | ⟨g,cap,cur,h1,h2,h3⟩
 ·exact .inl h
 ·exact .inr ⟨g,cap,cur,h1,by omega,h3⟩
def KA (s:ByteArray) (w:World) (e:Ending) (w':World):Prop :=
 Below w.heap.size w w'/\match U.scalars s.data.toList with
 | none=>e = .returned (.tuple #[.slice none 0 0, .int .i64 11])
 | some xs=>∃ v,e = .returned (.tuple #[v, .int .i64 0])/\w'.ownsRow w.heap.size 3 1 v xs.length (xs.map (Value.int .i64))
theorem KD:(Tryz.prog.info? 3).map (λi=>(i.zero,i.size,i.bytes))=some (some (.int .i64 0),1,8):=by kernel_rfl
theorem amX (A:Nat->Addr) (B:Nat) (s:ByteArray) (w:World) (hs:s.size<=16777216) (hE:E A B w) (hB:B<=w.heap.size) :
  Calls Tryz.prog 195 #[.string s] w (KA s w):=by
 have HE:=bx hE;have hEv:=bx hE;clear hE;refine(callsIn_wide (n:=9)).1 (callsIn_of_wp_marks Tryz.func195 rfl trivial (wpIn_wide.2 ?_));simp only [Tryz.ntmps195,List.size_toArray,List.length_cons,List.length_nil,Nat.reduceAdd,Nat.reduceSub,Array.replicate_succ,Array.replicate_zero,List.push_toArray,List.append_toArray,List.nil_append,List.cons_append];go_wp2_with (go_at_call 215;refine(ahJ _ _).mono ?_;rintro e w' ⟨rfl,rfl⟩)
 have hb:aj (((w.alloc (.cells #[.string s, .nilIface] 229)).alloc (.cells #[.slice none 0 0] 22)).alloc (.cells #[.pointer (some ⟨w.heap.size,0,none⟩)] 225)) w.heap.size 229 #[.string s, .nilIface]:=((aj.new w _ _).alloc _).alloc _;have ho:aj (((w.alloc (.cells #[.string s, .nilIface] 229)).alloc (.cells #[.slice none 0 0] 22)).alloc (.cells #[.pointer (some ⟨w.heap.size,0,none⟩)] 225)) (w.heap.size+1) 22 #[.slice none 0 0]:=by
  have:=(aj.new (w.alloc (.cells #[.string s, .nilIface] 229)) 22 #[.slice none 0 0]).alloc (.cells #[.pointer (some ⟨w.heap.size,0,none⟩)] 225)
  simpa using this
 have hn:aj (((w.alloc (.cells #[.string s, .nilIface] 229)).alloc (.cells #[.slice none 0 0] 22)).alloc (.cells #[.pointer (some ⟨w.heap.size,0,none⟩)] 225)) (w.heap.size+1+1) 225 #[.pointer (some ⟨w.heap.size,0,none⟩)]:=by
  have:=aj.new ((w.alloc (.cells #[.string s, .nilIface] 229)).alloc (.cells #[.slice none 0 0] 22)) 225 #[.pointer (some ⟨w.heap.size,0,none⟩)]
  simpa using this
 have hbw:Below w.heap.size w (((w.alloc (.cells #[.string s, .nilIface] 229)).alloc (.cells #[.slice none 0 0] 22)).alloc (.cells #[.pointer (some ⟨w.heap.size,0,none⟩)] 225)) :=
  (((Below.refl _ _).alloc (Nat.le_refl _) _).alloc (by simp) _).alloc (by simp;omega) _
 have hsz:(((w.alloc (.cells #[.string s, .nilIface] 229)).alloc (.cells #[.slice none 0 0] 22)).alloc (.cells #[.pointer (some ⟨w.heap.size,0,none⟩)] 225)).heap.size=w.heap.size+3:=by simp
 generalize ((w.alloc (.cells #[.string s, .nilIface] 229)).alloc (.cells #[.slice none 0 0] 22)).alloc (.cells #[.pointer (some ⟨w.heap.size,0,none⟩)] 225)=wL at hb ho hn hbw hsz ⊢;have EF:E A B wL:=HE.o.below (hbw.mono hB);refine(wpIn_wide (n:=9)).1 (J6 (α:=Int) (gf:=228) (lb:=#[.pointer (some ⟨w.heap.size+1+1,0,none⟩)]) rfl (enters_of Tryz.func228 (by kernel_rfl) rfl)
  (encs:=λx=>#[.int .i64 x]) (own:=λk=>k=w.heap.size) (keep:=λk=>k=w.heap.size\/k=w.heap.size+1+1\/k<B) (ok:=λpre _=>pre.length<s.size) (S:=Nc s A w.heap.size)
  (λk hk=>by omega)
  (λW1 ht=>ah6 7 A B w.heap.size (w.heap.size+1+1) s (by unfold maxLen;omega) _ W1 (EF.below (ht.below (by omega) (λ_ h=>h.elim))) hB (by omega) (by omega) (ht.blk hb (λh=>h)) (ht.blk hn (λh=>h)))
  (λ_=>rfl)
  (λpre W=>(∃ v,aj W (w.heap.size+1) 22 #[v]/\W.ownsRow (wL.heap.size+2) 3 1 v pre.length (pre.map (Value.int .i64)))/\Below w.heap.size w W)
  (λ_ _ _=>False) ?hI (λ_ _ _ _ h _=>h) ⟨⟨_,ho,World.ownsRow_nil _ _ _ _⟩,hbw⟩
  (λx a1 _=>a1={ tmps:=#[.string s,undef, .slice none 0 0, .int .i64 0, .pointer (some ⟨w.heap.size,0,none⟩), .pointer (some ⟨w.heap.size+1,0,none⟩), .int .i64 x, .string s, .agg #[.string s], .agg #[.string s, .nilIface], .pointer (some ⟨w.heap.size,0,none⟩), .pointer (some ⟨w.heap.size,0,none⟩), .func (.func 228) #[] #[.pointer (some ⟨w.heap.size+1+1,0,none⟩)], .int .i64 x,undef,undef,undef,undef,undef,undef,undef,undef,undef,undef,undef,undef,undef,undef,undef],defers:=[] })
  (λ_ _ _ _ h _=>h) ?assign ?body ?done (λ_ _ _ _ h _=>h.elim) ?hS)
 case hI =>
  rintro pre W W' ⟨⟨v,hv,hr⟩,hB'⟩ ht;refine⟨⟨v,ht.blk hv (by omega),ht.row hr (λk hk=>by have:=(hr.lt k hk).1;omega)⟩,hB'.trans (ht.below hB'.size (λk hk=>by omega))⟩
 case assign =>
  intro x W K _ hK
  gi_wp2
  exact hK _ _ (Turns.refl _ _) rfl
 case hS =>
  rintro xs W W' (⟨h1,s',h2⟩ | ⟨h1,s',h2⟩) ht
  ·exact .inl ⟨h1,s',ht.blk h2 (by omega)⟩
  ·exact .inr ⟨h1,s',ht.blk h2 (by omega)⟩
 case body =>
  rintro pre x a1 W hW ⟨⟨v,hv,hr⟩,hB'⟩ hlen rfl;obtain⟨i0,hi,hz0,hz1,hz2⟩:=info_parts KD;have hc:W.cell? ⟨w.heap.size+1,0,none⟩=some v:=(hv.cell 0).trans rfl;have hf:=hv.frozen 0;have HV:=bx hv;have hlt:=hv.lt;have hsz':=hB'.size;clear hv;have hnb:v.ownBlock≠some (w.heap.size+1):=λe=>by have:=(hr.lt _ e).1;omega
  have yw:=bx hnb;have aU:=bx hsz;clear hnb hsz EF hbw hb ho hn
  gi_wp2_with (gi_at_builtin;refine wpListIn_append_own _ rfl _ _ 22 rfl (wL.heap.size+2) 3 i0 (.int .i64 0) 1 8 Tryz.underlying22 hi hz0 hz1 hz2 rfl (by decide) _ _ _ rfl (hr.alloc _) ⟨W.heap.size,0,none⟩ 1 1 [.int .i64 x] rfl rfl (cell_one_new _ _ _) (by simp [Value.oneCell']) (by unfold maxLen;omega) (by omega) (by simp;omega) ?_;intro v' w1 hown' hgrow _;obtain⟨g',cap',rfl⟩:=ownsRow_succ hown';have hv1:=(HV.o.alloc _).grown hgrow (Ne.symm yw.o);have hc1:=hv1.cell 0;have hf1:=hv1.frozen 0;simp at hc1)
  have hlt':=λk (hk:v.ownBlock=some k)=>hr.lt k hk
  have hT:Turns (λk=>v.ownBlock=some k\/k=w.heap.size+1) W (w1.setCell ⟨w.heap.size+1,0,none⟩ (.slice (some ⟨g',0,none⟩) (pre.length+1) cap')) :=
   ((Turns.alloc W _).trans (Turns.alE hgrow (λk hk=>.inl hk))).trans (Turns.setCell _ (.inr rfl) _)
  have hz:=aU.o;have hg':=(hown'.lt g' rfl).1;have hn1:=yw.o;refine⟨Holds.xJ hT (λk hk=>by omega) (λk hk h=>?_),⟨_,hv1.dh 0 _,?_⟩,hB'.trans (hT.below hB'.size (λk hk=>?_))⟩
  ·rcases h with h | h
   ·have:=(hlt' k h).1;omega
   ·omega
  ·have:=(Turns.setCell (own:=λk=>k=w.heap.size+1) w1 (p:=⟨w.heap.size+1,0,none⟩) rfl (.slice (some ⟨g',0,none⟩) (pre.length+1) cap')).row hown' (λk hk=>by simp [Value.ownBlock] at hk;omega)
   simpa using this
  ·rcases hk with hk | hk
   ·have:=(hlt' k hk).1;omega
   ·omega
 case done =>
  intro xs W hW hS ⟨⟨v,hv,hr⟩,hB'⟩ hD;have HV:=bx hv;have hc:W.cell? ⟨w.heap.size+1,0,none⟩=some v:=(hv.cell 0).trans rfl;have HR:=bx hr;have HD:=bx hD;have aU:=bx hsz;clear hr hD hsz hv EF hbw hb ho hn
  rcases hS with⟨h1,s',h2⟩ | ⟨h1,s',h2⟩
  ·have e1:W.cell? ⟨w.heap.size,1,none⟩=some .nilIface:=(h2.cell 1).trans rfl;have HS:=bx h1;clear h1 h2;go_wp2_with fail;refine⟨by simp, .inl ⟨_,_,rfl,run_takeDeferred HD.o,?_⟩⟩;refine⟨_,results_tmp2 rfl _ _ _,?_⟩;have hz:=aU.o;unfold KA;rw [HS.o];refine⟨hB'.trans ((Turns.putObj (own:=λk=>k=wL.heap.size) W rfl _).below hB'.size (λk hk=>by omega)),v,rfl,?_⟩;have hr:=(Turns.putObj (own:=λk=>k=wL.heap.size) W rfl (.deferred none)).row HR.o (λk hk=>by have:=(HR.o.lt k hk).1;omega);exact am6 hr (by omega)
  ·have e1:W.cell? ⟨w.heap.size,1,none⟩=some (jZ A 7):=(h2.cell 1).trans rfl;unfold jZ at e1;have HS:=bx h1;have HT:=bx (agr A B W (HE.o.below (hB'.mono hB)));clear h1 h2;go_wp2_with (go_at_call 95;refine HT.o.mono ?_;rintro e w' ⟨rfl,rfl⟩)
   refine⟨by simp, .inl ⟨_,_,rfl,run_takeDeferred HD.o,?_⟩⟩;refine⟨_,results_tmp2 rfl _ _ _,?_⟩;have hz:=aU.o;unfold KA;rw [HS.o];exact⟨hB'.trans ((Turns.putObj (own:=λk=>k=wL.heap.size) W rfl _).below hB'.size (λk hk=>by omega)),rfl⟩
theorem ahr (A:Nat->Addr) (B:Nat) (s:ByteArray) (w:World) (hs:s.size<=16777216) (hE:E A B w) (hB:B<=w.heap.size) :
  Calls Tryz.prog 158 #[.string s] w λe w'=>e = .returned (.bool (U.valid s.data.toList))/\Below w.heap.size w w':=by
 have HS:=bx (amX A B s w hs hE hB);clear hE
 go_enter Tryz.func158,Tryz.ntmps158
 go_wp2_with fail;refine HS.o.mono ?_;rintro e w' ⟨hb,hp⟩
 cases hd:U.scalars s.data.toList with
 | none =>
  rw [hd] at hp;obtain rfl:=hp;have HV:=bx (show U.valid s.data.toList=false by unfold U.valid;rw [hd];rfl);clear hd;go_wp2_with fail;go_ret
  exact⟨by rw [HV.o];rfl,hb⟩
 | some xs =>
  rw [hd] at hp;obtain⟨v,rfl,_⟩:=hp;have HV:=bx (show U.valid s.data.toList=true by unfold U.valid;rw [hd];rfl);clear hd;go_wp2_with fail;go_ret
  exact⟨by rw [HV.o];rfl,hb⟩
end
end Go.Proofs.YtdenoeakcflnmaaGreatDoor
