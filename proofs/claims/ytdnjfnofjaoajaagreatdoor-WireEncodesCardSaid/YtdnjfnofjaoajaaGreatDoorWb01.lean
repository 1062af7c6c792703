/- Walks and laws, joined: Wb01. -/
import Derived.Below
import Derived.BigQuiet
import Derived.Test.YtdnjfnofjaoajaaGreatDoorRows
import Derived.WalkKit
import Derived.Lib.Hide
import Derived.Lib.SmallJoins
import Derived.Lib.SlBytesConst
import Derived.LaidEql
import Derived.Stop.Asserts
import Derived.RowKitTokens
import Derived.WalkSpells
import Derived.OwnWalkIn
import Derived.RangeFuncRecord
import Derived.Deep.RegionLaw
import Derived.BigRegion
import Derived.Deep.CutBlock
import Derived.Deep.DeepCutAuto
import Derived.LoopIn
import Derived.LoopNIn
import Derived.RangeFuncBound
import Derived.RangeFuncCalls
import Derived.RangeFuncLeaves
import Derived.RangeFuncNested
import Derived.Shelf.Abstract
import Derived.Shelf.RegionOpen
import Derived.Sort.CutIn
import Derived.StillTailTactics
import Derived.TacticsInMore
import Derived.Laws.Bits64
import Derived.Deep.RegionWith
import Derived.Deep.AppendLies
import Derived.RegionTactic
import Derived.OwnWalk
import Derived.Deep.RegionHeld3
import Derived.Shelf.SlSortCmp.WholeK
import Derived.Ground.SlsfProg
import Derived.Test.YtdnjfnofjaoajaaGreatDoorProg
import Derived.Shelf.Small.Bits
import Derived.Shelf.Small.Wraps
import Derived.Shelf.Strconv.Itoa0
import Derived.Shelf.Slices.Equal
import Derived.Ground.Names2Prog
import Derived.Shelf.Slices.SearchI
import Derived.Shelf.Slices.Empties2
import Derived.Sort.WalkA
import Derived.Sort.WalkA6
import Derived.Sort.WalkB3
import Derived.Sort.WalkC4
import Derived.Sort.WalkD2
import Derived.Sort.Walk7
import Derived.Sort.Walk11
import Derived.Sort.Walk13
import Derived.Sort.WalkA14
import Derived.Sort.AssemblyPlain
import Derived.Lib.BitFns
import Derived.Laws.BitsAllLaws
import Derived.Laws.CopyOwn
import Derived.Lib.Overlaps
import Derived.Lib.AppendZerosOnto
import Derived.Shelf.RegionOpenPlain
set_option linter.unusedVariables false
set_option maxHeartbeats 16000000
namespace Go.Proofs.YtdnjfnofjaoajaaGreatDoor
open Lib (hid)
section
open Go.RowKit
theorem vq (P:Program) (w:World) (a:Addr) (m:Mode) (f:Fn) (t c:Array Value):(store a (.func f t c) m).run P w=stored P w a (.func f t c) m:=run_store P w a _ m rfl
theorem zu {W:World} {g i:Nat} {C:Array Value} {T:TypeId} {fr:Nat×Nat} {v:Value} (h:W.heap[g]?=some (.cells C T fr)) (hv:C[i]?=some v):W.cell? ⟨g,i,none⟩=some v:=by
 simp only[World.cell?,h];exact hv
theorem ko {α:Type} {f:Nat→Option α} {k:Nat} (h:∀j,j<k→f j=none) (hk:f k=none):∀j,j<k+1→f j=none:=fun j hj=>by
 by_cases e:j=k
 · rw[e];exact hk
 · exact h j (by omega)
end
end Go.Proofs.YtdnjfnofjaoajaaGreatDoor
section
namespace Go.Proofs
open Go.Shelf
def Tryz.pdqIv_ren:Go.Shelf.Ren:=⟨fun | 14=>161 | 20=>208 | 21=>209 | 22=>210 | 23=>211 | 24=>212 | 25=>213 | 26=>214 | 27=>215 | 46=>248 | 47=>249 | 48=>250 | 49=>251 | 50=>252 | 15=>162 | 57=>269 | 28=>216 | 29=>64 | n=>n,fun | 24=>99 | 22=>80 | 3=>3 | 25=>149 | 4=>4 | 0=>0 | 46=>299 | 45=>298 | 50=>286 | 66=>337 | 39=>184 | 55=>52 | 70=>220 | 76=>358 | 77=>32 | 53=>142 | 5=>5 | 9=>9 | n=>n,fun | n=>n⟩
theorem Tryz.pdqIv:Go.Proofs.SlLaysF0.n14 Tryz.prog Tryz.pdqIv_ren:={
 mixed:=by kernel_rfl
 f14:=⟨Tryz.f161.name,by decide,Tryz.func161.trans (congrArg some (by kernel_rfl))⟩
 f15:=Tryz.func162.trans (congrArg some (by kernel_rfl))
 f20:=⟨Tryz.f208.name,by decide,Tryz.func208.trans (congrArg some (by kernel_rfl))⟩
 f21:=⟨Tryz.f209.name,by decide,Tryz.func209.trans (congrArg some (by kernel_rfl))⟩
 f22:=⟨Tryz.f210.name,by decide,Tryz.func210.trans (congrArg some (by kernel_rfl))⟩
 f23:=⟨Tryz.f211.name,by decide,Tryz.func211.trans (congrArg some (by kernel_rfl))⟩
 f24:=⟨Tryz.f212.name,by decide,Tryz.func212.trans (congrArg some (by kernel_rfl))⟩
 f25:=⟨Tryz.f213.name,by decide,Tryz.func213.trans (congrArg some (by kernel_rfl))⟩
 f26:=⟨Tryz.f214.name,by decide,Tryz.func214.trans (congrArg some (by kernel_rfl))⟩
 f27:=⟨Tryz.f215.name,by decide,Tryz.func215.trans (congrArg some (by kernel_rfl))⟩
 f28:=Tryz.func216.trans (congrArg some (by kernel_rfl))
 f29:=Tryz.func64.trans (congrArg some (by kernel_rfl))
 f46:=⟨Tryz.f248.name,by decide,Tryz.func248.trans (congrArg some (by kernel_rfl))⟩
 f47:=Tryz.func249.trans (congrArg some (by kernel_rfl))
 f48:=Tryz.func250.trans (congrArg some (by kernel_rfl))
 f49:=⟨Tryz.f251.name,by decide,Tryz.func251.trans (congrArg some (by kernel_rfl))⟩
 f50:=⟨Tryz.f252.name,by decide,Tryz.func252.trans (congrArg some (by kernel_rfl))⟩
 f57:=⟨Tryz.f269.name,by decide,Tryz.func269.trans (congrArg some (by kernel_rfl))⟩
 t0:=Tryz.underlying0
 a0:=Tryz.isAgg0
 z0:=Tryz.sizeOf0
 v0:=Tryz.zeroValue0
 t3:=Tryz.underlying3
 a3:=Tryz.isAgg3
 z3:=Tryz.sizeOf3
 v3:=Tryz.zeroValue3
 t4:=Tryz.underlying4
 a4:=Tryz.isAgg4
 z4:=Tryz.sizeOf4
 v4:=Tryz.zeroValue4
 t5:=Tryz.underlying5
 a5:=Tryz.isAgg5
 z5:=Tryz.sizeOf5
 v5:=Tryz.zeroValue5
 t9:=Tryz.underlying9
 a9:=Tryz.isAgg9
 z9:=Tryz.sizeOf9
 v9:=Tryz.zeroValue9
 t22:=Tryz.underlying80
 a22:=Tryz.isAgg80
 z22:=Tryz.sizeOf80
 v22:=Tryz.zeroValue80
 t25:=Tryz.underlying149
 a25:=Tryz.isAgg149
 z25:=Tryz.sizeOf149
 v25:=Tryz.zeroValue149
 t39:=Tryz.underlying184
 a39:=Tryz.isAgg184
 z39:=Tryz.sizeOf184
 v39:=Tryz.zeroValue184
 t45:=Tryz.underlying298
 a45:=Tryz.isAgg298
 z45:=Tryz.sizeOf298
 v45:=Tryz.zeroValue298
 t46:=Tryz.underlying299
 a46:=Tryz.isAgg299
 z46:=Tryz.sizeOf299
 v46:=Tryz.zeroValue299
 t50:=Tryz.underlying286
 a50:=Tryz.isAgg286
 z50:=Tryz.sizeOf286
 v50:=Tryz.zeroValue286
 t53:=Tryz.underlying142
 a53:=Tryz.isAgg142
 z53:=Tryz.sizeOf142
 v53:=Tryz.zeroValue142
 t55:=Tryz.underlying52
 a55:=Tryz.isAgg52
 z55:=Tryz.sizeOf52
 v55:=Tryz.zeroValue52
 t66:=Tryz.underlying337
 a66:=Tryz.isAgg337
 z66:=Tryz.sizeOf337
 v66:=Tryz.zeroValue337
 t70:=Tryz.underlying220
 a70:=Tryz.isAgg220
 z70:=Tryz.sizeOf220
 v70:=Tryz.zeroValue220
 t76:=Tryz.underlying358
 a76:=Tryz.isAgg358
 z76:=Tryz.sizeOf358
 v76:=Tryz.zeroValue358
 t77:=Tryz.underlying32
 a77:=Tryz.isAgg32
 z77:=Tryz.sizeOf32
 v77:=Tryz.zeroValue32 }
end Go.Proofs
end
namespace Go.Proofs.YtdnjfnofjaoajaaGreatDoor
open Lib (hid)
section
open Go.RowKit
theorem zmd (x:Nat) (w:World):Calls Tryz.prog 163 #[.int .u64 x] w fun e w'=>e=.returned (.bool false)∧w'=w:=by
 go_enter Tryz.func163,Tryz.ntmps163;go_wp2;go_ret;exact⟨by simp,rfl⟩
theorem zme (x y:Nat) (w:World):Calls Tryz.prog 123 #[.int .u64 x,.int .u64 y] w fun e w'=>e=.returned (.int .i64 (Lib.compareInt (x:Int) (y:Int)))∧w'=w:=by
 unfold Lib.compareInt;by_cases h1:x<y
 · rw[if_pos (by omega)];go_enter Tryz.func123,Tryz.ntmps123;go_wp2_with (go_at_call 163;refine(zmd _ _).mono ?_;rintro e w1 ⟨rfl,rfl⟩);go_ret;exact⟨rfl,rfl⟩
 · rw[if_neg (by omega)];by_cases h2:y<x
   · rw[if_pos (by omega)];go_enter Tryz.func123,Tryz.ntmps123;go_wp2_with (go_at_call 163;refine(zmd _ _).mono ?_;rintro e w1 ⟨rfl,rfl⟩);go_ret;exact⟨rfl,rfl⟩
   · rw[if_neg (by omega)];go_enter Tryz.func123,Tryz.ntmps123;go_wp2_with (go_at_call 163;refine(zmd _ _).mono ?_;rintro e w1 ⟨rfl,rfl⟩);go_ret;exact⟨rfl,rfl⟩
def nth (l:List Nat) (k:Nat):Nat:=l.getD k 0
theorem zyr {l:List Nat} {B:Nat} (h:∀x∈l,x<B) (hB:0<B) (k:Nat):nth l k<B:=by
 unfold nth;rw[List.getD_eq_getElem?_getD];by_cases hk:k<l.length
 · rw[List.getElem?_eq_getElem hk];exact h _ (List.getElem_mem hk)
 · rw[List.getElem?_eq_none (by omega)];exact hB
theorem zmf (l:List Nat) (k:Nat) (h:k<l.length):l.take (k+1)=l.take k++[nth l k]:=by
 rw[List.take_succ_eq_append_getElem h];simp[nth,h]
def u8s (l:List Nat):List Value:=l.map fun x=>Value.int .u8 ((x:Nat):Int)
theorem zf8 (a b:List Nat):u8s (a++b)=u8s a++u8s b:=by simp[u8s]
theorem zp3 (a:List Nat):(u8s a).length=a.length:=by simp[u8s]
theorem zp4 (l:List Nat) (i:Nat) (h:i<l.length):(u8s l)[i]?=some (.int .u8 ((nth l i:Nat):Int)):=by simp[u8s,nth,h]
end
end Go.Proofs.YtdnjfnofjaoajaaGreatDoor
section
namespace Go.Proofs
open Go.Shelf
def Tryz.lays128_ren:Go.Shelf.Ren:=⟨fun | 128=>216 | n=>n,fun | 51=>142 | 3=>3 | 4=>4 | 46=>184 | 5=>5 | 9=>9 | n=>n,fun | n=>n⟩
theorem Tryz.lays128:Go.Proofs.Lays.n128 Tryz.prog Tryz.lays128_ren:={
 mixed:=by kernel_rfl
 f128:=Tryz.func216.trans (congrArg some (by kernel_rfl))
 t3:=Tryz.underlying3
 a3:=Tryz.isAgg3
 z3:=Tryz.sizeOf3
 v3:=Tryz.zeroValue3
 t4:=Tryz.underlying4
 a4:=Tryz.isAgg4
 z4:=Tryz.sizeOf4
 v4:=Tryz.zeroValue4
 t5:=Tryz.underlying5
 a5:=Tryz.isAgg5
 z5:=Tryz.sizeOf5
 v5:=Tryz.zeroValue5
 t9:=Tryz.underlying9
 a9:=Tryz.isAgg9
 z9:=Tryz.sizeOf9
 v9:=Tryz.zeroValue9
 t46:=Tryz.underlying184
 a46:=Tryz.isAgg184
 z46:=Tryz.sizeOf184
 v46:=Tryz.zeroValue184
 t51:=Tryz.underlying142
 a51:=Tryz.isAgg142
 z51:=Tryz.sizeOf142
 v51:=Tryz.zeroValue142 }
theorem Tryz.bits_Len32 (x:Int) (w:World) (h0:0≤x) (h1:x≤4294967295):
 Calls Tryz.prog 216 #[.int .u32 x] w fun e w'=>e=.returned (.int .i64 (Lib.bitLen x.toNat))∧w'=w:=Any.bits_Len32 Tryz.lays128 x w h0 h1
def Tryz.lays125_ren:Go.Shelf.Ren:=⟨fun | 125=>162 | 128=>216 | 129=>64 | n=>n,fun | 46=>184 | 3=>3 | 51=>142 | 53=>52 | 4=>4 | 5=>5 | 9=>9 | n=>n,fun | n=>n⟩
theorem Tryz.lays125:Go.Proofs.Lays.n125 Tryz.prog Tryz.lays125_ren:={
 mixed:=by kernel_rfl
 f125:=Tryz.func162.trans (congrArg some (by kernel_rfl))
 f128:=Tryz.func216.trans (congrArg some (by kernel_rfl))
 f129:=Tryz.func64.trans (congrArg some (by kernel_rfl))
 t3:=Tryz.underlying3
 a3:=Tryz.isAgg3
 z3:=Tryz.sizeOf3
 v3:=Tryz.zeroValue3
 t4:=Tryz.underlying4
 a4:=Tryz.isAgg4
 z4:=Tryz.sizeOf4
 v4:=Tryz.zeroValue4
 t5:=Tryz.underlying5
 a5:=Tryz.isAgg5
 z5:=Tryz.sizeOf5
 v5:=Tryz.zeroValue5
 t9:=Tryz.underlying9
 a9:=Tryz.isAgg9
 z9:=Tryz.sizeOf9
 v9:=Tryz.zeroValue9
 t46:=Tryz.underlying184
 a46:=Tryz.isAgg184
 z46:=Tryz.sizeOf184
 v46:=Tryz.zeroValue184
 t51:=Tryz.underlying142
 a51:=Tryz.isAgg142
 z51:=Tryz.sizeOf142
 v51:=Tryz.zeroValue142
 t53:=Tryz.underlying52
 a53:=Tryz.isAgg52
 z53:=Tryz.sizeOf52
 v53:=Tryz.zeroValue52 }
theorem Tryz.bits_Len (x:Int) (w:World) (h0:0≤x) (h1:x≤18446744073709551615):
 Calls Tryz.prog 162 #[.int .u64 x] w fun e w'=>e=.returned (.int .i64 (Lib.bitLen x.toNat))∧w'=w:=Any.bits_Len Tryz.lays125 x w h0 h1
def Tryz.lays215_ren:Go.Shelf.Ren:=⟨fun | 215=>262 | n=>n,fun | 3=>3 | 4=>4 | n=>n,fun | n=>n⟩
theorem Tryz.lays215:Go.Proofs.Lays.n215 Tryz.prog Tryz.lays215_ren:={
 mixed:=by kernel_rfl
 f215:=Tryz.func262.trans (congrArg some (by kernel_rfl))
 t3:=Tryz.underlying3
 a3:=Tryz.isAgg3
 z3:=Tryz.sizeOf3
 v3:=Tryz.zeroValue3
 t4:=Tryz.underlying4
 a4:=Tryz.isAgg4
 z4:=Tryz.sizeOf4
 v4:=Tryz.zeroValue4 }
open Go.RowKit in
theorem Tryz.cmp_isNaN_int (x:Int) (w:World):
 Calls Tryz.prog 262 #[.int .i64 x] w fun e w'=>e=.returned (.bool false)∧w'=w:=Any.cmp_isNaN_int Tryz.lays215 x w
def Tryz.lays122_ren:Go.Shelf.Ren:=⟨fun | 122=>235 | 215=>262 | n=>n,fun | 3=>3 | 4=>4 | n=>n,fun | n=>n⟩
theorem Tryz.lays122:Go.Proofs.Lays.n122 Tryz.prog Tryz.lays122_ren:={
 mixed:=by kernel_rfl
 f122:=Tryz.func235.trans (congrArg some (by kernel_rfl))
 f215:=Tryz.func262.trans (congrArg some (by kernel_rfl))
 t3:=Tryz.underlying3
 a3:=Tryz.isAgg3
 z3:=Tryz.sizeOf3
 v3:=Tryz.zeroValue3
 t4:=Tryz.underlying4
 a4:=Tryz.isAgg4
 z4:=Tryz.sizeOf4
 v4:=Tryz.zeroValue4 }
open Go.RowKit in
theorem Tryz.cmp_Compare_int (x y:Int) (w:World):
 Calls Tryz.prog 235 #[.int .i64 x,.int .i64 y] w fun e w'=>e=.returned (.int .i64 (Lib.compareInt x y))∧w'=w:=Any.cmp_Compare_int Tryz.lays122 x y w
def Tryz.lays129_ren:Go.Shelf.Ren:=⟨fun | 129=>64 | n=>n,fun | 53=>52 | 3=>3 | 4=>4 | 46=>184 | 5=>5 | 9=>9 | n=>n,fun | n=>n⟩
theorem Tryz.lays129:Go.Proofs.Lays.n129 Tryz.prog Tryz.lays129_ren:={
 mixed:=by kernel_rfl
 f129:=Tryz.func64.trans (congrArg some (by kernel_rfl))
 t3:=Tryz.underlying3
 a3:=Tryz.isAgg3
 z3:=Tryz.sizeOf3
 v3:=Tryz.zeroValue3
 t4:=Tryz.underlying4
 a4:=Tryz.isAgg4
 z4:=Tryz.sizeOf4
 v4:=Tryz.zeroValue4
 t5:=Tryz.underlying5
 a5:=Tryz.isAgg5
 z5:=Tryz.sizeOf5
 v5:=Tryz.zeroValue5
 t9:=Tryz.underlying9
 a9:=Tryz.isAgg9
 z9:=Tryz.sizeOf9
 v9:=Tryz.zeroValue9
 t46:=Tryz.underlying184
 a46:=Tryz.isAgg184
 z46:=Tryz.sizeOf184
 v46:=Tryz.zeroValue184
 t53:=Tryz.underlying52
 a53:=Tryz.isAgg52
 z53:=Tryz.sizeOf52
 v53:=Tryz.zeroValue52 }
theorem Tryz.bits_Len64 (x:Int) (w:World) (h0:0≤x) (h1:x≤18446744073709551615):
 Calls Tryz.prog 64 #[.int .u64 x] w fun e w'=>e=.returned (.int .i64 (Lib.bitLen x.toNat))∧w'=w:=Any.bits_Len64 Tryz.lays129 x w h0 h1
def Tryz.lays111_ren:Go.Shelf.Ren:=⟨fun | 111=>242 | n=>n,fun | 28=>111 | 3=>3 | 4=>4 | 0=>0 | n=>n,fun | n=>n⟩
theorem Tryz.lays111:Go.Proofs.Lays.n111 Tryz.prog Tryz.lays111_ren:={
 mixed:=by kernel_rfl
 f111:=Tryz.func242.trans (congrArg some (by kernel_rfl))
 t0:=Tryz.underlying0
 a0:=Tryz.isAgg0
 z0:=Tryz.sizeOf0
 v0:=Tryz.zeroValue0
 t3:=Tryz.underlying3
 a3:=Tryz.isAgg3
 z3:=Tryz.sizeOf3
 v3:=Tryz.zeroValue3
 t4:=Tryz.underlying4
 a4:=Tryz.isAgg4
 z4:=Tryz.sizeOf4
 v4:=Tryz.zeroValue4
 t28:=Tryz.underlying111
 a28:=Tryz.isAgg111
 z28:=Tryz.sizeOf111
 v28:=Tryz.zeroValue111 }
open Go.RowKit Go.Lib in
theorem Tryz.slices_Equal_int (b1 o1 n c b2 o2 m d:Nat) (xs ys:List Int) (w:World) (hx:n≤xs.length) (hy:m≤ys.length) (hbig:n≤9223372036854775807) (hbig2:m≤9223372036854775807) (hc1:∀j,j<xs.length→w.cell? ⟨b1,o1+j,none⟩=some (.int .i64 (xs.getD j 0))) (hc2:∀j,j<ys.length→w.cell? ⟨b2,o2+j,none⟩=some (.int .i64 (ys.getD j 0))):
 Calls Tryz.prog 242 #[.slice (some ⟨b1,o1,none⟩) n c,.slice (some ⟨b2,o2,none⟩) m d] w fun e w'=>e=.returned (.bool (xs.take n == ys.take m))∧∃q,w'=w.drewN q:=Any.slices_Equal_int Tryz.lays111 b1 o1 n c b2 o2 m d xs ys w hx hy hbig hbig2 hc1 hc2
open Go.RowKit Go.Lib in
theorem Tryz.slices_Equal_int_empty (a1 a2:Option Addr) (c m d:Nat) (w:World) (hbig2:m≤9223372036854775807):
 Calls Tryz.prog 242 #[.slice a1 0 c,.slice a2 m d] w fun e w'=>e=.returned (.bool (decide (m=0)))∧w'=w:=Any.slices_Equal_int_empty Tryz.lays111 a1 a2 c m d w hbig2
def Tryz.laysNm237_ren:Go.Shelf.Ren:=⟨fun | 37=>262 | n=>n,fun | 3=>3 | 4=>4 | n=>n,fun | n=>n⟩
theorem Tryz.laysNm237:Go.Proofs.Lays2.n37 Tryz.prog Tryz.laysNm237_ren:={
 mixed:=by kernel_rfl
 f37:=Tryz.func262.trans (congrArg some (by kernel_rfl))
 t3:=Tryz.underlying3
 a3:=Tryz.isAgg3
 z3:=Tryz.sizeOf3
 v3:=Tryz.zeroValue3
 t4:=Tryz.underlying4
 a4:=Tryz.isAgg4
 z4:=Tryz.sizeOf4
 v4:=Tryz.zeroValue4 }
open Go.RowKit Go.Lib in
theorem Tryz.cmp_isNaN_int2 (x:Int) (w:World):
 Calls Tryz.prog 262 #[.int .i64 x] w fun e w'=>e=.returned (.bool false)∧w'=w:=Any.cmp_isNaN_int2 Tryz.laysNm237 x w
open Go.RowKit Go.Lib in
theorem Tryz.slices_Equal_int_lens (a1 a2:Option Addr) (n c m d:Nat) (w:World) (hnm:n≠m):
 Calls Tryz.prog 242 #[.slice a1 n c,.slice a2 m d] w fun e w'=>e=.returned (.bool false)∧w'=w:=Any.slices_Equal_int_lens Tryz.lays111 a1 a2 n c m d w hnm
end Go.Proofs
end
namespace Go.Proofs.YtdnjfnofjaoajaaGreatDoor
open Lib (hid)
section
abbrev Iv:=Nat×Nat
def mem (l:List Iv) (x:Nat):Bool:=l.any fun s=>decide (s.1≤x) && decide (x≤s.2)
theorem mem_iff {l:List Iv} {x:Nat}:mem l x=true↔∃s∈l,s.1≤x∧x≤s.2:=by simp[mem]
theorem zbx (x:Nat):mem [] x=false:=rfl
theorem mem_cons (s:Iv) (l:List Iv) (x:Nat):mem (s :: l) x=(decide (s.1≤x) && decide (x≤s.2) || mem l x):=rfl
theorem mem_append (a b:List Iv) (x:Nat):mem (a++b) x=(mem a x || mem b x):=by simp[mem]
theorem zfj {l:List Iv} {x:Nat}:mem l x=false↔∀s∈l,¬(s.1≤x∧x≤s.2):=by
 rw[←Bool.not_eq_true,mem_iff];simp
def Good:List Iv→Prop
 | []=>True
 | [s]=>s.1≤s.2
 | s :: t :: l=>s.1≤s.2∧s.2+1<t.1∧Good (t :: l)
theorem Good.tail {s:Iv} {l:List Iv} (h:Good (s :: l)):Good l:=by
 cases l with
 | nil=>trivial
 | cons t l=>exact h.2.2
theorem Good.head {s:Iv} {l:List Iv} (h:Good (s :: l)):s.1≤s.2:=by
 cases l with
 | nil=>exact h
 | cons t l=>exact h.1
theorem Good.lower:∀{s:Iv} {l:List Iv},Good (s :: l)→∀t∈l,s.2+1<t.1
 | s,[],_,t,ht=>by simp at ht
 | s,u :: l,h,t,ht=>by
   rcases List.mem_cons.1 ht with rfl | ht
   · exact h.2.1
   · have h1:=Good.lower h.2.2 t ht;have h2:=h.2.2.head;have h3:=h.2.1;omega
theorem Good.ok:∀{l:List Iv},Good l→∀t∈l,t.1≤t.2
 | [],_,t,ht=>by simp at ht
 | s :: l,h,t,ht=>by
   rcases List.mem_cons.1 ht with rfl | ht
   · exact h.head
   · exact Good.ok h.tail t ht
theorem zmg {s:Iv} {l:List Iv} (h1:s.1≤s.2) (h2:∀t∈l,s.2+1<t.1) (h:Good l):Good (s :: l):=by
 cases l with
 | nil=>exact h1
 | cons t l=>exact⟨h1,h2 t (List.mem_cons_self ..),h⟩
theorem Good.mem_lower {s:Iv} {l:List Iv} (h:Good (s :: l)) {x:Nat} (hx:mem l x=true):s.2+1<x:=by
 obtain⟨t,ht,h1,h2⟩:=mem_iff.1 hx;have:=h.lower t ht;omega
theorem Good.mem_least {s:Iv} {l:List Iv} (h:Good (s :: l)) {x:Nat} (hx:mem (s :: l) x=true):s.1≤x:=by
 obtain⟨t,ht,h1,h2⟩:=mem_iff.1 hx;rcases List.mem_cons.1 ht with rfl | ht
 · exact h1
 · have:=h.lower t ht;have:=h.head;omega
theorem zf9 {s:Iv} {l:List Iv} {x:Nat} (h1:s.1≤x) (h2:x≤s.2):mem (s :: l) x=true:=
 mem_iff.2 ⟨s,List.mem_cons_self ..,h1,h2⟩
theorem zp5 {s:Iv} {l:List Iv} {x:Nat} (h:mem l x=true):mem (s :: l) x=true:=by
 rw[mem_cons,h,Bool.or_true]
theorem zjm {s:Iv} {l:List Iv} {x:Nat} (h:mem (s :: l) x=true) (hs:s.2<x):mem l x=true:=by
 rw[mem_cons] at h;have:decide (x≤s.2)=false:=by rw[decide_eq_false_iff_not];omega
 rw[this,Bool.and_false,Bool.false_or] at h;exact h
theorem zhh:∀{l l':List Iv},Good l→Good l'→(∀x,mem l x=mem l' x)→l=l'
 | [],[],_,_,_=>rfl
 | [],t :: l',_,h',e=>by
   have:=(e t.1).symm.trans rfl;rw[zbx,zf9 (Nat.le_refl _) h'.head] at this
   cases this
 | s :: l,[],h,_,e=>by
   have:=e s.1;rw[zbx,zf9 (Nat.le_refl _) h.head] at this
   cases this
 | s :: l,t :: l',h,h',e=>by
   have e1:s.1=t.1:=by
    have a:=h'.mem_least (x:=s.1) (by rw[←e];exact zf9 (Nat.le_refl _) h.head);have b:=h.mem_least (x:=t.1) (by rw[e];exact zf9 (Nat.le_refl _) h'.head);omega
   have k1:=h.head;have k2:=h'.head
   have le1:s.2≤t.2:=by
    refine Nat.le_of_not_lt fun hlt=>?_
    have m:mem (t :: l') (t.2+1)=true:=by rw[←e];exact zf9 (by omega) (by omega)
    have:=h'.mem_lower (zjm m (by omega));omega
   have le2:t.2≤s.2:=by
    refine Nat.le_of_not_lt fun hlt=>?_
    have m:mem (s :: l) (s.2+1)=true:=by rw[e];exact zf9 (by omega) (by omega)
    have:=h.mem_lower (zjm m (by omega));omega
   have e2:s.2=t.2:=by omega
   have es:s=t:=Prod.ext e1 e2;subst es;congr 1;refine zhh h.tail h'.tail fun x=>?_
   rw[Bool.eq_iff_iff];constructor
   · intro hm;have:=h.mem_lower hm;exact zjm (by rw[←e];exact zp5 hm) (by omega)
   · intro hm;have:=h'.mem_lower hm;exact zjm (by rw[e];exact zp5 hm) (by omega)
theorem zmh:∀{l:List Iv} {s:Iv},Good l→s.1≤s.2→(∀t∈l,t.2+1<s.1)→Good (l++[s])
 | [],s,_,hs,_=>hs
 | t :: l,s,h,hs,hl=>by
   refine zmg h.head ?_ (zmh h.tail hs fun u hu=>hl u (List.mem_cons_of_mem _ hu));intro u hu;rcases List.mem_append.1 hu with hu | hu
   · exact h.lower u hu
   · simp at hu;subst hu;exact hl t (List.mem_cons_self ..)
theorem zjn:∀{l:List Iv} {s:Iv},Good (l++[s])→Good l∧s.1≤s.2∧∀t∈l,t.2+1<s.1
 | [],s,h=>⟨trivial,h,by simp⟩
 | t :: l,s,h=>by
   obtain⟨h1,h2,h3⟩:=zjn (l:=l) h.tail;refine⟨zmg h.head (fun u hu=>h.lower u (by simp[hu])) h1,h2,?_⟩;intro u hu;rcases List.mem_cons.1 hu with rfl | hu
   · exact h.lower s (by simp)
   · exact h3 u hu
theorem zys {l:List Iv} {s:Iv} {x:Nat} (h:Good (l++[s])) (hx:s.2≤x):Good (l++[(s.1,x)]):=by
 obtain⟨h1,h2,h3⟩:=zjn h;exact zmh h1 (Nat.le_trans h2 hx) h3
def zby (l:List Iv) (s:Iv):List Iv:=
 match l.getLast? with
 | none=>[s]
 | some t=>if t.2+1=s.1 then l.dropLast++[(t.1,s.2)] else l++[s]
theorem zga (s:Iv):zby [] s=[s]:=rfl
theorem zej (l:List Iv) (t s:Iv):zby (l++[t]) s=if t.2+1=s.1 then l++[(t.1,s.2)] else l++[t]++[s]:=by
 unfold zby;simp
theorem zcm {α:Type} (l:List α):l=[]∨∃a t,l=a++[t]:=by
 rcases List.eq_nil_or_concat l with h | ⟨a,t,h⟩
 · exact .inl h
 · exact .inr ⟨a,t,by simpa using h⟩
theorem zmi {l:List Iv} {s:Iv} (h:Good l) (hs:s.1≤s.2) (hl:∀t∈l,t.2<s.1):Good (zby l s)∧(∀x,mem (zby l s) x=(mem l x || (decide (s.1≤x) && decide (x≤s.2))))∧∀t∈zby l s,t.2≤s.2:=by
 rcases zcm l with rfl | ⟨a,t,rfl⟩
 · refine⟨hs,fun x=>?_,?_⟩
   · rw[zga,mem_cons];simp[zbx]
   · intro t ht;simp[zga] at ht;subst ht;exact Nat.le_refl _
 · obtain⟨h1,h2,h3⟩:=zjn h;have ht:=hl t (by simp);rw[zej];by_cases e:t.2+1=s.1
   · rw[if_pos e];refine⟨zys h (by omega),fun x=>?_,?_⟩
     · simp only[mem_append,mem_cons,zbx,Bool.or_false];rw[Bool.or_assoc];congr 1;rw[Bool.eq_iff_iff];simp;omega
     · intro u hu;rcases List.mem_append.1 hu with hu | hu
       · have:=hl u (by simp[hu]);omega
       · simp at hu;subst hu;exact Nat.le_refl _
   · rw[if_neg e];refine⟨zmh h hs ?_,fun x=>?_,?_⟩
     · intro u hu;rcases List.mem_append.1 hu with hu | hu
       · have:=h3 u hu;omega
       · simp at hu;subst hu;omega
     · simp only[mem_append,mem_cons,zbx,Bool.or_false]
     · intro u hu;rcases List.mem_append.1 hu with hu | hu
       · have:=hl u hu;omega
       · simp at hu;subst hu;exact Nat.le_refl _
def qu:List (Iv×Bool)→List Iv→List Iv
 | [],out=>out
 | (s,b) :: ps,out=>qu ps (if b then zby out s else out)
def zhi (top:Nat):Nat→List (Iv×Bool)→Prop
 | _,[]=>False
 | a,[(s,_)]=>s.1=a∧s.1≤s.2∧s.2=top
 | a,(s,_) :: p :: ps=>s.1=a∧s.1≤s.2∧s.2<top∧zhi top (s.2+1) (p :: ps)
theorem zmj {top:Nat}:∀{ps:List (Iv×Bool)} {a:Nat} {out:List Iv},zhi top a ps→Good out→(∀t∈out,t.2<a)→
 Good (qu ps out)∧∀x,mem (qu ps out) x=(mem out x || ps.any fun p=>p.2 && (decide (p.1.1≤x) && decide (x≤p.1.2)))
 | [],a,out,hc,_,_=>hc.elim
 | [(s,b)],a,out,hc,h,hl=>by
   obtain⟨h1,h2,h3⟩:=hc
   cases b with
   | false=>exact⟨h,fun x=>by simp[qu]⟩
   | true=>
    obtain⟨g1,g2,-⟩:=zmi h h2 (by rw[h1];exact hl)
    exact⟨g1,fun x=>by simp[qu,g2]⟩
 | (s,b) :: p :: ps,a,out,hc,h,hl=>by
   obtain⟨h1,h2,h3,h4⟩:=hc
   cases b with
   | false=>
    obtain⟨g1,g2⟩:=zmj (out:=out) h4 h (fun t ht=>by have:=hl t ht;omega);refine⟨g1,fun x=>?_⟩;have:=g2 x;rw[qu];simp only[Bool.false_eq_true,if_false];rw[this]
    simp
   | true=>
    obtain⟨k1,k2,k3⟩:=zmi h h2 (by rw[h1];exact hl);obtain⟨g1,g2⟩:=zmj (out:=zby out s) h4 k1 (fun t ht=>by have:=k3 t ht;omega);refine⟨g1,fun x=>?_⟩;have:=g2 x;rw[qu];simp only[if_true];rw[this,k2];simp[Bool.or_assoc]
end
section
open Go.RowKit
def ltU (x y:Nat):Bool:=decide (x<y)
abbrev zf:Nat→Value:=fun x=>Value.int .u64 (x:Int)
theorem zp6:Sort.SWO ltU:=by
 constructor;all_goals (intros;simp only[ltU,decide_eq_true_eq,decide_eq_false_iff_not] at *;try omega)
theorem zyt (x:Nat) (w:World):Calls Tryz.prog 163 #[.int .u64 (x:Int)] w fun e w'=>e=.returned (.bool false)∧w'=w:=by
 go_enter Tryz.func163,Tryz.ntmps163;go_wp2;go_ret;exact⟨by simp,rfl⟩
theorem jk (x y:Nat) (w:World):Calls Tryz.prog 279 #[.int .u64 (x:Int),.int .u64 (y:Int)] w fun e w'=>e=.returned (.bool (ltU x y))∧w'=w:=by
 go_enter Tryz.func279,Tryz.ntmps279;go_wp2_with (go_at_call 163;refine(zyt _ _).mono ?_;rintro e w' ⟨rfl,rfl⟩);go_ret;exact⟨by simp[ltU],rfl⟩
structure CellsU (w:World) (g o:Nat) (d:Array Nat) (n:Nat) (G:Nat→Nat):Prop where
 cell:∀t,t<n→w.cell? ⟨g,o+t,none⟩=some (.int .u64 (G t:Int))
 froz:∀t,t<n→w.frozen? ⟨g,o+t,none⟩=false
 val:∀t,G t=d[t]!
theorem zjo {w:World} {g o n:Nat} {d:Array Nat} (h:Sort.Holds zf w g o d) (hn:d.size=n):∃G,CellsU w g o d n G:=
 ⟨fun t=>d[t]!,fun t ht=>(h t (by omega)).1,fun t ht=>(h t (by omega)).2,fun t=>rfl⟩
theorem zhj {w wr:World} {g o n:Nat} {d dk:Array Nat} (h:Sort.Holds zf w g o d) (hs:dk.size=d.size) (hw:wr=Sort.putRow zf (Sort.ahead w n) g o dk):Sort.Holds zf wr g o dk:=by
 rw[hw];exact Sort.holds_putRow zf _ g o d dk (Sort.holds_ahead zf w n g o d h) hs
theorem zjp {w wr:World} {g o m:Nat} {dk:Array Nat} (hw:wr=Sort.putRow zf (Sort.ahead w m) g o dk) (q i j:Nat) (hi:i<dk.size) (hj:j<dk.size):
 (((wr.drewN q).setCell ⟨g,o+i,none⟩ (zf dk[j]!)).setCell ⟨g,o+j,none⟩ (zf dk[i]!))=Sort.putRow zf (Sort.ahead w (m+q)) g o (Sort.swp dk i j):=by
 subst hw;exact swap_worldA zf w m q g o dk i j hi hj
end
section
def vbF:Nat→Nat→List Nat
 | 0,x=>[x % 256]
 | k+1,x=>if x<128 then [x] else (x % 128+128) :: vbF k (x / 128)
theorem zcn (k x:Nat):vbF (k+1) x=if x<128 then [x] else (x % 128+128) :: vbF k (x / 128):=rfl
def jx (x:Nat):List Nat:=vbF 9 x
theorem zp7 (x:Nat):jx x=vbF 9 x:=rfl
theorem zhk:∀(k x:Nat),∀b∈vbF k x,b<256
 | 0,x,b,hb=>by simp[vbF] at hb;omega
 | k+1,x,b,hb=>by
   rw[zcn] at hb;split at hb
   · simp at hb;omega
   · rcases List.mem_cons.1 hb with rfl | hb
     · omega
     · exact zhk k (x / 128) b hb
theorem zyu (x:Nat):∀b∈jx x,b<256:=zhk 9 x
theorem zjq (k x:Nat):0<(vbF k x).length:=by
 cases k with
 | zero=>simp[vbF]
 | succ k=>rw[zcn];split <;> simp
theorem zhl:∀(k x:Nat),(vbF k x).length≤k+1
 | 0,x=>by simp[vbF]
 | k+1,x=>by
   rw[zcn];split
   · simp
   · have:=zhl k (x / 128);simp;omega
theorem zyv {k x:Nat} (h:1<(vbF k x).length):∃k',k=k'+1∧128≤x∧vbF k x=(x % 128+128) :: vbF k' (x / 128):=by
 cases k with
 | zero=>simp[vbF] at h
 | succ k=>
  rw[zcn] at h ⊢;split at h
  · simp at h
  · rename_i h1;rw[if_neg h1];exact⟨k,rfl,by omega,rfl⟩
theorem zyw {k m:Nat} (h:(vbF k m).length=1):vbF k m=[m % 256]:=by
 cases k with
 | zero=>rfl
 | succ k=>
  rw[zcn] at h ⊢;split at h
  · rename_i h1;rw[if_pos h1];congr 1;omega
  · have:=zjq k (m / 128);rw[List.length_cons] at h;exfalso;omega
theorem zp8:∀n:Fin 128,Lib.bitLen n.val≤7:=by decide +kernel
theorem zp9:∀(k x:Nat),x<2 ^ (7*k+1)→x<18446744073709551616→max 1 ((Lib.bitLen x+6) / 7)=(vbF k x).length
 | 0,x,h,_=>by
   simp at h;have:=zp8 ⟨x,by omega⟩;simp[vbF];simp at this
   omega
 | k+1,x,h,h64=>by
   rw[zcn];split
   · rename_i h1;have:=zp8 ⟨x,h1⟩;simp at this ⊢;omega
   · rename_i h1;have e:2 ^ (7*(k+1)+1)=2 ^ (7*k+1)*128:=by rw[show 7*(k+1)+1=(7*k+1)+7 from by omega,Nat.pow_add]
     rw[e] at h
     have hd:x / 128<2 ^ (7*k+1):=by
      clear e;generalize 2 ^ (7*k+1)=P at*;exact Nat.div_lt_of_lt_mul (by omega)
     have ih:=zp9 k (x / 128) hd (Nat.lt_of_le_of_lt (Nat.div_le_self _ _) h64);have hs:=Lib.bitLen_shift 7 x (by omega) (by simpa using h64);rw[show 2 ^ 7=128 from rfl] at hs;have hp:=zjq k (x / 128);have hz:0<Lib.bitLen (x / 128)∨Lib.bitLen (x / 128)=0:=by omega
     simp only[List.length_cons,←ih,hs];have:(7+Lib.bitLen (x / 128)+6) / 7=(Lib.bitLen (x / 128)+6) / 7+1:=by omega
     rw[this]
     have h0:0<Lib.bitLen (x / 128):=by
      have hne:x / 128≠0:=by omega
      have:=Lib.bitLen_half (x / 128) hne (by have:=Nat.div_le_self x 128;simp;omega);omega
     omega
theorem zyx {x:Nat} (h:x<18446744073709551616):max 1 ((Lib.bitLen x+6) / 7)=(jx x).length:=zp9 9 x (by simpa using h) h
theorem zyy:∀x:Fin 256,x.val ||| 128=x.val % 128+128:=by decide +kernel
theorem zyz (x:Nat) (hx:x<256):bits .or .u8 (x:Int) 128=((x % 128+128:Nat):Int):=by
 have h:=u8_or_nat x 128 hx (by omega);refine h.trans ?_;congr 1;exact zyy ⟨x,hx⟩
def qc (n c:Nat):Nat:=if (n=9∧1<c)∨(0<n∧c=0) then 2 else if c<128 then 1 else 0
def jn (x n c:Nat):Nat:=x ||| (c % 128*2 ^ (7*n) % 18446744073709551616)
theorem zfk {x:Nat} (n c:Nat) (h:x<18446744073709551616):jn x n c<18446744073709551616:=by
 have h1:x<2 ^ 64:=by simpa using h
 have h2:c % 128*2 ^ (7*n) % 18446744073709551616<2 ^ 64:=by simpa using Nat.mod_lt (c % 128*2 ^ (7*n)) (show 18446744073709551616>0 by omega)
 simpa [jn] using Nat.or_lt_two_pow h1 h2
def v7:List Nat→Nat→Nat→Nat×Nat×Nat
 | [],j,_=>(0,0,j)
 | c :: l,j,x=>if qc j c=2 then (2,0,j+1) else if qc j c=1 then (1,jn x j c,j+1) else v7 l (j+1) (jn x j c)
end
section
open Go.RowKit
def za4 (l:List Nat) (i:Nat):Iv:=if i+1<l.length then (nth l i,nth l (i+1) - 1) else (nth l i,18446744073709551615)
end
section
def bnd (s:Iv):List Nat:=s.1 :: (if s.2<18446744073709551615 then [s.2+1] else [])
def yh (l:List Iv):List Nat:=l.flatMap bnd
def qd (ls:List (List Iv)):List Nat:=0 :: ls.flatMap yh
theorem zy0 (a b:List Iv):yh (a++b)=yh a++yh b:=by simp[yh]
theorem zfl (l:List Iv):(yh l).length≤l.length*2:=by
 induction l with
 | nil=>simp[yh]
 | cons s l ih=>
  have:yh (s :: l)=bnd s++yh l:=rfl;rw[this,List.length_append,List.length_cons];have:(bnd s).length≤2:=by unfold bnd;split <;> simp
  omega
def Asc:List Nat→Prop
 | []=>True
 | [_]=>True
 | a :: b :: l=>a<b∧Asc (b :: l)
theorem Asc.tail {a:Nat} {l:List Nat} (h:Asc (a :: l)):Asc l:=by
 cases l with
 | nil=>trivial
 | cons b l=>exact h.2
theorem Asc.lower:∀{a:Nat} {l:List Nat},Asc (a :: l)→∀x∈l,a<x
 | a,[],_,x,hx=>by simp at hx
 | a,b :: l,h,x,hx=>by
   rcases List.mem_cons.1 hx with rfl | hx
   · exact h.1
   · have:=Asc.lower h.2 x hx;have:=h.1;omega
theorem zd0 {a:Nat} {l:List Nat} (h:∀x∈l,a<x) (hl:Asc l):Asc (a :: l):=by
 cases l with
 | nil=>trivial
 | cons b l=>exact⟨h b (List.mem_cons_self ..),hl⟩
theorem zmk:∀{a b:List Nat},Asc (a++b)→Asc a∧Asc b∧∀x∈a,∀y∈b,x<y
 | [],b,h=>⟨trivial,h,by simp⟩
 | x :: a,b,h=>by
   obtain⟨h1,h2,h3⟩:=zmk (a:=a) (b:=b) h.tail;refine⟨zd0 (fun y hy=>h.lower y (by simp[hy])) h1,h2,?_⟩;intro z hz y hy;rcases List.mem_cons.1 hz with rfl | hz
   · exact h.lower y (by simp[hy])
   · exact h3 z hz y hy
theorem zco {l:List Nat} (h:Asc l) {i j:Nat} (hij:i<j) (hj:j<l.length):nth l i<nth l j:=by
 have e:l=l.take j++l.drop j:=(List.take_append_drop j l).symm;rw[e] at h;obtain⟨_,_,h3⟩:=zmk h;refine h3 _ ?_ _ ?_
 · have hi:i<l.length:=by omega
   have:nth l i=(l.take j)[i]'(by simp;omega):=by simp[nth,hi]
   rw[this];exact List.getElem_mem _
 · have:nth l j=(l.drop j)[0]'(by simp;omega):=by simp[nth,hj]
   rw[this];exact List.getElem_mem _
theorem za5 {l:List Nat} {i:Nat} (h:i<l.length):nth l i∈l:=by
 have:nth l i=l[i]:=by simp[nth,h]
 rw[this];exact List.getElem_mem h
theorem zml {l:List Nat} {x:Nat} (h:x∈l):∃i,i<l.length∧nth l i=x:=by
 obtain⟨i,hi,rfl⟩:=List.getElem_of_mem h;exact⟨i,hi,by simp[nth,hi]⟩
theorem zgb:∀{l l':List Nat},Asc l→Asc l'→(∀x,x∈l↔x∈l')→l=l'
 | [],[],_,_,_=>rfl
 | [],b :: l',_,_,h=>by have:=(h b).2 (List.mem_cons_self ..);simp at this
 | a :: l,[],_,_,h=>by have:=(h a).1 (List.mem_cons_self ..);simp at this
 | a :: l,b :: l',h1,h2,h=>by
   have e:a=b:=by
    have ha:=(h a).1 (List.mem_cons_self ..);have hb:=(h b).2 (List.mem_cons_self ..);rcases List.mem_cons.1 ha with e | ha
    · exact e
    · rcases List.mem_cons.1 hb with e | hb
      · exact e.symm
      · have:=h2.lower a ha;have:=h1.lower b hb;omega
   subst e;congr 1;refine zgb h1.tail h2.tail fun x=>?_
   constructor
   · intro hx;have hlt:=h1.lower x hx;rcases List.mem_cons.1 ((h x).1 (List.mem_cons_of_mem _ hx)) with e | h'
     · omega
     · exact h'
   · intro hx;have hlt:=h2.lower x hx;rcases List.mem_cons.1 ((h x).2 (List.mem_cons_of_mem _ hx)) with e | h'
     · omega
     · exact h'
theorem zcz:∀{L M:List Nat},Asc L→(∀y∈L,y∈M)→L.length≤M.length
 | [],M,_,_=>Nat.zero_le _
 | a :: L,M,h,hm=>by
   have h1:=zcz (L:=L) (M:=M.erase a) h.tail (fun y hy=>by
    have:=h.lower y hy;rw[List.mem_erase_of_ne (by omega)];exact hm y (List.mem_cons_of_mem _ hy))
   have h2:=List.length_erase_of_mem (hm a (List.mem_cons_self ..));have h3:0<M.length:=List.length_pos_of_mem (hm a (List.mem_cons_self ..));simp only[List.length_cons];omega
end
section
open Go.RowKit
structure Byts (w:World) (a:Option Addr) (n cap:Nat) (l:List Nat):Prop where
 len:l.length=n
 lt:∀x∈l,x<256
 room:n≤cap
 most:cap≤9223372036854775807
 nilc:a=none→cap=0
 cells:0<n→∃b o,a=some ⟨b,o,none⟩∧∀i,i<n→w.cell? ⟨b,o+i,none⟩=some (.int .u8 ((nth l i:Nat):Int))
theorem ze {w:World} {p:Addr} {v:Value} (h:w.cell? p=some v):p.block<w.heap.size:=by
 rcases Nat.lt_or_ge p.block w.heap.size with h' | h'
 · exact h'
 · simp[World.cell?,Array.getElem?_eq_none h'] at h
theorem Byts.below {w w':World} {a:Option Addr} {n cap:Nat} {l:List Nat} (h:Byts w a n cap l) (hb:Below w.heap.size w w'):Byts w' a n cap l:=by
 refine⟨h.len,h.lt,h.room,h.most,h.nilc,fun hn=>?_⟩;obtain⟨b,o,ha,hc⟩:=h.cells hn;refine⟨b,o,ha,fun i hi=>?_⟩;have:=hc i hi;rw[←this];exact hb.cell (p:=⟨b,o+i,none⟩) (ze this)
theorem zau {k:IntKind} {a b:Int} (h:a=b):Ending.returned (.int k a)=.returned (.int k b):=by rw[h]
theorem zb9 {a b:Bool} (h:a=b):Ending.returned (.bool a)=.returned (.bool b):=by rw[h]
theorem yp (b o i:Nat):((⟨b,o,none⟩:Addr).add i)=⟨b,o+i,none⟩:=by
 unfold Addr.add;split
 · subst_vars;rfl
 · simp
theorem zap {w w1 w2:World} {row:Option Nat} (h:w.grownBy w1 row) (k:w1.grownBy w2 row):w.grownBy w2 row:=
 ⟨k.os.trans h.os,k.tape.trans h.tape,k.output.trans h.output,Nat.le_trans h.size k.size,fun i hi hne=>(k.block i (Nat.lt_of_lt_of_le hi h.size) hne).trans (h.block i hi hne)⟩
theorem zek {w:World} {base n:Nat} {T:TypeId} {v:Value} {l:List Nat} (h:w.ownsRow base T 1 v n (u8s l)) (hl:∀x∈l,x<256):∃a cap,v=.slice a n cap∧Byts w a n cap l:=by
 have hlen:l.length=n:=by have:=h.1;simpa [u8s] using this
 rcases h.2 with ⟨rfl,rfl⟩ | ⟨g,cap,cur,rfl,hg,hh,hnc,hcm,_⟩
 · exact⟨none,0,rfl,hlen,hl,by omega,by omega,fun _=>rfl,fun h=>by omega⟩
 · refine⟨_,_,rfl,hlen,hl,hnc,by unfold maxLen at hcm;omega,(by intro h;cases h),fun hn=>⟨g,0,rfl,fun i hi=>?_⟩⟩;have hc:=h.cells (g:=g) rfl i (.int .u8 ((nth l i:Nat):Int)) (zp4 l i (by omega));rw[yp] at hc;exact hc
theorem zm {w w':World} {base size n:Nat} {e:TypeId} {v:Value} {xs:List Value} (h:w.ownsRow base e size v n xs) (hb:Below w.heap.size w w'):w'.ownsRow base e size v n xs:=by
 refine⟨h.1,?_⟩;rcases h.2 with h | ⟨g,cap,cur,hv,hg,hh,r⟩
 · exact .inl h
 · exact .inr ⟨g,cap,cur,hv,hg,by rw[hb.block g (Array.getElem?_eq_some_iff.1 hh).1];exact hh,r⟩
theorem Byts.news {w:World} {x:Addr} {n cap:Nat} {l:List Nat} (h:Byts w (some x) n cap l):∀j u,(u8s l)[j]?=some u→w.cell? (x.add j)=some u:=by
 intro j u hu
 have hj:j<l.length:=by
  rcases Nat.lt_or_ge j l.length with h' | h'
  · exact h'
  · rw[List.getElem?_eq_none (by rw[zp3];exact h')] at hu;cases hu
 rw[zp4 l j hj] at hu;cases hu;obtain⟨b,o,ha,hc⟩:=h.cells (by rw[←h.len];omega);cases ha;rw[yp];exact hc j (by rw[←h.len];omega)
theorem Tryz.info_u8:(Tryz.prog.info? 5).map (fun i=>(i.zero,i.size,i.bytes))=some (some (.int .u8 0),1,1):=by kernel_rfl
theorem jf {P:Program} {w:World} {ops:Array Oper} {rest:List Oper} {o:Oper} {a:Act} {Q:Exit→Act→World→Prop} (s x:Operand) (t:TypeId)
 (ho:o.op=.call { callee:=.builtin .append,args:= #[s,x],argTypes:= #[t,t] }) (hw:Region.wanted o (yielded ops a.tmps)=true)
 (v u:Value) (hs:a.eval s=v) (hx:a.eval x=u) (v':Value) (w':World) (hrun:(Builtin.append_ #[t,t] o.type #[v,u]).run P w=.ok v' w')
 (h:wpList P ops Q rest (a.put o.dst v') w'):wpList P ops Q (o :: rest) a w:=by
 refine wpList_step fun K hK=>?_
 rw[if_pos hw];unfold Oper.wp;simp[execOp,ho,resolve,invoke,builtin,hs,hx,hrun,Result.andThen];exact hK _ _ h
theorem zdj {W:World} {g i:Nat} {C:Array Value} {T:TypeId} {fr:Nat×Nat} {v:Value} (h:W.heap[g]?=some (.cells C T fr)) (hv:C[i]?=some v):W.cell? ⟨g,i,none⟩=some v:=by
 simp[World.cell?,h,hv]
theorem zqa {P:Program} {e:TypeId} {sz:Nat} (h:(P.info? e).map (·.size)=some sz) (w:World):(Go.sizeOf e).run P w=.ok sz w:=by
 cases hq:P.info? e with
 | none=>simp[hq] at h
 | some i=>simp[sizeOf,typeInfo,hq] at h ⊢;exact h
theorem zel {P:Program} (w:World) (dT sT ty elem:TypeId) (sz g o dLen dCap:Nat) (a:Addr) (sLen sCap:Nat) (cur:List Value) (t:TypeId) (cs:List Value) (m:Nat)
 (hu:P.underlying dT=some (.slice elem)) (hs:(P.info? elem).map (·.size)=some sz)
 (hg:w.heap[g]?=some (.cells cur.toArray t (0,0))) (hm:Nat.min sLen dLen=m) (hn:cs.length=m*sz)
 (hsrc:∀j v,cs[j]?=some v→w.cell? (a.add j)=some v) (hfit:o+cs.length≤cur.length) (h1:∀v∈cs,v.oneCell'=true):
 (Builtin.copy_ #[dT,sT] ty #[.slice (some ⟨g,o,none⟩) dLen dCap,.slice (some a) sLen sCap]).run P w=
   .ok (goInt m) (w.setRow g (splice cur o cs).toArray):=by
 have hl:=run_loadCells_list (P:=P) w a cs hsrc;have hst:=run_storeCells_at P g o t cs 0 cur.toArray w hg (by simpa using hfit) h1
 cases hq:P.info? elem with
 | none=>simp[hq] at hs
 | some i=>
  have hi:i.size=sz:=by simpa [hq] using hs
  rw[hn] at hl;simp[Builtin.copy_,run_underlying hu,Builtin.lenOf,Builtin.firstCells,sizeOf,typeInfo,hq,hi,hm,hl,hst,splice]
theorem zjr {P:Program} {w:World} {ops:Array Oper} {rest:List Oper} {o:Oper} {a:Act} {Q:Exit→Act→World→Prop} (hgd:o.guard=none) (d s:Operand) (t t':TypeId)
 (ho:o.op=.call { callee:=.builtin .copy,args:= #[d,s],argTypes:= #[t,t'] }) (v u:Value) (hd:a.eval d=v) (hs:a.eval s=u) {v':Value} {w':World}
 (hr:(Builtin.copy_ #[t,t'] o.type #[v,u]).run P w=.ok v' w') (h:wpList P ops Q rest (a.put o.dst v') w'):wpList P ops Q (o :: rest) a w:=by
 refine wpList_plain hgd fun _ hK=>?_
 unfold Oper.wp execOp;simp only[ho,resolve,invoke,builtin,Sem.run_bind,Sem.run_pure,Result.andThen_ok,List.map_toArray,List.map_cons,List.map_nil,hd,hs,hr];exact hK _ _ h
theorem zjs {P:Program} {ops:Array Oper} {o:Oper} {a:Act} {w:World} {K:Act→World→Prop} {Q:Exit→Act→World→Prop} {E:Prop}
 (hg:o.guard=none) (d x:Operand) (dT sT:TypeId) (hop:o.op=Op.call { callee:=Callee.builtin Builtin.copy,args:= #[d,x],argTypes:= #[dT,sT] })
 (v u:Value) (hd:a.eval d=v) (hx:a.eval x=u) {v':Value} {w':World} (hr:(Builtin.copy_ #[dT,sT] o.type #[v,u]).run P w=.ok v' w') (hK:K (a.put o.dst v') w'):
 if Region.wanted o (yielded ops a.tmps)=true then Oper.wp P o a w K Q else E:=by
 have hw:Region.wanted o (yielded ops a.tmps)=true:=by simp[Region.wanted,hg]
 rw[if_pos hw];unfold Oper.wp;simp[execOp,hop,resolve,invoke,builtin,hd,hx,hr,Result.andThen];exact hK
theorem zqb {α:Type} (cur ys:List α) (p q r:Nat) (hp:p≤q) (hy:ys.length=r) (hr:q+r≤cur.length):
 (splice (splice cur (p+r) ((cur.take q).drop p)) p ys).take (q+r)=(cur.take q).take p++(ys++(cur.take q).drop p):=by
 obtain⟨A,B,hA,rfl⟩:∃A B,A.length=p∧cur=A++B:=⟨cur.take p,cur.drop p,by simp;omega,by simp⟩;obtain⟨C,D,hC,rfl⟩:∃C D,C.length=q - p∧B=C++D:=⟨B.take (q - p),B.drop (q - p),by simp at hr ⊢;omega,by simp⟩
 have e1:(A++(C++D)).take q=A++C:=by
  rw[←List.append_assoc,List.take_append_of_le_length (by simp;omega)];exact List.take_of_length_le (by simp;omega)
 rw[e1];have e2:(A++C).drop p=C:=by rw[←hA];simp
 have e3:(A++C).take p=A:=by rw[←hA];simp
 rw[e2,e3];have hl:(splice (A++(C++D)) (p+r) C).length=(A++(C++D)).length:=length_splice _ _ _ (by simp at hr ⊢;omega);obtain⟨E,hE⟩:∃E,splice (A++(C++D)) (p+r) C=(A++(C++D)).take (p+r)++(C++E):=⟨_,rfl⟩
 have h4:(splice (A++(C++D)) (p+r) C).take p=A:=by
  rw[hE,List.take_append_of_le_length (by simp at hr ⊢;omega),List.take_take,Nat.min_eq_left (by omega),←hA];simp
 have h5:(splice (A++(C++D)) (p+r) C).drop (p+r)=C++E:=by
  rw[hE];have:((A++(C++D)).take (p+r)).length=p+r:=by simp at hr ⊢;omega
  rw[List.drop_append,this];simp
 unfold splice at h4 h5 ⊢;rw[h4,hy,h5];have:q+r=(A++(ys++C)).length:=by simp;omega
 rw[this,show A++(ys++(C++E))=(A++(ys++C))++E by simp,List.take_left]
theorem zqc {α:Type} (Z ys:List α) (xs:List α) (p q r:Nat) (hp:p≤q) (hx:xs.length=q) (hy:ys.length=r) (hr:q+r≤Z.length) (hz:Z.take p=xs.take p):
 (splice (splice Z p ys) (p+r) (xs.drop p)).take (q+r)=xs.take p++(ys++xs.drop p):=by
 have hl1:(splice Z p ys).length=Z.length:=length_splice _ _ _ (by omega)
 have h1:(splice Z p ys).take (p+r)=Z.take p++ys:=by
  have:p+r=(Z.take p++ys).length:=by simp;omega
  unfold splice;rw[this,←List.append_assoc,List.take_left]
 have:q+r=(xs.take p++(ys++xs.drop p)).length:=by simp;omega
 generalize splice Z p ys=Y at h1 hl1;unfold splice;rw[h1,hz,this,show ∀T,(xs.take p++ys)++(xs.drop p++T)=(xs.take p++(ys++xs.drop p))++T from fun T=>by simp,List.take_left]
theorem zmm (x:Nat) (w:World) (hx:x<18446744073709551616):
 Calls Tryz.prog 29 #[.int .u64 x] w fun e w'=>e=.returned (.int .i64 ((jx x).length:Nat))∧w=w':=by
 have Hs:=hid (zyx hx);have hb:=Lib.bitLen_le x 64 (by omega) (by simpa using hx);go_enter Tryz.func29,Tryz.ntmps29;go_wp2_with fail;refine(Tryz.bits_Len64 x w (by omega) (by omega)).mono ?_;rintro e w' ⟨rfl,rfl⟩;rw[Int.toNat_natCast];generalize Lib.bitLen x=b at*;go_wp2_with fail;go_ret;exact⟨zau (by rw[←Hs.out];omega),rfl⟩
theorem zy1 (x:Nat) (hx:x<18446744073709551616):bits .or .u8 ((x:Int) % 256) 128=((x % 128+128:Nat):Int):=by
 have h:=zyz (x % 256) (by omega);rw[show ((x % 256:Nat):Int)=(x:Int) % 256 from by omega] at h;rw[h];congr 1;omega
def Door (w:World):Prop:=w.cell? ⟨0,0,none⟩=some (.iface 227 (.agg #[.pointer (some ⟨2,29,none⟩)]))
theorem Door.below {w w':World} (h:Door w) {B:Nat} (hB:w.heap.size≤B) (hb:Below B w w'):Door w':=by
 unfold Door;rw[hb.cell (p:=⟨0,0,none⟩) (Nat.lt_of_lt_of_le (ze h) hB)];exact h
theorem zfm (w:World) (p:Addr) (v:Value):w.grownBy (w.setCell p v) (some p.block):=
 ⟨rfl,rfl,rfl,by simp[World.setCell],fun k _ hne=>Below.heap_setCell _ _ _ _ (fun e=>hne (by rw[e]))⟩
abbrev Err:=Option (Int×Option Int)
def yl:Err→Value
 | none=>.nilIface
 | some (c,none)=>.iface 34 (.int .i64 c)
 | some (c,some a)=>.iface 94 (.agg #[.int .i64 c,.int .i64 a])
def qo:Err→Int
 | none=>0
 | some (c,_)=>c
def js:Err→Int
 | some (_,some a)=>a
 | _=> -1
def zgc (c a:Int):Err:=if c=0 then none else some (c,some a)
theorem zhm {w0 w w':World} {g:Nat} (hb:Below w0.heap.size w0 w) (hg:w0.heap.size≤g) (h:w.grownBy w' (some g)):Below w0.heap.size w0 w':=
 hb.grown h hb.size (fun k hk=>by cases hk;exact hg)
theorem zy2 {w0 w w':World} (hb:Below w0.heap.size w0 w) (h:w.grownBy w' none):Below w0.heap.size w0 w':=
 hb.grown h hb.size (fun k hk=>by cases hk)
end
end Go.Proofs.YtdnjfnofjaoajaaGreatDoor
