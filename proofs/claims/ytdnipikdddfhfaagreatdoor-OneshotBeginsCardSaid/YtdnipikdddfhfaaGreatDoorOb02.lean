/- Part 02. -/
import Derived.Lib.IfaceEq
import Derived.WalkLawsBesides
import Derived.Deep.QuietTactic
import Derived.Test.YtdnipikdddfhfaaGreatDoorOb01
set_option linter.unusedVariables false
set_option maxHeartbeats 16000000
namespace Go.Proofs.YtdnipikdddfhfaaGreatDoor
open Lib (hid)
section
open Go.RowKit Go.Extern.Stop Go.Stop Go.Extern
theorem Tryz.methodComparable (h:Value) (w:World):(Go.method 520 229 (.agg #[h]) "Comparable").run Tryz.prog w=.ok (336,.agg #[h]) w:=by kernel_rfl
theorem Tryz.comparableE (w:World):(ReflectliteType.method (fun t=>do Rtype.noPackHeld "Comparable" t;(fun a:TypeInfo=>Value.bool a.comparable) <$> typeInfo t) #[.agg #[.pointer (some ⟨1,35,none⟩)]]).run Tryz.prog w=.ok (.bool true) w:=by kernel_rfl
theorem Tryz.asIsE (v:Value) (xT:TypeId) (w:World):(Instr.typeAssert (.iface 35 v) xT 356 true).run Tryz.prog w=.ok (.tuple #[.nilIface,.bool false]) w:=
 run_typeAssert_lacksB Tryz.underlying356 (by kernel_rfl) (by kernel_rfl) v xT w
theorem zde (c d:Int) (w:World):(binOp .eql 29 (.iface 35 (.int .i64 c)) (.iface 35 (.int .i64 d))).run Tryz.prog w=.ok (.bool (decide (c=d))) w:=by
 exact Lib.run_eql_iface_int w c d Tryz.underlying29 (by kernel_rfl) Tryz.underlying35
theorem zml (c d:Int) (w:World):
 Calls Tryz.prog 241 #[.iface 35 (.int .i64 c),.iface 35 (.int .i64 d),.bool true] w fun e w'=>e=.returned (.bool (decide (c=d)))∧w=w':=by
 have s1:=Tryz.asIsE;have s2:=Tryz.asUnE;have s3:=Tryz.asUmE;by_cases h:c=d
 · have hq:∀w:World,(binOp .eql 29 (.iface 35 (.int .i64 c)) (.iface 35 (.int .i64 d))).run Tryz.prog w=.ok (.bool true) w:=fun w=>by rw[zde,decide_eq_true h]
   have He:=hid (decide_eq_true h);clear h;go_enter Tryz.func241,Tryz.ntmps241;go_wp2;refine wp_loop_rounds 1 ?_;rw[rounds_succ];go_wp2;go_ret;exact⟨by rw[He.out];rfl,rfl⟩
 · have hq:∀w:World,(binOp .eql 29 (.iface 35 (.int .i64 c)) (.iface 35 (.int .i64 d))).run Tryz.prog w=.ok (.bool false) w:=fun w=>by rw[zde,decide_eq_false h]
   have He:=hid (decide_eq_false h);clear h;go_enter Tryz.func241,Tryz.ntmps241;go_wp2;refine wp_loop_rounds 1 ?_;rw[rounds_succ];go_wp2;go_ret;exact⟨by rw[He.out];rfl,rfl⟩
set_option maxRecDepth 20000 in
theorem zmm (c d:Int) (w:World):
 Calls Tryz.prog 201 #[.iface 35 (.int .i64 c),.iface 35 (.int .i64 d)] w fun e w'=>e=.returned (.bool (decide (c=d)))∧w=w':=by
 have hTO:=@run_callFunc_extern Tryz.prog 138 _ ReflectliteType.typeOf Tryz.func138 (by kernel_rfl) (by kernel_rfl) (by kernel_rfl) (by kernel_rfl);have hCm:=@run_callFunc_extern Tryz.prog 336 _ (ReflectliteType.method (fun t=>do Rtype.noPackHeld "Comparable" t;pure (.bool (←typeInfo t).comparable))) Tryz.func336 (by kernel_rfl) (by kernel_rfl) (by kernel_rfl) (by kernel_rfl);have tO:=Tryz.typeOfE;have mC:=Tryz.methodComparable;have cE:=Tryz.comparableE;have hC:=hid (zml c d);go_enter Tryz.func201,Tryz.ntmps201;go_wp2_with fail;refine(hC.out _).mono ?_;rintro e w1 ⟨rfl,rfl⟩;go_wp2_with fail;go_ret;exact⟨rfl,rfl⟩
set_option maxRecDepth 20000 in
theorem zmn (d:Int) (w:World):Calls Tryz.prog 201 #[.nilIface,.iface 35 (.int .i64 d)] w fun e w'=>e=.returned (.bool false)∧w=w':=by
 have hq:∀w:World,(binOp .eql 29 .nilIface (.iface 35 (.int .i64 d))).run Tryz.prog w=.ok (.bool false) w:=fun w=>run_eql_iface_nil_left w 35 _ Tryz.underlying29
 go_enter Tryz.func201,Tryz.ntmps201;go_wp2;go_ret;exact⟨rfl,rfl⟩
end
section
theorem zmo {l:List Nat} (h:∀x∈l,x<256):sum l<4294967296:=zev (zdd (by omega) h)
end
section
open Go.RowKit
theorem zdf {w:World} (base:Nat) (v:Value) (n:Nat) (xs:List Value) (hown:w.ownsRow base 5 1 v n xs) (a:Option Addr) (m c:Nat) (l:List Nat) (hB:Byts w a m c l)
 (hbytes:n+m≤140737488355328) (hbase:base≤w.heap.size):
 ∃v' w',(Builtin.append_ #[22,22] 22 #[v,.slice a m c]).run Tryz.prog w=.ok v' w'∧w'.ownsRow base 5 1 v' (n+m) (xs++u8s l)∧w.grownBy w' v.ownBlock:=by
 obtain⟨i0,hi,hz0,hz1,hz2⟩:=info_parts Tryz.info_u8
 cases a with
 | none=>
  have hc:=hB.nilc rfl;have hm:=hB.room;obtain rfl:m=0:=by omega
  subst hc;have hl:l=[]:=List.length_eq_zero_iff.1 hB.len;subst hl
  refine⟨v,w,run_append_owned_none _ base _ _ _ i0 1 Tryz.underlying22 hi v n xs hown,by simpa [u8s] using hown,⟨rfl,rfl,rfl,Nat.le_refl _,fun _ _ _=>rfl⟩⟩
 | some x=>
  obtain⟨v',w',hr,ho,hg,_⟩:=run_append_own (P:=Tryz.prog) w base 22 22 5 i0 (.int .u8 0) 1 1 Tryz.underlying22 hi hz0 hz1 hz2 rfl (by decide) v n xs hown x m c (u8s l)
   (by rw[zcc,hB.len];omega) hB.news (by intro u hu;simp[u8s] at hu;obtain⟨y,_,rfl⟩:=hu;rfl) (by unfold maxLen;omega) (by omega) hbase
  exact⟨v',w',hr,ho,hg⟩
def qo (x:Nat):List Nat:=[x % 256,x / 256 % 256,x / 65536 % 256,x / 16777216]
theorem zgz {x:Nat} (hx:x<4294967296):∀b∈qo x,b<256:=by
 intro b hb;simp[qo] at hb;omega
def zah (s:Nat):Nat→Array Value
 | 0=> #[.int .u8 0,.int .u8 0,.int .u8 0,.int .u8 0]
 | 1=> #[.int .u8 ((s:Int) % 256),.int .u8 0,.int .u8 0,.int .u8 0]
 | 2=> #[.int .u8 ((s:Int) % 256),.int .u8 ((s:Int) / 256 % 256),.int .u8 0,.int .u8 0]
 | 3=> #[.int .u8 ((s:Int) % 256),.int .u8 ((s:Int) / 256 % 256),.int .u8 ((s:Int) / 65536 % 256),.int .u8 0]
 | _=> #[.int .u8 ((s:Int) % 256),.int .u8 ((s:Int) / 256 % 256),.int .u8 ((s:Int) / 65536 % 256),.int .u8 ((s:Int) / 16777216)]
theorem zg0 (s:Nat):zah s 4=(u8s (qo s)).toArray:=by simp[zah,u8s,qo]
theorem zg1 (s:Nat):zah s 0= #[.int .u8 0,.int .u8 0,.int .u8 0,.int .u8 0]:=rfl
theorem zg2 (s:Nat):zah s 1= #[.int .u8 ((s:Int) % 256),.int .u8 0,.int .u8 0,.int .u8 0]:=rfl
theorem zg3 (s:Nat):zah s 2= #[.int .u8 ((s:Int) % 256),.int .u8 ((s:Int) / 256 % 256),.int .u8 0,.int .u8 0]:=rfl
theorem zg4 (s:Nat):zah s 3= #[.int .u8 ((s:Int) % 256),.int .u8 ((s:Int) / 256 % 256),.int .u8 ((s:Int) / 65536 % 256),.int .u8 0]:=rfl
theorem zmp (v:Value) (n base:Nat) (xs:List Value) (s:Nat) (w:World) (hs:s<4294967296) (hown:w.ownsRow base 5 1 v n xs) (hbase:base≤w.heap.size) (hn:n≤140737488355000):
 Calls Tryz.prog 153 #[v,.int .u32 s] w fun e w'=>∃v',e=.returned v'∧w'.ownsRow base 5 1 v' (n+4) (xs++u8s (qo s))∧w.grownBy w' v.ownBlock:=by
 obtain⟨i0,hi,hz0,hz1,hz2⟩:=info_parts Tryz.info_u8;have H4:=hid (zg0 s);have Hg:=hid (World.grownBy_alloc w);go_enter Tryz.func153,Tryz.ntmps153;go_wp2;go_loopw [6,7] (fun _ i wr=>∃k:Nat,k≤4∧i=.int .i64 k∧wr=w.alloc (.cells (zah s k) 139)) (fun _ i _=>4 - (intOf i).toNat)
 case atStart=>exact⟨0,by omega,rfl,rfl⟩
 case round=>
  obtain⟨k,hk,rfl,rfl⟩:=hrel;by_cases hk4:k<4
  · obtain rfl | rfl | rfl | rfl:k=0∨k=1∨k=2∨k=3:=by omega
    · rw[zg1];go_wp2;go_roundw
      case rel=>exact⟨1,by omega,rfl,rfl⟩
      case measure=>simp[intOf]
    · rw[zg2];go_wp2;go_roundw
      case rel=>exact⟨2,by omega,rfl,rfl⟩
      case measure=>simp[intOf]
    · rw[zg3];go_wp2;go_roundw
      case rel=>exact⟨3,by omega,rfl,rfl⟩
      case measure=>simp[intOf]
    · rw[zg4];go_wp2;go_roundw
      case rel=>exact⟨4,by omega,rfl,rfl⟩
      case measure=>simp[intOf]
  · obtain rfl:k=4:=by omega
    rw[H4.out];go_wp2_with (at_builtin;refine wpList_append_own _ rfl _ _ 22 rfl base 5 i0 (.int .u8 0) 1 1 Tryz.underlying22 hi hz0 hz1 hz2 rfl (by decide) v n xs rfl (hown.alloc _) ⟨w.heap.size,0,none⟩ 4 4 (u8s (qo s)) rfl rfl ?c1 ?c2 ?c3 ?c4 ?c5 ?_)
    case c1=>exact fun j u h=>zmi _ _ _ _ _ h
    case c2=>simp[u8s,qo,Value.oneCell']
    case c3=>unfold maxLen;omega
    case c4=>omega
    case c5=>simp;omega
    intro v' w1 hown' hgrow _;go_wp2;go_ret;exact⟨v',rfl,hown',vg (Hg.out _ _) hgrow⟩
theorem zmq (b o s:Nat) (a:Option Addr) (n cap:Nat) (l:List Nat) (w:World) (hB:Byts w a n cap l) (hs32:s<4294967296)
 (hs:w.cell? ⟨b,o,none⟩=some (.int .u32 s)) (hf:w.frozen? ⟨b,o,none⟩=false):
 Calls Tryz.prog 159 #[.pointer (some ⟨b,o,none⟩),.slice a n cap] w fun e w'=>
  e=.returned (.tuple #[])∧w'=w.setCell ⟨b,o,none⟩ (.int .u32 ((4294967295 ^^^ reg (4294967295 ^^^ s) l:Nat):Int)):=by
 obtain⟨hn,hlt,hnc,hcm,hnil,hc⟩:=hB;clear hnil;have hm:n≤9223372036854775807:=by omega
 have Hn:=hid hn;clear hn;have Hlt:=hid hlt;clear hlt;have Hc:=hid hc;clear hc;have Hx:=hid (zgw s hs32);have hx32:=zev hs32;have Hx32:=hid hx32;clear hx32;go_enter Tryz.func159,Tryz.ntmps159;go_wp2;rw[Hx.out];go_loop [4,16] (fun x i=>∃k:Nat,k≤n∧i=.int .i64 k∧x=.int .u32 ((reg (4294967295 ^^^ s) (l.take k):Nat):Int)) (fun _ i=>n - (intOf i).toNat)
 case atStart=>exact⟨0,by omega,rfl,rfl⟩
 case round=>
  obtain⟨k,hk,rfl,rfl⟩:=hrel;by_cases hkn:k<n
  · obtain⟨cb,co,rfl,hcell⟩:=Hc.out (by omega);have hc:=hcell k hkn;clear hcell;have hr:reg (4294967295 ^^^ s) (l.take k)<4294967296:=zdd Hx32.out (fun c hc=>Hlt.out c (List.mem_of_mem_take hc));have hnc:nth l k<256:=zgr Hlt.out (by omega) k;have Hs:=hid (zmb (4294967295 ^^^ s) l k (by rw[Hn.out];exact hkn));generalize hR:reg (4294967295 ^^^ s) (l.take k)=R at*;generalize hC:nth l k=c at*;have Hb:=hid (zmh R c hr hnc);clear hR hC;go_wp2;rw[Hb.out];go_loop [4,24] (fun x j=>∃i:Nat,i≤8∧j=.int .i64 i∧x=.int .u32 ((zcd i (R ^^^ c):Nat):Int)) (fun _ j=>8 - (intOf j).toNat)
    case atStart=>exact⟨0,by omega,rfl,rfl⟩
    case round=>
     obtain⟨i,hi,rfl,rfl⟩:=hrel;have hX:=zgv i (zdc hr (Nat.lt_trans hnc (by omega)));by_cases hi8:i<8
     · have Hst:=hid (zmg _ hX);go_wp2;rw[Hst.out];go_round
       case rel=>exact⟨i+1,by omega,by go_num,rfl⟩
       case measure=>simp[intOf];omega
     · obtain rfl:i=8:=by omega
       go_wp2;go_round
       case rel=>exact⟨k+1,by omega,by go_num,by rw[Hs.out];rfl⟩
       case measure=>simp[intOf];omega
  · obtain rfl:k=n:=by omega
    have hr:reg (4294967295 ^^^ s) (l.take k)<4294967296:=zdd Hx32.out (fun c hc=>Hlt.out c (List.mem_of_mem_take hc));have Hr:=hid (zgw _ hr);go_wp2;rw[Hr.out];go_end0
    refine⟨rfl,?_⟩;rw[List.take_of_length_le (by rw[Hn.out];omega)]
theorem zmr (a a':Option Addr) (n cap n' cap':Nat) (l l':List Nat) (w:World) (hB:Byts w a n cap l) (hB':Byts w a' n' cap' l') (r:Bool) (hr:r=decide (l=l')):
 Calls Tryz.prog 56 #[.slice a n cap,.slice a' n' cap'] w fun e w'=>e=.returned (.bool r)∧∃q,w'=w.drewN q:=by
 obtain⟨hn,hlt,hnc,hcm,hnil,hc⟩:=hB;clear hnil;have hm:n≤9223372036854775807:=by omega
 obtain⟨hn',hlt',hnc',hcm',hnil',hc'⟩:=hB';clear hnil';have hm':n'≤9223372036854775807:=by omega
 by_cases hnn:n=n'
 · subst hnn;have Hn:=hid hn;clear hn;have Hn':=hid hn';clear hn';have Hlt:=hid hlt;clear hlt;have Hlt':=hid hlt';clear hlt';have Hc:=hid hc;clear hc;have Hc':=hid hc';clear hc';have Hr:=hid hr;clear hr;have hnb:((n:Int) != (n:Int))=false:=by simp
   go_enter Tryz.func56,Tryz.ntmps56;go_wp2;go_loopw [4,5,13] (fun _ _ i wr=>∃k q:Nat,k≤n∧i=.int .i64 k∧wr=w.drewN q∧Hid (l.take k=l'.take k)) (fun _ _ i _=>n - (intOf i).toNat)
   case atStart=>exact⟨0,0,by omega,rfl,rfl,rfl⟩
   case round=>
    obtain⟨k,q,hk,rfl,rfl,ht⟩:=hrel;by_cases hkn:k<n
    · obtain⟨cb,co,rfl,hcell⟩:=Hc.out (by omega);obtain⟨cb',co',rfl,hcell'⟩:=Hc'.out (by omega);have hc:=hcell k hkn;have hc':=hcell' k hkn;clear hcell hcell';have h0:(0:Int)≤k:=by omega
      by_cases he:nth l k=nth l' k
      · have Ht:=hid (zl2 ht.out (by rw[Hn.out];exact hkn) (by rw[Hn'.out];exact hkn) he);rw[he] at hc;generalize nth l' k=c at*;clear he;go_wp2;go_quiet (fail);go_wp2;go_roundw
        case rel=>exact⟨k+1,_,by omega,by go_num,rfl,Ht.out⟩
        case measure=>simp[intOf];omega
      · have hne:(((nth l k:Nat):Int) != ((nth l' k:Nat):Int))=true:=by rw[bne_iff_ne];omega
        have Hne:=hid (zl3 he);generalize nth l k=c at*;generalize nth l' k=c' at*;clear he;go_wp2;go_quiet (fail);go_wp2;go_ret;refine⟨?_,_,World.drewN_drewN _ _ _⟩;have:=Hr.out;rw[decide_eq_false Hne.out] at this;rw[this]
        rfl
    · obtain rfl:k=n:=by omega
      go_wp2;go_ret;refine⟨?_,_,rfl⟩;have h1:=ht.out;rw[List.take_of_length_le (by rw[Hn.out];omega),List.take_of_length_le (by rw[Hn'.out];omega)] at h1;have:=Hr.out;rw[decide_eq_true h1] at this;rw[this]
      rfl
 · have hnb:((n:Int) != (n':Int))=true:=by rw[bne_iff_ne];omega
   have hne:l≠l':=fun h=>hnn (by rw[←hn,←hn',h])
   rw[decide_eq_false hne] at hr;subst hr;clear hn hn' hlt hlt' hc hc' hne;go_enter Tryz.func56,Tryz.ntmps56;go_wp2;go_ret;exact⟨rfl,0,rfl⟩
structure RdV (w0 w:World) (g x n st:Nat):Prop where
 below:Below w0.heap.size w0 w
 base:w0.heap.size≤g
 lt:g<w.heap.size
 c0:w.cell? ⟨g,0,none⟩=some (.int .u64 (x:Int))
 c1:w.cell? ⟨g,1,none⟩=some (.int .i64 (n:Int))
 c2:w.cell? ⟨g,2,none⟩=some (.int .i64 (st:Int))
 f0:w.frozen? ⟨g,0,none⟩=false
 f1:w.frozen? ⟨g,1,none⟩=false
 f2:w.frozen? ⟨g,2,none⟩=false
 x64:x<18446744073709551616
theorem RdV.later {w0 w w':World} {g x n st:Nat} (h:RdV w0 w g x n st) (hb:Below w.heap.size w w'):RdV w0 w' g x n st:=by
 refine⟨h.below.trans (hb.mono h.below.size),h.base,Nat.lt_of_lt_of_le h.lt hb.size,?_,?_,?_,?_,?_,?_,h.x64⟩
 · rw[hb.cell (p:=⟨g,0,none⟩) h.lt];exact h.c0
 · rw[hb.cell (p:=⟨g,1,none⟩) h.lt];exact h.c1
 · rw[hb.cell (p:=⟨g,2,none⟩) h.lt];exact h.c2
 · rw[hb.frozen (p:=⟨g,0,none⟩) h.lt];exact h.f0
 · rw[hb.frozen (p:=⟨g,1,none⟩) h.lt];exact h.f1
 · rw[hb.frozen (p:=⟨g,2,none⟩) h.lt];exact h.f2
theorem RdV.set {w0 w:World} {g x n st:Nat} (h:RdV w0 w g x n st) (x' n' st':Nat) (hx:x'<18446744073709551616):
 RdV w0 (((w.setCell ⟨g,1,none⟩ (.int .i64 (n':Int))).setCell ⟨g,0,none⟩ (.int .u64 (x':Int))).setCell ⟨g,2,none⟩ (.int .i64 (st':Int))) g x' n' st':=by
 refine⟨((h.below.setCell (p:=⟨g,1,none⟩) h.base _).setCell (p:=⟨g,0,none⟩) h.base _).setCell (p:=⟨g,2,none⟩) h.base _,h.base,by have:=h.lt;simpa [World.setCell] using this,?_,?_,?_,?_,?_,?_,hx⟩
 · rw[World.cell?_setCell_other _ _ _ _ (by simp)];exact World.cell?_setCell_same _ _ _ (by rw[World.cell?_setCell_other _ _ _ _ (by simp)];exact h.c0)
 · rw[World.cell?_setCell_other _ _ _ _ (by simp),World.cell?_setCell_other _ _ _ _ (by simp)];exact World.cell?_setCell_same _ _ _ h.c1
 · exact World.cell?_setCell_same _ _ _ (by rw[World.cell?_setCell_other _ _ _ _ (by simp),World.cell?_setCell_other _ _ _ _ (by simp)];exact h.c2)
 · simp only[World.frozen?_setCell];exact h.f0
 · simp only[World.frozen?_setCell];exact h.f1
 · simp only[World.frozen?_setCell];exact h.f2
theorem zms:∀c:Fin 256,c.val &&& (255 - 128)=c.val % 128:=by decide +kernel
theorem zmt (c:Nat) (hc:c<256):bits .andNot .u8 (c:Int) 128=((c % 128:Nat):Int):=by
 have h:=u8_andNot_nat c 128 hc (by omega);rw[zms ⟨c,hc⟩] at h;exact h
theorem zmu (x n c:Nat) (hx:x<18446744073709551616):bits .or .u64 (x:Int) (IntKind.u64.wrap ((c:Int) % 128*2 ^ (7*n)))=((zu x n c:Nat):Int):=by
 rw[IntKind.wrap_u64,show (((c:Int) % 128*2 ^ (7*n)) % 18446744073709551616)=((c % 128*2 ^ (7*n) % 18446744073709551616:Nat):Int) from by
  rw[Int.natCast_emod,Int.natCast_mul,Int.natCast_emod,Int.natCast_pow];rfl]
 exact u64_or_nat x _ hx (Nat.mod_lt _ (by omega))
theorem RdV.drew {w0 w:World} {g x n st:Nat} (h:RdV w0 w g x n st):RdV w0 w.drew g x n st:=h.later ((Below.refl _ _).drew)
abbrev zmv (w:World) (g o x n c st:Nat):World:=(((w.setCell ⟨g,o+1,none⟩ (.int .i64 ((n+1:Nat):Int))).setCell ⟨g,o,none⟩ (.int .u64 ((zu x n c:Nat):Int))).setCell ⟨g,o+2,none⟩ (.int .i64 (st:Int))).drew
theorem zmw (w:World) (g o x n c:Nat) (hc0:w.cell? ⟨g,o,none⟩=some (.int .u64 (x:Int))) (hc1:w.cell? ⟨g,o+1,none⟩=some (.int .i64 (n:Int))) (hc2:w.cell? ⟨g,o+2,none⟩=some (.int .i64 0))
 (hf0:w.frozen? ⟨g,o,none⟩=false) (hf1:w.frozen? ⟨g,o+1,none⟩=false) (hf2:w.frozen? ⟨g,o+2,none⟩=false) (hx:x<18446744073709551616) (hc:c<256) (hn10:n<10):
 Calls Tryz.prog 91 #[.pointer (some ⟨g,o,none⟩),.int .u8 c] w fun e w'=>e=.returned (.int .i64 (zi n c:Nat))∧w'=zmv w g o x n c (zi n c):=by
 have Hx:=hid (zmu x n c hx);have ka:=zmt c hc
 have K:((((c:Int) == 0)=true∧decide (1<(c:Int))=false)∧decide (1<(n:Int)+1)=false∧decide ((c:Int)<128)=true∧zi n c=1)∨((((c:Int) == 0)=true∧decide (1<(c:Int))=false)∧decide (1<(n:Int)+1)=true∧decide ((c:Int)<128)=true∧zi n c=2)∨
  ((((c:Int) == 0)=false∧decide (1<(c:Int))=false)∧True∧decide ((c:Int)<128)=true∧zi n c=1)∨((((c:Int) == 0)=false∧decide (1<(c:Int))=true)∧((n:Int)+1 == 10)=true∧True∧zi n c=2)∨
  ((((c:Int) == 0)=false∧decide (1<(c:Int))=true)∧((n:Int)+1 == 10)=false∧decide ((c:Int)<128)=true∧zi n c=1)∨((((c:Int) == 0)=false∧decide (1<(c:Int))=true)∧((n:Int)+1 == 10)=false∧decide ((c:Int)<128)=false∧zi n c=0):=by
  simp only[beq_iff_eq,beq_eq_false_iff_ne,decide_eq_true_iff,decide_eq_false_iff_not,zi];by_cases h0:c=0
  · by_cases h1:n=0
    · exact .inl ⟨by omega,by omega,by omega,by rw[if_neg (by omega),if_pos (by omega)]⟩
    · exact .inr (.inl ⟨by omega,by omega,by omega,if_pos (by omega)⟩)
  · by_cases h1:c=1
    · exact .inr (.inr (.inl ⟨by omega,trivial,by omega,by rw[if_neg (by omega),if_pos (by omega)]⟩))
    · by_cases h2:n=9
      · exact .inr (.inr (.inr (.inl ⟨by omega,by omega,trivial,if_pos (by omega)⟩)))
      · by_cases h3:c<128
        · exact .inr (.inr (.inr (.inr (.inl ⟨by omega,by omega,by omega,by rw[if_neg (by omega),if_pos (by omega)]⟩))))
        · exact .inr (.inr (.inr (.inr (.inr ⟨by omega,by omega,by omega,by rw[if_neg (by omega),if_neg (by omega)]⟩))))
 clear hx;rcases K with ⟨⟨k1,k2⟩,k3,k5,ks⟩ | ⟨⟨k1,k2⟩,k3,k5,ks⟩ | ⟨⟨k1,k2⟩,k3,k5,ks⟩ | ⟨⟨k1,k2⟩,k3,k5,ks⟩ | ⟨⟨k1,k2⟩,k3,k5,ks⟩ | ⟨⟨k1,k2⟩,k3,k5,ks⟩
 all_goals
  rw[ks];clear ks;go_enter Tryz.func91,Tryz.ntmps91;go_wp2;go_region
  go_wp2;rw[Hx.out];go_ret;exact⟨rfl,rfl⟩
theorem zmx (w0 w:World) (g x n c:Nat) (h:RdV w0 w g x n 0) (hc:c<256) (hn10:n<10):
 Calls Tryz.prog 91 #[.pointer (some ⟨g,0,none⟩),.int .u8 c] w fun e w'=>e=.returned (.int .i64 (zi n c:Nat))∧RdV w0 w' g (zu x n c) (n+1) (zi n c):=
 (zmw w g 0 x n c h.c0 h.c1 h.c2 h.f0 h.f1 h.f2 h.x64 hc hn10).mono fun e w' ⟨h1,h2⟩=>⟨h1,by subst h2;exact(h.set (zu x n c) (n+1) (zi n c) (zcb n c h.x64)).drew⟩
theorem zmy (w:World) (g o x:Nat) (hc0:w.cell? ⟨g,o,none⟩=some (.int .u64 (x:Int))) (hc2:w.cell? ⟨g,o+2,none⟩=some (.int .i64 1)):
 Calls Tryz.prog 92 #[.pointer (some ⟨g,o,none⟩)] w fun e w'=>e=.returned (.int .u64 (x:Int))∧w=w':=by
 go_enter Tryz.func92,Tryz.ntmps92;go_wp2;go_ret;exact⟨rfl,rfl⟩
theorem zmz (w0 w:World) (g x n:Nat) (h:RdV w0 w g x n 1):
 Calls Tryz.prog 92 #[.pointer (some ⟨g,0,none⟩)] w fun e w'=>e=.returned (.int .u64 (x:Int))∧w=w':=zmy w g 0 x h.c0 h.c2
theorem zm0 (w0 w:World) (g x n st:Nat) (h:RdV w0 w g x n st):
 Calls Tryz.prog 93 #[.pointer (some ⟨g,0,none⟩)] w fun e w'=>e=.returned (.int .i64 (n:Int))∧w=w':=by
 obtain⟨hb,hbase,hlt,hc0,hc1,hc2,hf0,hf1,hf2,hx64⟩:=h;clear hb hbase hlt hx64;go_enter Tryz.func93,Tryz.ntmps93;go_wp2;go_ret;exact⟨rfl,rfl⟩
def Door (w:World):Prop:=w.cell? ⟨0,0,none⟩=some (.iface 229 (.agg #[.pointer (some ⟨1,29,none⟩)]))
theorem Door.below {w w':World} (h:Door w) {B:Nat} (hB:w.heap.size≤B) (hb:Below B w w'):Door w':=by
 unfold Door;rw[hb.cell (p:=⟨0,0,none⟩) (Nat.lt_of_lt_of_le (ze h) hB)];exact h
theorem zdg (w:World) (p:Addr) (v:Value):w.grownBy (w.setCell p v) (some p.block):=
 ⟨rfl,rfl,rfl,by simp[World.setCell],fun k _ hne=>Below.heap_setCell _ _ _ _ (fun e=>hne (by rw[e]))⟩
abbrev Err:=Option (Int×Option Int)
def zh:Err→Value
 | none=>.nilIface
 | some (c,none)=>.iface 35 (.int .i64 c)
 | some (c,some a)=>.iface 112 (.agg #[.int .i64 c,.int .i64 a])
def kh:Err→Int
 | none=>0
 | some (c,_)=>c
def zg5:Err→Int
 | some (_,some a)=>a
 | _=> -1
def zbk (c a:Int):Err:=if c=0 then none else some (c,some a)
theorem zex {w0 w w':World} {g:Nat} (hb:Below w0.heap.size w0 w) (hg:w0.heap.size≤g) (h:w.grownBy w' (some g)):Below w0.heap.size w0 w':=
 hb.grown h hb.size (fun k hk=>by cases hk;exact hg)
theorem zce {w0 w w':World} (hb:Below w0.heap.size w0 w) (h:w.grownBy w' none):Below w0.heap.size w0 w':=
 hb.grown h hb.size (fun k hk=>by cases hk)
theorem zdh (x:Nat) (w:World) (hx:x<18446744073709551616):
 Calls Tryz.prog 26 #[.int .u64 x] w fun e w'=>e=.returned (.int .i64 ((zo x).length:Nat))∧w=w':=by
 have Hs:=hid (zlz hx);have hb:=Lib.bitLen_le x 64 (by omega) (by simpa using hx);go_enter Tryz.func26,Tryz.ntmps26;go_wp2_with fail;refine(Tryz.bits_Len64 x w (by omega) (by omega)).mono ?_;rintro e w' ⟨rfl,rfl⟩;rw[Int.toNat_natCast];generalize Lib.bitLen x=b at*;go_wp2_with fail;go_ret;exact⟨vq (by rw[←Hs.out];omega),rfl⟩
theorem zg6 (x:Nat) (hx:x<18446744073709551616):bits .or .u8 ((x:Int) % 256) 128=((x % 128+128:Nat):Int):=by
 have h:=zl1 (x % 256) (by omega);rw[show ((x % 256:Nat):Int)=(x:Int) % 256 from by omega] at h;rw[h];congr 1;omega
theorem zg7 (v:Value) (n base:Nat) (xs:List Value) (x:Nat) (w:World) (hx:x<18446744073709551616) (hown:w.ownsRow base 5 1 v n xs) (hbase:base≤w.heap.size) (hn:n≤140737488355000):
 Calls Tryz.prog 87 #[v,.int .u64 x] w fun e w'=>∃v',e=.returned v'∧w'.ownsRow base 5 1 v' (n+(zo x).length) (xs++u8s (zo x))∧Below base w w':=by
 have hlen:=zca 9 x;have hpos:=zay 9 x;have Ho:=hid hown;clear hown;have Hx:=hid hx;clear hx;go_enter Tryz.func87,Tryz.ntmps87;go_wp2_with fail;refine(zdh x w Hx.out).mono ?_;rintro e w' ⟨rfl,rfl⟩;rw[zb9];generalize hL:(vbF 9 x).length=L at*;have HL:=hid hL;clear hL;go_wp2_with fail
 go_loopw [0,1,8] (fun v y i wr=>∃j m k:Nat,j+1≤L∧i=.int .i64 j∧y=.int .u64 m∧Hid (m<18446744073709551616)∧Below base w wr∧base≤wr.heap.size∧j+(vbF k m).length=L∧
  Hid (∃p:List Nat,p.length=j∧vbF 9 x=p++vbF k m∧wr.ownsRow base 5 1 v (n+j) (xs++u8s p))) (fun _ _ i _=>L - (intOf i).toNat)
 case atStart=>exact⟨0,x,9,by omega,rfl,rfl,Hx.out,Below.refl _ _,hbase,by rw[HL.out];omega,[],rfl,rfl,by have:=Ho.out;simpa [u8s] using this⟩
 case round=>
  obtain⟨j,m,k,hj,rfl,rfl,hm,hb,hbs,hjl,hp⟩:=hrel;by_cases hjL:j<L - 1
  · have hlt:decide ((j:Int)<(L:Int) - 1)=true:=by rw[decide_eq_true_iff];omega
    obtain⟨k',rfl,h128,hcons⟩:=zgn (k:=k) (x:=m) (by omega);obtain⟨p,hpl,hpx,hpo⟩:=hp.out;have Hpo:=hid hpo;clear hpo;have Hcons:=hid hcons;clear hcons;have Hjl:=hid hjl;clear hjl;have Hpl:=hid hpl;clear hpl;have Hpx:=hid hpx;clear hpx;have hbit:=zg6 m hm.out;have hq256:m % 128+128<256:=by omega
    generalize m % 128+128=q at*;obtain⟨v',w1,hr,ho1,hg1⟩:=zdf base _ (n+j) _ (Hpo.out.alloc (.cells #[.int .u8 (q:Int)] 5)) (some ⟨wr.heap.size,0,none⟩) 1 1 [q] (za1 _ _ 1 _ [q] _ _ rfl rfl rfl (by intro x hx;simp at hx;omega) (by omega)) (by omega) (by simp only[World.size_alloc];omega);have Ho1:=hid ho1;clear ho1;have hb1:Below base w w1:=(hb.alloc hbs _).grown hg1 (by simp only[World.size_alloc];omega) (fun k hk=>(Hpo.out.lt k hk).1);have hs1:base≤w1.heap.size:=by have:=hg1.size;simp only[World.size_alloc] at this;omega
    clear hg1 Hpo;go_wp2_with (at_builtin;refine qf _ _ 22 rfl rfl _ _ rfl rfl _ _ hr ?_);clear hr;go_roundw
    case rel=>
     refine⟨j+1,m / 128,k',by omega,by go_num,by go_num,(by have:=hm.out;show m / 128<_;omega),hb1,hs1,?_,p++[q],?_,?_,?_⟩
     · have:=Hjl.out;rw[Hcons.out] at this;simp at this;omega
     · have:=Hpl.out;simp[this]
     · rw[Hpx.out,Hcons.out];simp
     · have:=Ho1.out;rw[List.append_assoc,←zbj] at this;exact this
    case measure=>simp[intOf];omega
  · have hge:decide ((j:Int)<(L:Int) - 1)=false:=by rw[decide_eq_false_iff_not];omega
    obtain⟨p,hpl,hpx,hpo⟩:=hp.out;have Hpo:=hid hpo;clear hpo;have h1:(vbF k m).length=1:=by have:=zay k m;omega
    have e1:=zgo h1;have Hfin:=hid (show zo x=p++[m % 256] from by rw[zb9,hpx,e1]);have Hpl:=hid hpl;clear hpl hpx h1 e1;have Hjl:=hid hjl;clear hjl;have hq256:m % 256<256:=by omega
    have hmq:((m:Int) % 256)=((m % 256:Nat):Int):=by omega
    generalize m % 256=q at*;obtain⟨v',w1,hr,ho1,hg1⟩:=zdf base _ (n+j) _ (Hpo.out.alloc (.cells #[.int .u8 (q:Int)] 5)) (some ⟨wr.heap.size,0,none⟩) 1 1 [q] (za1 _ _ 1 _ [q] _ _ rfl rfl rfl (by intro x hx;simp at hx;omega) (by omega)) (by omega) (by simp only[World.size_alloc];omega);have Ho1:=hid ho1;clear ho1;have hb1:Below base w w1:=(hb.alloc hbs _).grown hg1 (by simp only[World.size_alloc];omega) (fun k hk=>(Hpo.out.lt k hk).1);clear hg1 Hpo;go_wp2_with (at_builtin;refine qf _ _ 22 rfl rfl _ _ rfl rfl _ _ hr ?_);go_ret;refine⟨v',rfl,?_,hb1⟩;have h2:=Ho1.out;rw[List.append_assoc,←zbj] at h2;rw[Hfin.out];have h3:n+(p++[q]).length=n+j+1:=by have:=Hpl.out;simp[this];omega
    rw[h3];exact h2
theorem zm1 (p:Addr) (s:Nat) (w:World) (hs:w.cell? p=some (.int .u32 s)):
 Calls Tryz.prog 160 #[.pointer (some p)] w fun e w'=>e=.returned (.int .u32 (s:Int))∧w=w':=by
 obtain⟨b,o,sp⟩:=p;go_enter Tryz.func160,Tryz.ntmps160;go_wp2;go_ret;exact⟨rfl,rfl⟩
theorem zg8 (a:Option Addr) (n cap:Nat) (l:List Nat) (w:World) (hB:Byts w a n cap l):
 Calls Tryz.prog 154 #[.slice a n cap] w fun e w'=>e=.returned (.int .u32 ((sum l:Nat):Int))∧Below w.heap.size w w':=by
 have hB':∀o,Byts (w.alloc o) a n cap l:=fun o=>hB.below ((Below.refl _ _).alloc (Nat.le_refl _) _)
 have Hlt:=hid hB.lt;have HB:=hid hB';clear hB hB';go_enter Tryz.func154,Tryz.ntmps154;go_wp2_with fail;refine(zmq _ _ 0 a n cap l _ (HB.out _) (by omega) (by go_simp) (by go_simp)).mono ?_;rintro e w' ⟨rfl,rfl⟩;go_wp2_with fail;refine(zm1 _ (4294967295 ^^^ reg 4294967295 l) _ (by go_simp)).mono ?_;rintro e w' ⟨rfl,rfl⟩;go_wp2_with fail;go_ret;refine⟨?_,?_⟩
 · rfl
 · exact(Below.refl _ _).alloc (Nat.le_refl _) _
theorem zm2 {w:World} {base:Nat} {v:Value} {n:Nat} {xs:List Value} (hown:w.ownsRow base 5 1 v n xs) (a:Option Addr) (m c:Nat) (l:List Nat) (hB:Byts w a m c l) (hb:n+m≤140737488355328) {v':Value} {w':World}
 (hr:(Builtin.append_ #[22,22] 22 #[v,.slice a m c]).run Tryz.prog w=.ok v' w'):∀k,v'.ownBlock=some k→v.ownBlock=some k∨w.heap.size≤k:=by
 intro k hk;obtain⟨i0,hi,hz0,hz1,hz2⟩:=info_parts Tryz.info_u8
 cases a with
 | none=>
  have hc:=hB.nilc rfl;subst hc;have hm:=hB.room;obtain rfl:m=0:=by omega
  have h2:=run_append_owned_none (P:=Tryz.prog) w base 22 22 5 i0 1 Tryz.underlying22 hi v n xs hown;have h3:=hr.symm.trans h2;injection h3 with e;subst e
  exact .inl hk
 | some x=>
  have hl:(u8s l).length=m*i0.size:=by rw[zcc,hB.len,hz1];omega
  have h1:∀u∈u8s l,u.oneCell'=true:=by intro u hu;simp[u8s] at hu;obtain⟨y,_,rfl⟩:=hu;rfl
  rcases hown.2 with ⟨rfl,rfl⟩ | ⟨g,cap,cur,rfl,hbg,hg,hnc,hcm,hcs,htake⟩
  · have hx:xs=[]:=List.eq_nil_of_length_eq_zero (by simpa using hown.1);subst hx;obtain⟨v2,w2,hr2,ho2,-⟩:=zdf w.heap.size (.slice none 0 0) 0 [] (World.ownsRow_nil _ _ _ _) (some x) m c l hB hb (Nat.le_refl _);have h3:=hr.symm.trans hr2;injection h3 with e;subst e;exact .inr (ho2.lt k hk).1
  · by_cases hroom:n+m≤cap
    · have h2:=run_append_room (P:=Tryz.prog) w 22 22 5 i0 Tryz.underlying22 hi g n cap cur hg x m c (u8s l) hl hB.news h1 hroom (by rw[hl,hcs,hz1];omega);have h3:=hr.symm.trans h2;injection h3 with e;subst e;exact .inl hk
    · have holds:∀j u,xs[j]?=some u→w.cell? ((⟨g,0,none⟩:Addr).add j)=some u:=hown.cells (g:=g) rfl;have h2:=run_append_grow (P:=Tryz.prog) w 22 22 5 i0 _ Tryz.underlying22 hi hz0 ⟨g,0,none⟩ n cap xs (by rw[hown.1,hz1]) holds x m c (u8s l) hl hB.news (by omega) (by omega) (growslice_fits (by omega) (by rw[hz2];omega));have h3:=hr.symm.trans h2;injection h3 with e;subst e;right;simp[Value.ownBlock] at hk;omega
structure GrA (w wr:World) (v0 v:Value):Prop where
 gr:w.grownBy wr v0.ownBlock
 wh:∀k,v.ownBlock=some k→v0.ownBlock=some k∨w.heap.size≤k
theorem GrA.refl (w:World) (v:Value):GrA w w v v:=⟨⟨rfl,rfl,rfl,Nat.le_refl _,fun _ _ _=>rfl⟩,fun k h=>.inl h⟩
theorem GrA.below {w wr w':World} {v0 v:Value} (h:GrA w wr v0 v) (hb:Below wr.heap.size wr w'):GrA w w' v0 v:=
 ⟨⟨hb.os.trans h.gr.os,hb.tape.trans h.gr.tape,hb.output.trans h.gr.output,Nat.le_trans h.gr.size hb.size,fun k hk hn=>(hb.block k (Nat.lt_of_lt_of_le hk h.gr.size)).trans (h.gr.block k hk hn)⟩,h.wh⟩
theorem GrA.trans {w wr w':World} {v0 v v':Value} (h:GrA w wr v0 v) (h':GrA wr w' v v'):GrA w w' v0 v':=
 ⟨⟨h'.gr.os.trans h.gr.os,h'.gr.tape.trans h.gr.tape,h'.gr.output.trans h.gr.output,Nat.le_trans h.gr.size h'.gr.size,fun k hk hn=>(h'.gr.block k (Nat.lt_of_lt_of_le hk h.gr.size) fun e=>by
   rcases h.wh k e.symm with e2 | e2
   · exact hn e2.symm
   · omega).trans (h.gr.block k hk hn)⟩,fun k hk=>by
   rcases h'.wh k hk with e | e
   · exact h.wh k e
   · exact .inr (Nat.le_trans h.gr.size e)⟩
theorem GrA.append {w:World} {base:Nat} {v:Value} {n:Nat} {xs:List Value} (hown:w.ownsRow base 5 1 v n xs) (a:Option Addr) (m c:Nat) (l:List Nat) (hB:Byts w a m c l) (hb:n+m≤140737488355328) (hbase:base≤w.heap.size):
 ∃v' w',(Builtin.append_ #[22,22] 22 #[v,.slice a m c]).run Tryz.prog w=.ok v' w'∧w'.ownsRow base 5 1 v' (n+m) (xs++u8s l)∧GrA w w' v v':=by
 obtain⟨v',w',h1,h2,h3⟩:=zdf base v n xs hown a m c l hB hb hbase;exact⟨v',w',h1,h2,h3,zm2 hown a m c l hB hb h1⟩
theorem GrA.bel {w wr:World} {base n:Nat} {v0 v:Value} {xs:List Value} (h:GrA w wr v0 v) (hown:w.ownsRow base 5 1 v0 n xs) (hbase:base≤w.heap.size):Below base w wr:=
 ⟨h.gr.os,h.gr.tape,h.gr.output,h.gr.size,fun k hk=>h.gr.block k (by omega) fun e=>by have:=(hown.lt k e.symm).1;omega⟩
def zb (l:List Iv) (k:Nat):Iv:=l.getD k (0,0)
theorem yr {l:List Iv} {k:Nat} (h:k<l.length):zb l k=l[k]:=by simp[zb,h]
theorem zad {l:List Iv} {k:Nat} (h:k<l.length):zb l k∈l:=by rw[yr h];exact List.getElem_mem h
structure Ivs (w:World) (a:Option Addr) (n cap:Nat) (l:List Iv):Prop where
 len:l.length=n
 lt:∀s∈l,s.1<18446744073709551616∧s.2<18446744073709551616
 room:n≤cap
 most:cap≤9223372036854775807
 nilc:a=none→cap=0
 cells:0<n→∃b o,a=some ⟨b,o,none⟩∧∀i,i<n→w.cell? ⟨b,o+i*2,none⟩=some (.int .u64 (((zb l i).1:Nat):Int))∧w.cell? ⟨b,o+i*2+1,none⟩=some (.int .u64 (((zb l i).2:Nat):Int))
theorem Ivs.below {w w':World} {a:Option Addr} {n cap:Nat} {l:List Iv} (h:Ivs w a n cap l) (hb:Below w.heap.size w w'):Ivs w' a n cap l:=by
 refine⟨h.len,h.lt,h.room,h.most,h.nilc,fun hn=>?_⟩;obtain⟨b,o,ha,hc⟩:=h.cells hn;refine⟨b,o,ha,fun i hi=>?_⟩;obtain⟨h1,h2⟩:=hc i hi;exact⟨(hb.cell (p:=⟨b,o+i*2,none⟩) (ze h1)).trans h1,(hb.cell (p:=⟨b,o+i*2+1,none⟩) (ze h2)).trans h2⟩
abbrev ivV (s:Iv):Value:=.agg #[.int .u64 ((s.1:Nat):Int),.int .u64 ((s.2:Nat):Int)]
def ivC (l:List Iv):List Value:=l.flatMap fun s=>[.int .u64 ((s.1:Nat):Int),.int .u64 ((s.2:Nat):Int)]
theorem zg9 (s:Iv) (l:List Iv):ivC (s :: l)=.int .u64 ((s.1:Nat):Int) :: .int .u64 ((s.2:Nat):Int) :: ivC l:=rfl
theorem zey (a b:List Iv):ivC (a++b)=ivC a++ivC b:=by simp[ivC]
theorem zdi (l:List Iv):(ivC l).length=l.length*2:=by
 induction l with
 | nil=>rfl
 | cons s l ih=>rw[zg9];simp[ih];omega
theorem zez:∀(l:List Iv) (i:Nat),i<l.length→(ivC l)[i*2]?=some (.int .u64 (((zb l i).1:Nat):Int))∧(ivC l)[i*2+1]?=some (.int .u64 (((zb l i).2:Nat):Int))
 | [],i,h=>by simp at h
 | s :: l,0,_=>⟨rfl,rfl⟩
 | s :: l,i+1,h=>by
   have:=zez l i (by simpa using h);rw[zg9,show (i+1)*2=i*2+1+1 by omega];simpa [zb] using this
theorem zha (l:List Iv):∀u∈ivC l,u.oneCell'=true:=by
 intro u hu;simp only[ivC,List.mem_flatMap] at hu;obtain⟨s,_,hs⟩:=hu;simp at hs;rcases hs with rfl | rfl <;> rfl
theorem ze0 (w:World):Ivs w none 0 0 []:=⟨rfl,by simp,by omega,by omega,fun _=>rfl,fun h=>by omega⟩
theorem ze1 {w:World} {base n:Nat} {T:TypeId} {v:Value} {l:List Iv} (h:w.ownsRow base T 2 v n (ivC l)) (hl:∀s∈l,s.1<18446744073709551616∧s.2<18446744073709551616):∃a cap,v=.slice a n cap∧Ivs w a n cap l:=by
 have hlen:l.length=n:=by have:=h.1;rw[zdi] at this;omega
 rcases h.2 with ⟨rfl,rfl⟩ | ⟨g,cap,cur,rfl,hg,hh,hnc,hcm,_⟩
 · exact⟨none,0,rfl,hlen,hl,by omega,by omega,fun _=>rfl,fun h=>by omega⟩
 · refine⟨_,_,rfl,hlen,hl,hnc,by unfold maxLen at hcm;omega,(by intro h;cases h),fun hn=>⟨g,0,rfl,fun i hi=>?_⟩⟩;obtain⟨e1,e2⟩:=zez l i (by omega);have h1:=h.cells (g:=g) rfl _ _ e1;have h2:=h.cells (g:=g) rfl _ _ e2;rw[ye] at h1 h2;rw[Nat.add_assoc];exact⟨h1,h2⟩
theorem za2 {P:Program} {f:FuncId} {args:Array Value} {w w':World} {v:Value} (hw:Below w.heap.size w w') (h:Calls P f args w' fun e w''=>e=.returned v∧Below w'.heap.size w' w''):
 Calls P f args w' fun e w''=>e=.returned v∧Below w.heap.size w w'':=h.mono fun e w'' ⟨he,hb⟩=>⟨he,hw.trans (hb.mono hw.size)⟩
theorem zv {B:Nat} {a w:World} (h:Below B a w) (n:Nat):Below B a (w.drewN n):=⟨h.os,h.tape,h.output,h.size,h.block⟩
theorem zae {P:Program} {id:Nat} {Q:Exit→Act→World→Prop} {a:Act} {w:World} {l:List Oper} (hm:P.follows .mixedOrders=true) (hB:Region.lexB .any l.toArray=true)
 (h:wpQuiet P l.toArray (fun w'=>Below w.heap.size w w') (fun a'=>∀w',Below w.heap.size w w'→Q .normal a' w') l a):(Code.region id l.toArray true).wp P Q a w:=
 wp_region_quiet (C:=fun w'=>Below w.heap.size w w') hm hB ((Below.refl _ _).drew) (by simpa using h)
end
section
def ze2 (l:List Iv):Prop:=∀i j,i<j→j<l.length→(zb l i).1≤(zb l j).1
end
section
open Go.RowKit
def zdj (o:Option Nat):Value:=.tuple #[.int .u64 ((o.getD 0:Nat):Int),.bool o.isSome]
def zdk (x:Nat):Option Nat:=if x=0 then none else some (x - 1)
theorem zm3 (x:Nat) (hx:x<18446744073709551616) (w:World):Calls Tryz.prog 246 #[.int .u64 x] w fun e w'=>e=.returned (zdj (zdk x))∧Below w.heap.size w w':=by
 by_cases h:x=0
 · subst h;go_enter Tryz.func246,Tryz.ntmps246;go_wp2;all_goals go_ret2
   all_goals exact⟨by simp[zdj,zdk],by first | exact Below.refl _ _ | exact zv (Below.refl _ _) _⟩
 · have hw:IntKind.u64.wrap ((x:Int) - 1)=((x - 1:Nat):Int):=by rw[IntKind.wrap_u64];omega
   have hne:((x:Int) == 0)=false:=by rw[beq_eq_false_iff_ne];omega
   have e:zdk x=some (x - 1):=if_neg h;rw[e];go_enter Tryz.func246,Tryz.ntmps246;go_wp2;all_goals go_ret2
   all_goals exact⟨by simp[zdj],by first | exact Below.refl _ _ | exact zv (Below.refl _ _) _⟩
end
section
open Go.RowKit Go.Extern.Stop Go.Stop Go.Extern
theorem zm4 (c a:Int) (tb:Nat) (A:Addr) (o1 o2:Value) (w:World) (hA:w.cell? A=some (.pointer (some ⟨tb,0,none⟩))) (ht0:w.cell? ⟨tb,0,none⟩=some o1) (ht1:w.cell? ⟨tb,1,none⟩=some o2)
 (hf0:w.frozen? ⟨tb,0,none⟩=false) (hf1:w.frozen? ⟨tb,1,none⟩=false):
 Calls Tryz.prog 105 #[.iface 112 (.agg #[.int .i64 c,.int .i64 a]),.iface 188 (.pointer (some ⟨tb,0,none⟩)),.agg #[.pointer (some ⟨1,188,none⟩),.pointer (some A),.int .u64 150],.iface 229 (.agg #[.pointer (some ⟨1,112,none⟩)])] w
  fun e w'=>e=.returned (.bool true)∧w.grownBy w' (some tb)∧w'.cell? ⟨tb,0,none⟩=some (.int .i64 c)∧w'.cell? ⟨tb,1,none⟩=some (.int .i64 a):=by
 have hTO:=@run_callFunc_extern Tryz.prog 138 _ ReflectliteType.typeOf Tryz.func138 (by kernel_rfl) (by kernel_rfl) (by kernel_rfl) (by kernel_rfl);have hAT:=@run_callFunc_extern Tryz.prog 335 _ (ReflectliteType.relation "AssignableTo" ReflectliteType.assignableTo) Tryz.func335 (by kernel_rfl) (by kernel_rfl) (by kernel_rfl) (by kernel_rfl);have hEl:=@run_callFunc_extern Tryz.prog 139 _ (ReflectliteValue.method (ReflectliteValue.valueError "reflectlite.Value.Elem" 0) ReflectliteValue.elem) Tryz.func139 (by kernel_rfl) (by kernel_rfl) (by kernel_rfl) (by kernel_rfl);have hVO:=@run_callFunc_extern Tryz.prog 102 _ (fun args=>ReflectliteValue.unpack (args.getD 0 (.tuple #[]))) Tryz.func102 (by kernel_rfl) (by kernel_rfl) (by kernel_rfl) (by kernel_rfl);have hSt:=@run_callFunc_extern Tryz.prog 140 _ ReflectliteValue.set Tryz.func140 (by kernel_rfl) (by kernel_rfl) (by kernel_rfl) (by kernel_rfl);have tO:=Tryz.typeOfF;have mA:=Tryz.methodAssignableTo;have aFF:=Tryz.assignableFF;have vF:=Tryz.valueOfF;have hAl:A.block<w.heap.size:=ze hA;have htl:tb<w.heap.size:=ze ht0;have el:=Tryz.elemVPF A ⟨tb,0,none⟩ (w.alloc (.cells #[.pointer (some ⟨1,188,none⟩),.pointer (some A),.int .u64 150] 179)) (by rw[World.cell?_alloc_lt _ _ A hAl];exact hA)
 have h0:((w.alloc (.cells #[.pointer (some ⟨1,188,none⟩),.pointer (some A),.int .u64 150] 179)).alloc (.cells #[.int .i64 c,.int .i64 a] 112)).cell? ⟨tb,0,none⟩=some o1:=by
  rw[World.cell?_alloc_lt _ _ ⟨tb,0,none⟩ (by simp;omega),World.cell?_alloc_lt _ _ ⟨tb,0,none⟩ htl];exact ht0
 have h1:((w.alloc (.cells #[.pointer (some ⟨1,188,none⟩),.pointer (some A),.int .u64 150] 179)).alloc (.cells #[.int .i64 c,.int .i64 a] 112)).cell? ⟨tb,1,none⟩=some o2:=by
  rw[World.cell?_alloc_lt _ _ ⟨tb,1,none⟩ (by simp;omega),World.cell?_alloc_lt _ _ ⟨tb,1,none⟩ htl];exact ht1
 have g0:((w.alloc (.cells #[.pointer (some ⟨1,188,none⟩),.pointer (some A),.int .u64 150] 179)).alloc (.cells #[.int .i64 c,.int .i64 a] 112)).frozen? ⟨tb,0,none⟩=false:=by
  rw[World.frozen?_alloc_old _ _ ⟨tb,0,none⟩ (by simp;omega),World.frozen?_alloc_old _ _ ⟨tb,0,none⟩ (Nat.ne_of_lt htl)];exact hf0
 have g1:((w.alloc (.cells #[.pointer (some ⟨1,188,none⟩),.pointer (some A),.int .u64 150] 179)).alloc (.cells #[.int .i64 c,.int .i64 a] 112)).frozen? ⟨tb,1,none⟩=false:=by
  rw[World.frozen?_alloc_old _ _ ⟨tb,1,none⟩ (by simp;omega),World.frozen?_alloc_old _ _ ⟨tb,1,none⟩ (Nat.ne_of_lt htl)];exact hf1
 have st:=Tryz.setF tb (w.heap.size+1) c a o1 o2 ((w.alloc (.cells #[.pointer (some ⟨1,188,none⟩),.pointer (some A),.int .u64 150] 179)).alloc (.cells #[.int .i64 c,.int .i64 a] 112))
  (by rw[World.cell?_alloc_at _ _ _ _ (by simp)];rfl) (by rw[World.cell?_alloc_at _ _ _ _ (by simp)];rfl) h0 h1 g0 g1
 have hz:((w.setCell ⟨tb,0,none⟩ (.int .i64 c)).setCell ⟨tb,1,none⟩ (.int .i64 a)).heap.size=w.heap.size:=by simp[World.setCell]
 have hc0:((((w.setCell ⟨tb,0,none⟩ (.int .i64 c)).setCell ⟨tb,1,none⟩ (.int .i64 a)).alloc (.cells #[.pointer (some ⟨1,188,none⟩),.pointer (some A),.int .u64 150] 179)).alloc (.cells #[.int .i64 c,.int .i64 a] 112)).cell? ⟨tb,0,none⟩=some (.int .i64 c):=by
  rw[World.cell?_alloc_lt _ _ ⟨tb,0,none⟩ (by simp only[World.size_alloc,hz];omega),World.cell?_alloc_lt _ _ ⟨tb,0,none⟩ (by rw[hz];exact htl),World.cell?_setCell_other _ _ _ _ (by simp)];exact World.cell?_setCell_same _ _ _ ht0
 have hc1:((((w.setCell ⟨tb,0,none⟩ (.int .i64 c)).setCell ⟨tb,1,none⟩ (.int .i64 a)).alloc (.cells #[.pointer (some ⟨1,188,none⟩),.pointer (some A),.int .u64 150] 179)).alloc (.cells #[.int .i64 c,.int .i64 a] 112)).cell? ⟨tb,1,none⟩=some (.int .i64 a):=by
  rw[World.cell?_alloc_lt _ _ ⟨tb,1,none⟩ (by simp only[World.size_alloc,hz];omega),World.cell?_alloc_lt _ _ ⟨tb,1,none⟩ (by rw[hz];exact htl)];exact World.cell?_setCell_same _ _ _ (by rw[World.cell?_setCell_other _ _ _ _ (by simp)];exact ht1)
 have Hc0:=hid hc0;clear hc0 h0 h1 g0 g1 hz;have Hc1:=hid hc1;clear hc1;go_enter Tryz.func105,Tryz.ntmps105;go_wp2;refine wp_loop_rounds 1 ?_;rw[rounds_succ];go_wp2;go_ret;exact⟨rfl,vg (vg (vg (zdg _ ⟨tb,0,none⟩ _) (zdg _ ⟨tb,1,none⟩ _)) (World.grownBy_alloc _ _ _)) (World.grownBy_alloc _ _ _),Hc0.out,Hc1.out⟩
theorem zm5 (c:Int) (tb:Nat) (A:Addr) (w:World):
 Calls Tryz.prog 105 #[.iface 35 (.int .i64 c),.iface 188 (.pointer (some ⟨tb,0,none⟩)),.agg #[.pointer (some ⟨1,188,none⟩),.pointer (some A),.int .u64 150],.iface 229 (.agg #[.pointer (some ⟨1,112,none⟩)])] w
  fun e w'=>e=.returned (.bool false)∧w.grownBy w' none:=by
 have hTO:=@run_callFunc_extern Tryz.prog 138 _ ReflectliteType.typeOf Tryz.func138 (by kernel_rfl) (by kernel_rfl) (by kernel_rfl) (by kernel_rfl);have hAT:=@run_callFunc_extern Tryz.prog 335 _ (ReflectliteType.relation "AssignableTo" ReflectliteType.assignableTo) Tryz.func335 (by kernel_rfl) (by kernel_rfl) (by kernel_rfl) (by kernel_rfl);have tO:=Tryz.typeOfE;have mA:=Tryz.methodAssignableTo;have aEF:=Tryz.assignableEF;have s1:=Tryz.asAsE;have s2:=Tryz.asUnE;have s3:=Tryz.asUmE;go_enter Tryz.func105,Tryz.ntmps105;go_wp2;refine wp_loop_rounds 1 ?_;rw[rounds_succ];go_wp2;go_ret;exact⟨rfl,World.grownBy_alloc _ _ _⟩
