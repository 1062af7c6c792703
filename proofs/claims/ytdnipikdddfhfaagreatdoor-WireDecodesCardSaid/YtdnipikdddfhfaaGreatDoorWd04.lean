/- Part 04. -/
import Derived.Deep.QuietTactic
import Derived.WalkLawsBesides
import Derived.Test.YtdnipikdddfhfaaGreatDoorWd02
import Derived.Test.YtdnipikdddfhfaaGreatDoorWd03
set_option linter.unusedVariables false
set_option maxHeartbeats 16000000
namespace Go.Proofs.YtdnipikdddfhfaaGreatDoor
open Lib (hid)
section
open Go.RowKit Go.Sort
theorem zfi {w:World} {blk off sb so n t:Nat} {d:Array Nat} (h:Holds zc w blk off d) (hne:sb≠blk):Holds zc (putRow (Value.int .i64) (Sort.ahead w n) sb so (one t)) blk off d:=fun j hj=>
 ⟨by rw[cell?_putRow_other _ _ _ _ _ _ (Or.inl (Ne.symm hne))];exact(h j hj).1,by rw[frozen?_putRow];exact(h j hj).2⟩
theorem zi6 (d:Array Nat) (len:Nat) (hlen:d.size=len) (blk off cap a b sb so s:Nat) (w:World) (hH:Holds zc w blk off d) (ha:a<d.size) (hb:b<d.size)
 (hS:Holds (Value.int .i64) w sb so (one s)) (hs:s<2 ^ 62):
 Calls Tryz.prog 300 #[.slice (some ⟨blk,off,none⟩) len cap,.int .i64 a,.int .i64 b,.pointer (some ⟨sb,so,none⟩)] w fun e w'=>
  e=.returned (.tuple #[.int .i64 (order2 ltU d a b s).1,.int .i64 (order2 ltU d a b s).2.1])∧∃n,w'=putRow (Value.int .i64) (Sort.ahead w n) sb so (one (order2 ltU d a b s).2.2):=by
 subst hlen;replace hs:s<4611686018427387904:=by omega
 have ca:=(hH a ha).1;have cb:=(hH b hb).1;obtain⟨cs,fs⟩:=one_cell hS;have ea:d[a]! =d[a]:=getElem!_pos d a ha;have eb:d[b]! =d[b]:=getElem!_pos d b hb;go_enter Tryz.func300,Tryz.ntmps300;go_wp2;go_region_with (go_at_call 283;refine(qw _ _ _).mono ?_;rintro e w' ⟨rfl,rfl⟩)
 all_goals (try go_wp2)
 all_goals first
  | (have hlt:ltU d[b] d[a]=true:=by assumption
     have e2:order2 ltU d a b s=(b,a,s+1):=by simp[order2,ea,eb,hlt]
     go_ret2;rw[e2];refine⟨rfl,1,?_⟩;rw[putRow_ahead,←one_set hS (s+1)]
     simp[drew_eq_ahead])
  | (have hlt:ltU d[b] d[a]=false:=by assumption
     have e2:order2 ltU d a b s=(a,b,s):=by simp[order2,ea,eb,hlt]
     go_ret2;rw[e2];refine⟨rfl,1,?_⟩;rw[putRow_ahead,putRow_self _ _ _ _ _ hS]
     rfl)
theorem zmh (d:Array Nat) {a b n:Nat} (s:Nat) (ha:a<n) (hb:b<n):(order2 ltU d a b s).1<n∧(order2 ltU d a b s).2.1<n:=by
 have:=order2_mem ltU d a b s;omega
theorem zmi (d:Array Nat) (a b s:Nat):(order2 ltU d a b s).2.2≤s+1:=by
 unfold order2;split <;> simp
set_option maxRecDepth 100000 in
theorem zmj (d:Array Nat) (len:Nat) (hlen:d.size=len) (blk off cap a b c sb so s:Nat) (w:World) (hH:Holds zc w blk off d) (ha:a<d.size) (hb:b<d.size) (hc:c<d.size) (hne:sb≠blk)
 (hS:Holds (Value.int .i64) w sb so (one s)) (hs:s+3<2 ^ 62):
 Calls Tryz.prog 294 #[.slice (some ⟨blk,off,none⟩) len cap,.int .i64 a,.int .i64 b,.int .i64 c,.pointer (some ⟨sb,so,none⟩)] w fun e w'=>
  e=.returned (.int .i64 (median ltU d a b c s).1)∧∃n,w'=putRow (Value.int .i64) (Sort.ahead w n) sb so (one (median ltU d a b c s).2):=by
 subst hlen;have l1:=zmh d s ha hb;have s1:=zmi d a b s;have l2:=zmh d (order2 ltU d a b s).2.2 l1.2 hc;have s2:=zmi d (order2 ltU d a b s).2.1 c (order2 ltU d a b s).2.2;go_enter Tryz.func294,Tryz.ntmps294;go_wp2_with (go_at_call_of 300 (Value.int .i64 (b:Int));refine(zi6 d _ rfl blk off cap a b sb so s w hH ha hb hS (by omega)).mono ?_;rintro e w' ⟨rfl,n1,rfl⟩);go_wp2_with (go_at_call_of 300 (Value.int .i64 (c:Int));refine(zi6 d _ rfl blk off cap (order2 ltU d a b s).2.1 c sb so (order2 ltU d a b s).2.2 _ (zfi hH hne) l1.2 hc (holds_one hS) (by omega)).mono ?_;rintro e w' ⟨rfl,n2,rfl⟩)
 go_wp2_with (go_at_call_of 300 (Value.int .i64 ((order2 ltU d a b s).1:Int));refine(zi6 d _ rfl blk off cap (order2 ltU d a b s).1 (order2 ltU d (order2 ltU d a b s).2.1 c (order2 ltU d a b s).2.2).1 sb so (order2 ltU d (order2 ltU d a b s).2.1 c (order2 ltU d a b s).2.2).2.2 _
  (zfi (zfi hH hne) hne) l1.1 l2.1 (holds_one (holds_one hS)) (by omega)).mono ?_;rintro e w' ⟨rfl,n3,rfl⟩)
 go_ret;refine⟨rfl,n1+(n2+n3),?_⟩;rw[one_one,one_one]
 rfl
set_option maxRecDepth 100000 in
theorem zuf (d:Array Nat) (len:Nat) (hlen:d.size=len) (blk off cap a sb so s:Nat) (w:World) (hH:Holds zc w blk off d) (ha0:1≤a) (ha:a+1<d.size) (hsz:d.size<2 ^ 62) (hne:sb≠blk)
 (hS:Holds (Value.int .i64) w sb so (one s)) (hs:s+3<2 ^ 62):
 Calls Tryz.prog 293 #[.slice (some ⟨blk,off,none⟩) len cap,.int .i64 a,.pointer (some ⟨sb,so,none⟩)] w fun e w'=>
  e=.returned (.int .i64 (medianAdjacent ltU d a s).1)∧∃n,w'=putRow (Value.int .i64) (Sort.ahead w n) sb so (one (medianAdjacent ltU d a s).2):=by
 subst hlen;replace hsz:d.size<4611686018427387904:=by omega
 go_enter Tryz.func293,Tryz.ntmps293;go_wp2_with (go_at_call 294;rw[show ((a:Int) - 1)=((a - 1:Nat):Int) by omega,show ((a:Int)+1)=((a+1:Nat):Int) by omega];refine(zmj d _ rfl blk off cap (a - 1) a (a+1) sb so s w hH (by omega) (by omega) ha hne hS hs).mono ?_;rintro e w' ⟨rfl,n1,rfl⟩);go_ret;exact⟨rfl,n1,rfl⟩
end
section
open Go.RowKit
theorem zmk {w:World} (base:Nat) (v:Value) (n:Nat) (xs:List Value) (hown:w.ownsRow base 5 1 v n xs) (a:Option Addr) (m c:Nat) (l:List Nat) (hB:Byts w a m c l)
 (hbytes:n+m≤140737488355328) (hbase:base≤w.heap.size):
 ∃v' w',(Builtin.append_ #[22,22] 22 #[v,.slice a m c]).run Tryz.prog w=.ok v' w'∧w'.ownsRow base 5 1 v' (n+m) (xs++u8s l)∧w.grownBy w' v.ownBlock:=by
 obtain⟨i0,hi,hz0,hz1,hz2⟩:=info_parts Tryz.info_u8
 cases a with
 | none=>
  have hc:=hB.nilc rfl;have hm:=hB.room;obtain rfl:m=0:=by omega
  subst hc;have hl:l=[]:=List.length_eq_zero_iff.1 hB.len;subst hl
  refine⟨v,w,run_append_owned_none _ base _ _ _ i0 1 Tryz.underlying22 hi v n xs hown,by simpa [u8s] using hown,⟨rfl,rfl,rfl,Nat.le_refl _,fun _ _ _=>rfl⟩⟩
 | some x=>
  obtain⟨v',w',hr,ho,hg,_⟩:=run_append_own (P:=Tryz.prog) w base 22 22 5 i0 (.int .u8 0) 1 1 Tryz.underlying22 hi hz0 hz1 hz2 rfl (by decide) v n xs hown x m c (u8s l)
   (by rw[zl8,hB.len];omega) hB.news (by intro u hu;simp[u8s] at hu;obtain⟨y,_,rfl⟩:=hu;rfl) (by unfold maxLen;omega) (by omega) hbase
  exact⟨v',w',hr,ho,hg⟩
theorem zml (a a':Option Addr) (n cap n' cap':Nat) (l l':List Nat) (w:World) (hB:Byts w a n cap l) (hB':Byts w a' n' cap' l') (r:Bool) (hr:r=decide (l=l')):
 Calls Tryz.prog 56 #[.slice a n cap,.slice a' n' cap'] w fun e w'=>e=.returned (.bool r)∧∃q,w'=w.drewN q:=by
 obtain⟨hn,hlt,hnc,hcm,hnil,hc⟩:=hB;clear hnil;have hm:n≤9223372036854775807:=by omega
 obtain⟨hn',hlt',hnc',hcm',hnil',hc'⟩:=hB';clear hnil';have hm':n'≤9223372036854775807:=by omega
 by_cases hnn:n=n'
 · subst hnn;have Hn:=hid hn;clear hn;have Hn':=hid hn';clear hn';have Hlt:=hid hlt;clear hlt;have Hlt':=hid hlt';clear hlt';have Hc:=hid hc;clear hc;have Hc':=hid hc';clear hc';have Hr:=hid hr;clear hr;have hnb:((n:Int) != (n:Int))=false:=by simp
   go_enter Tryz.func56,Tryz.ntmps56;go_wp2;go_loopw [4,5,13] (fun _ _ i wr=>∃k q:Nat,k≤n∧i=.int .i64 k∧wr=w.drewN q∧Hid (l.take k=l'.take k)) (fun _ _ i _=>n - (intOf i).toNat)
   case atStart=>exact⟨0,0,by omega,rfl,rfl,rfl⟩
   case round=>
    obtain⟨k,q,hk,rfl,rfl,ht⟩:=hrel;by_cases hkn:k<n
    · obtain⟨cb,co,rfl,hcell⟩:=Hc.out (by omega);obtain⟨cb',co',rfl,hcell'⟩:=Hc'.out (by omega);have hc:=hcell k hkn;have hc':=hcell' k hkn;clear hcell hcell';have h0:(0:Int)≤k:=by omega
      by_cases he:nth l k=nth l' k
      · have Ht:=hid (ztz ht.out (by rw[Hn.out];exact hkn) (by rw[Hn'.out];exact hkn) he);rw[he] at hc;generalize nth l' k=c at*;clear he;go_wp2;go_quiet (fail);go_wp2;go_roundw
        case rel=>exact⟨k+1,_,by omega,by go_num,rfl,Ht.out⟩
        case measure=>simp[intOf];omega
      · have hne:(((nth l k:Nat):Int) != ((nth l' k:Nat):Int))=true:=by rw[bne_iff_ne];omega
        have Hne:=hid (zt0 he);generalize nth l k=c at*;generalize nth l' k=c' at*;clear he;go_wp2;go_quiet (fail);go_wp2;go_ret;refine⟨?_,_,World.drewN_drewN _ _ _⟩;have:=Hr.out;rw[decide_eq_false Hne.out] at this;rw[this]
        rfl
    · obtain rfl:k=n:=by omega
      go_wp2;go_ret;refine⟨?_,_,rfl⟩;have h1:=ht.out;rw[List.take_of_length_le (by rw[Hn.out];omega),List.take_of_length_le (by rw[Hn'.out];omega)] at h1;have:=Hr.out;rw[decide_eq_true h1] at this;rw[this]
      rfl
 · have hnb:((n:Int) != (n':Int))=true:=by rw[bne_iff_ne];omega
   have hne:l≠l':=fun h=>hnn (by rw[←hn,←hn',h])
   rw[decide_eq_false hne] at hr;subst hr;clear hn hn' hlt hlt' hc hc' hne;go_enter Tryz.func56,Tryz.ntmps56;go_wp2;go_ret;exact⟨rfl,0,rfl⟩
structure RdV (w0 w:World) (g x n st:Nat):Prop where
 below:Below w0.heap.size w0 w
 base:w0.heap.size≤g
 lt:g<w.heap.size
 c0:w.cell? ⟨g,0,none⟩=some (.int .u64 (x:Int))
 c1:w.cell? ⟨g,1,none⟩=some (.int .i64 (n:Int))
 c2:w.cell? ⟨g,2,none⟩=some (.int .i64 (st:Int))
 f0:w.frozen? ⟨g,0,none⟩=false
 f1:w.frozen? ⟨g,1,none⟩=false
 f2:w.frozen? ⟨g,2,none⟩=false
 x64:x<18446744073709551616
theorem RdV.later {w0 w w':World} {g x n st:Nat} (h:RdV w0 w g x n st) (hb:Below w.heap.size w w'):RdV w0 w' g x n st:=by
 refine⟨h.below.trans (hb.mono h.below.size),h.base,Nat.lt_of_lt_of_le h.lt hb.size,?_,?_,?_,?_,?_,?_,h.x64⟩
 · rw[hb.cell (p:=⟨g,0,none⟩) h.lt];exact h.c0
 · rw[hb.cell (p:=⟨g,1,none⟩) h.lt];exact h.c1
 · rw[hb.cell (p:=⟨g,2,none⟩) h.lt];exact h.c2
 · rw[hb.frozen (p:=⟨g,0,none⟩) h.lt];exact h.f0
 · rw[hb.frozen (p:=⟨g,1,none⟩) h.lt];exact h.f1
 · rw[hb.frozen (p:=⟨g,2,none⟩) h.lt];exact h.f2
theorem RdV.set {w0 w:World} {g x n st:Nat} (h:RdV w0 w g x n st) (x' n' st':Nat) (hx:x'<18446744073709551616):
 RdV w0 (((w.setCell ⟨g,1,none⟩ (.int .i64 (n':Int))).setCell ⟨g,0,none⟩ (.int .u64 (x':Int))).setCell ⟨g,2,none⟩ (.int .i64 (st':Int))) g x' n' st':=by
 refine⟨((h.below.setCell (p:=⟨g,1,none⟩) h.base _).setCell (p:=⟨g,0,none⟩) h.base _).setCell (p:=⟨g,2,none⟩) h.base _,h.base,by have:=h.lt;simpa [World.setCell] using this,?_,?_,?_,?_,?_,?_,hx⟩
 · rw[World.cell?_setCell_other _ _ _ _ (by simp)];exact World.cell?_setCell_same _ _ _ (by rw[World.cell?_setCell_other _ _ _ _ (by simp)];exact h.c0)
 · rw[World.cell?_setCell_other _ _ _ _ (by simp),World.cell?_setCell_other _ _ _ _ (by simp)];exact World.cell?_setCell_same _ _ _ h.c1
 · exact World.cell?_setCell_same _ _ _ (by rw[World.cell?_setCell_other _ _ _ _ (by simp),World.cell?_setCell_other _ _ _ _ (by simp)];exact h.c2)
 · simp only[World.frozen?_setCell];exact h.f0
 · simp only[World.frozen?_setCell];exact h.f1
 · simp only[World.frozen?_setCell];exact h.f2
theorem zug:∀c:Fin 256,c.val &&& (255 - 128)=c.val % 128:=by decide +kernel
theorem zuh (c:Nat) (hc:c<256):bits .andNot .u8 (c:Int) 128=((c % 128:Nat):Int):=by
 have h:=u8_andNot_nat c 128 hc (by omega);rw[zug ⟨c,hc⟩] at h;exact h
theorem zmm (x n c:Nat) (hx:x<18446744073709551616):bits .or .u64 (x:Int) (IntKind.u64.wrap ((c:Int) % 128*2 ^ (7*n)))=((vp x n c:Nat):Int):=by
 rw[IntKind.wrap_u64,show (((c:Int) % 128*2 ^ (7*n)) % 18446744073709551616)=((c % 128*2 ^ (7*n) % 18446744073709551616:Nat):Int) from by
  rw[Int.natCast_emod,Int.natCast_mul,Int.natCast_emod,Int.natCast_pow];rfl]
 exact u64_or_nat x _ hx (Nat.mod_lt _ (by omega))
theorem RdV.drew {w0 w:World} {g x n st:Nat} (h:RdV w0 w g x n st):RdV w0 w.drew g x n st:=h.later ((Below.refl _ _).drew)
abbrev zui (w:World) (g o x n c st:Nat):World:=(((w.setCell ⟨g,o+1,none⟩ (.int .i64 ((n+1:Nat):Int))).setCell ⟨g,o,none⟩ (.int .u64 ((vp x n c:Nat):Int))).setCell ⟨g,o+2,none⟩ (.int .i64 (st:Int))).drew
theorem zuj (w:World) (g o x n c:Nat) (hc0:w.cell? ⟨g,o,none⟩=some (.int .u64 (x:Int))) (hc1:w.cell? ⟨g,o+1,none⟩=some (.int .i64 (n:Int))) (hc2:w.cell? ⟨g,o+2,none⟩=some (.int .i64 0))
 (hf0:w.frozen? ⟨g,o,none⟩=false) (hf1:w.frozen? ⟨g,o+1,none⟩=false) (hf2:w.frozen? ⟨g,o+2,none⟩=false) (hx:x<18446744073709551616) (hc:c<256) (hn10:n<10):
 Calls Tryz.prog 91 #[.pointer (some ⟨g,o,none⟩),.int .u8 c] w fun e w'=>e=.returned (.int .i64 (yf n c:Nat))∧w'=zui w g o x n c (yf n c):=by
 have Hx:=hid (zmm x n c hx);have ka:=zuh c hc
 have K:((((c:Int) == 0)=true∧decide (1<(c:Int))=false)∧decide (1<(n:Int)+1)=false∧decide ((c:Int)<128)=true∧yf n c=1)∨((((c:Int) == 0)=true∧decide (1<(c:Int))=false)∧decide (1<(n:Int)+1)=true∧decide ((c:Int)<128)=true∧yf n c=2)∨
  ((((c:Int) == 0)=false∧decide (1<(c:Int))=false)∧True∧decide ((c:Int)<128)=true∧yf n c=1)∨((((c:Int) == 0)=false∧decide (1<(c:Int))=true)∧((n:Int)+1 == 10)=true∧True∧yf n c=2)∨
  ((((c:Int) == 0)=false∧decide (1<(c:Int))=true)∧((n:Int)+1 == 10)=false∧decide ((c:Int)<128)=true∧yf n c=1)∨((((c:Int) == 0)=false∧decide (1<(c:Int))=true)∧((n:Int)+1 == 10)=false∧decide ((c:Int)<128)=false∧yf n c=0):=by
  simp only[beq_iff_eq,beq_eq_false_iff_ne,decide_eq_true_iff,decide_eq_false_iff_not,yf];by_cases h0:c=0
  · by_cases h1:n=0
    · exact .inl ⟨by omega,by omega,by omega,by rw[if_neg (by omega),if_pos (by omega)]⟩
    · exact .inr (.inl ⟨by omega,by omega,by omega,if_pos (by omega)⟩)
  · by_cases h1:c=1
    · exact .inr (.inr (.inl ⟨by omega,trivial,by omega,by rw[if_neg (by omega),if_pos (by omega)]⟩))
    · by_cases h2:n=9
      · exact .inr (.inr (.inr (.inl ⟨by omega,by omega,trivial,if_pos (by omega)⟩)))
      · by_cases h3:c<128
        · exact .inr (.inr (.inr (.inr (.inl ⟨by omega,by omega,by omega,by rw[if_neg (by omega),if_pos (by omega)]⟩))))
        · exact .inr (.inr (.inr (.inr (.inr ⟨by omega,by omega,by omega,by rw[if_neg (by omega),if_neg (by omega)]⟩))))
 clear hx;rcases K with ⟨⟨k1,k2⟩,k3,k5,ks⟩ | ⟨⟨k1,k2⟩,k3,k5,ks⟩ | ⟨⟨k1,k2⟩,k3,k5,ks⟩ | ⟨⟨k1,k2⟩,k3,k5,ks⟩ | ⟨⟨k1,k2⟩,k3,k5,ks⟩ | ⟨⟨k1,k2⟩,k3,k5,ks⟩
 all_goals
  rw[ks];clear ks;go_enter Tryz.func91,Tryz.ntmps91;go_wp2;go_region
  go_wp2;rw[Hx.out];go_ret;exact⟨rfl,rfl⟩
theorem zuk (w0 w:World) (g x n c:Nat) (h:RdV w0 w g x n 0) (hc:c<256) (hn10:n<10):
 Calls Tryz.prog 91 #[.pointer (some ⟨g,0,none⟩),.int .u8 c] w fun e w'=>e=.returned (.int .i64 (yf n c:Nat))∧RdV w0 w' g (vp x n c) (n+1) (yf n c):=
 (zuj w g 0 x n c h.c0 h.c1 h.c2 h.f0 h.f1 h.f2 h.x64 hc hn10).mono fun e w' ⟨h1,h2⟩=>⟨h1,by subst h2;exact(h.set (vp x n c) (n+1) (yf n c) (zl6 n c h.x64)).drew⟩
theorem zul (w:World) (g o x:Nat) (hc0:w.cell? ⟨g,o,none⟩=some (.int .u64 (x:Int))) (hc2:w.cell? ⟨g,o+2,none⟩=some (.int .i64 1)):
 Calls Tryz.prog 92 #[.pointer (some ⟨g,o,none⟩)] w fun e w'=>e=.returned (.int .u64 (x:Int))∧w=w':=by
 go_enter Tryz.func92,Tryz.ntmps92;go_wp2;go_ret;exact⟨rfl,rfl⟩
theorem zum (w0 w:World) (g x n:Nat) (h:RdV w0 w g x n 1):
 Calls Tryz.prog 92 #[.pointer (some ⟨g,0,none⟩)] w fun e w'=>e=.returned (.int .u64 (x:Int))∧w=w':=zul w g 0 x h.c0 h.c2
theorem zun (w0 w:World) (g x n st:Nat) (h:RdV w0 w g x n st):
 Calls Tryz.prog 93 #[.pointer (some ⟨g,0,none⟩)] w fun e w'=>e=.returned (.int .i64 (n:Int))∧w=w':=by
 obtain⟨hb,hbase,hlt,hc0,hc1,hc2,hf0,hf1,hf2,hx64⟩:=h;clear hb hbase hlt hx64;go_enter Tryz.func93,Tryz.ntmps93;go_wp2;go_ret;exact⟨rfl,rfl⟩
def Door (w:World):Prop:=w.cell? ⟨0,0,none⟩=some (.iface 229 (.agg #[.pointer (some ⟨1,29,none⟩)]))
theorem Door.below {w w':World} (h:Door w) {B:Nat} (hB:w.heap.size≤B) (hb:Below B w w'):Door w':=by
 unfold Door;rw[hb.cell (p:=⟨0,0,none⟩) (Nat.lt_of_lt_of_le (zh h) hB)];exact h
theorem zgs (w:World) (p:Addr) (v:Value):w.grownBy (w.setCell p v) (some p.block):=
 ⟨rfl,rfl,rfl,by simp[World.setCell],fun k _ hne=>Below.heap_setCell _ _ _ _ (fun e=>hne (by rw[e]))⟩
abbrev Err:=Option (Int×Option Int)
def yt:Err→Value
 | none=>.nilIface
 | some (c,none)=>.iface 35 (.int .i64 c)
 | some (c,some a)=>.iface 112 (.agg #[.int .i64 c,.int .i64 a])
def zcm:Err→Int
 | none=>0
 | some (c,_)=>c
def zi7:Err→Int
 | some (_,some a)=>a
 | _=> -1
def zem (c a:Int):Err:=if c=0 then none else some (c,some a)
theorem zi8 {w0 w w':World} {g:Nat} (hb:Below w0.heap.size w0 w) (hg:w0.heap.size≤g) (h:w.grownBy w' (some g)):Below w0.heap.size w0 w':=
 hb.grown h hb.size (fun k hk=>by cases hk;exact hg)
theorem zuo {w0 w w':World} (hb:Below w0.heap.size w0 w) (h:w.grownBy w' none):Below w0.heap.size w0 w':=
 hb.grown h hb.size (fun k hk=>by cases hk)
theorem zi9 (x:Nat) (w:World) (hx:x<18446744073709551616):
 Calls Tryz.prog 26 #[.int .u64 x] w fun e w'=>e=.returned (.int .i64 ((je x).length:Nat))∧w=w':=by
 have Hs:=hid (ztw hx);have hb:=Lib.bitLen_le x 64 (by omega) (by simpa using hx);go_enter Tryz.func26,Tryz.ntmps26;go_wp2_with fail;refine(Tryz.bits_Len64 x w (by omega) (by omega)).mono ?_;rintro e w' ⟨rfl,rfl⟩;rw[Int.toNat_natCast];generalize Lib.bitLen x=b at*;go_wp2_with fail;go_ret;exact⟨zbc (by rw[←Hs.out];omega),rfl⟩
theorem zup (x:Nat) (hx:x<18446744073709551616):bits .or .u8 ((x:Int) % 256) 128=((x % 128+128:Nat):Int):=by
 have h:=zty (x % 256) (by omega);rw[show ((x % 256:Nat):Int)=(x:Int) % 256 from by omega] at h;rw[h];congr 1;omega
theorem zuq:∀(k x:Nat) (w:World),x<2 ^ (7*k+7)→x<18446744073709551616→k≤9→
 Calls Tryz.prog 67 #[.int .u64 x] w fun e w'=>∃v',e=.returned v'∧w'.ownsRow w.heap.size 5 1 v' (vbF k x).length (u8s (vbF k x))∧Below w.heap.size w w':=by
 intro k
 induction k with
 | zero=>
  intro x w hx h64 _;have h128:x<128:=by simpa using hx
  have ho:=World.ownsRow_lit (e:=5) (size:=1) (base:=w.heap.size) w #[.int .u8 (x:Int)] 1 (Nat.le_refl _) (by unfold maxLen;omega) rfl;have Ho:=hid ho;clear ho hx h64;have hlt:decide ((x:Int)<128)=true:=by rw[decide_eq_true_iff];omega
  have hm:((x:Int) % 256)=(x:Int):=by omega
  have He:=hid (show vbF 0 x=[x] from by simp[vbF];omega);go_enter Tryz.func67,Tryz.ntmps67;go_wp2_with fail;go_ret
  exact⟨_,rfl,by rw[He.out];exact Ho.out,(Below.refl _ _).alloc (Nat.le_refl _) _⟩
 | succ k ih=>
  intro x w hx h64 hk;by_cases h128:x<128
  · have ho:=World.ownsRow_lit (e:=5) (size:=1) (base:=w.heap.size) w #[.int .u8 (x:Int)] 1 (Nat.le_refl _) (by unfold maxLen;omega) rfl;have Ho:=hid ho;clear ho hx h64;have hlt:decide ((x:Int)<128)=true:=by rw[decide_eq_true_iff];omega
    have hm:((x:Int) % 256)=(x:Int):=by omega
    have He:=hid (show vbF (k+1) x=[x] from by rw[zbw,if_pos h128]);have Ih:=hid ih;clear ih;go_enter Tryz.func67,Tryz.ntmps67;go_wp2_with fail;go_ret;exact⟨_,rfl,by rw[He.out];exact Ho.out,(Below.refl _ _).alloc (Nat.le_refl _) _⟩
  · have hge:decide ((x:Int)<128)=false:=by rw[decide_eq_false_iff_not];omega
    have hd:x / 128<2 ^ (7*k+7):=by
     rw[show 7*(k+1)+7=(7*k+7)+7 from by omega,Nat.pow_add] at hx;generalize 2 ^ (7*k+7)=P at*;exact Nat.div_lt_of_lt_mul (by omega)
    have hq256:x % 128+128<256:=by omega
    have Hxd:=hid (show ((x:Int) / 128)=((x / 128:Nat):Int) from by omega);have He:=hid (show vbF (k+1) x=(x % 128+128) :: vbF k (x / 128) from by rw[zbw,if_neg h128]);have hl:=zgp k (x / 128);have Hl:=hid (ziz k (x / 128));have Ih:=hid (fun w=>ih (x / 128) w hd (by have:=Nat.div_le_self x 128;omega) (by omega));clear ih;have ho1:=World.ownsRow_lit (e:=5) (size:=1) (base:=w.heap.size) w #[.int .u8 ((x:Int) % 128+128)] 1 (Nat.le_refl _) (by unfold maxLen;omega) rfl;have Ho1:=hid ho1;clear ho1;clear hx hd;go_enter Tryz.func67,Tryz.ntmps67;go_wp2_with fail;rw[Hxd.out];refine(Ih.out _).mono ?_;rintro e w2 ⟨v2,rfl,ho2,hb2⟩;obtain⟨a2,c2,rfl,hB2⟩:=zmb ho2 Hl.out;have h1':=qc Ho1.out hb2;have hbb:Below w.heap.size w w2:=((Below.refl _ _).alloc (Nat.le_refl _) _).trans (hb2.mono (by simp only[World.size_alloc];omega));obtain⟨v3,w3,hr3,ho3,hg3⟩:=zmk w.heap.size _ 1 _ h1' a2 _ c2 _ hB2 (by omega) hbb.size;have Ho3:=hid ho3;have hb3:=hbb.grown hg3 hbb.size (by intro k hk;simp[Value.ownBlock] at hk;omega);clear hg3 hb2 ho2 hB2 h1' ho3 hbb;go_wp2_with (at_builtin;refine jh _ _ 22 rfl rfl _ _ rfl rfl _ _ hr3 ?_);go_ret;refine⟨_,rfl,?_,hb3⟩;have h4:=Ho3.out;rw[show ((x:Int) % 128+128)=((x % 128+128:Nat):Int) from by omega] at h4;rw[He.out,List.length_cons,Nat.add_comm];exact h4
end
section
open Go.RowKit Go.Sort
set_option maxRecDepth 100000 in
theorem zur (blk off cap a L:Nat) (d:Array Nat) (w:World) (hH:Holds zc w blk off d) (hblk:blk<w.heap.size) (hb:a+L≤d.size) (hsz:d.size<4611686018427387904) (h8:8≤L):
 Calls Tryz.prog 279 #[.slice (some ⟨blk,off,none⟩) d.size cap,.int .i64 a,.int .i64 ((a+L:Nat):Int)] w fun e w'=>
  e=.returned (.tuple #[])∧∃n os,w'=grow (putRow zc (Sort.ahead w n) blk off (breakPatterns d a (a+L))) os:=by
 rw[breakPatterns_eq d a L h8];obtain⟨M,hM⟩:∃M:Nat,M=1 <<< bitsLen L:=⟨_,rfl⟩;have hM1:1≤M:=by rw[hM,Nat.one_shiftLeft];exact Nat.two_pow_pos _
 have hM2:M≤2*L:=by rw[hM,Nat.one_shiftLeft];exact two_pow_bitsLen_le (by omega)
 have hNP:∀w,Calls Tryz.prog 254 #[.int .i64 (L:Int)] w fun e w'=>e=.returned (.int .u64 (M:Int))∧w'=w:=by rw[hM];exact fun w=>zt6 L (by omega) w
 rw[←hM];clear hM;have HH:Hid (Holds zc w blk off d):=hH
 have HST:Hid (w.alloc (Obj.cells #[.int .u64 (L:Int)] 346)=grow (putRow zc (Sort.ahead w 0) blk off d) #[Obj.cells #[.int .u64 ((UInt64.ofNat L).toNat:Int)] 346]):=by
  show _=_;rw[show Sort.ahead w 0=w from rfl,putRow_self _ _ _ _ _ hH,alloc_eq_grow,show (UInt64.ofNat L).toNat=L from by simp;omega]
 clear hH;go_enter Tryz.func279,Tryz.ntmps279;go_wp2_with (first | (go_at_call 254;rw[show ((a:Int)+(L:Int) - (a:Int))=(L:Int) by omega];refine(hNP _).mono ?_;rintro e w' ⟨rfl,rfl⟩))
 go_loopw [9] (fun vi wr=>∃(t n:Nat) (r:UInt64) (dk:Array Nat),vi=.int .i64 ((a+L / 4*2 - 1+t:Nat):Int)∧t≤3∧dk.size=d.size∧
  wr=grow (putRow zc (Sort.ahead w n) blk off dk) #[Obj.cells #[.int .u64 (r.toNat:Int)] 346]∧
  bpRest a L M (a+L / 4*2 - 1) (3 - t) t (r,dk)=bpRest a L M (a+L / 4*2 - 1) 3 0 (UInt64.ofNat L,d)) (fun vi _=>a+L / 4*2+3 - (intOf vi).toNat)
 case atStart=>exact⟨0,0,UInt64.ofNat L,d,by congr 1;omega,by omega,rfl,HST.out,rfl⟩
 case round=>
  obtain⟨t,n,r,dk,rfl,ht,hsk,hw,hR⟩:=hrel;obtain⟨R,hRr⟩:∃R:Nat,R=r.toNat:=⟨_,rfl⟩;have lR:R<18446744073709551616:=by rw[hRr];exact r.toNat_lt
  obtain⟨R',hR'⟩:∃R':Nat,R'=xorNextN R:=⟨_,rfl⟩;have lR':R'<18446744073709551616:=by rw[hR'];exact xorNextN_lt R lR
  obtain⟨O,hO⟩:∃O:Nat,O=R' &&& (M - 1):=⟨_,rfl⟩;have lO:O≤M - 1:=by rw[hO];exact Nat.and_le_right
  have eAnd:bits .and .u64 (R':Int) ((M:Int) - 1)=(O:Int):=by
   rw[show ((M:Int) - 1)=((M - 1:Nat):Int) by omega,bits_and_u64_nat _ _ lR' (by omega),hO]
  obtain⟨G,hG⟩:∃G:Nat→Nat,∀x,G x=dk[x]! :=⟨fun x=>dk[x]!,fun _=>rfl⟩;have hz:(putRow zc (Sort.ahead w n) blk off dk).heap.size=w.heap.size:=by simp
  have hcw:∀x,x<d.size→wr.cell? ⟨blk,off+x,none⟩=some (.int .u64 ((G x:Nat):Int)):=fun x hx=>by
   rw[hw,cell?_grow _ _ _ (by rw[hz];exact hblk),hG];exact cell?_putRow _ _ _ _ d dk (holds_ahead _ _ _ _ _ _ HH.out) hsk x (by omega)
  have hfw:∀x,x<d.size→wr.frozen? ⟨blk,off+x,none⟩=false:=fun x hx=>by
   rw[hw,frozen?_grow _ _ _ (by rw[hz];exact hblk),frozen?_putRow];exact((holds_ahead _ _ n _ _ _ HH.out) x hx).2
  have hcB:wr.cell? ⟨w.heap.size,0,none⟩=some (.int .u64 (R:Int)):=by rw[hw,hRr,←hz];exact grow_one_cell _ _ _
  have hfB:wr.frozen? ⟨w.heap.size,0,none⟩=false:=by rw[hw,←hz];exact grow_one_frozen _ _ _
  have hNext:Calls Tryz.prog 255 #[.pointer (some ⟨w.heap.size,0,none⟩)] wr fun e w'=>e=.returned (.int .u64 (R':Int))∧w'=(wr.setCell ⟨w.heap.size,0,none⟩ (.int .u64 (R':Int))).drewN 3:=by
   rw[hR'];exact zt5 _ _ R lR wr hcB hfB
  have HW:Hid (wr=grow (putRow zc (Sort.ahead w n) blk off dk) #[Obj.cells #[.int .u64 (r.toNat:Int)] 346]):=hw;have HG:Hid (∀x,G x=dk[x]!):=hG;have HR:Hid (bpRest a L M (a+L / 4*2 - 1) (3 - t) t (r,dk)=bpRest a L M (a+L / 4*2 - 1) 3 0 (UInt64.ofNat L,d)):=hR
  have HN:Hid (R'=(xorNext r).toNat∧O=(xorNext r).toNat &&& (M - 1)):=by
   have e:R'=(xorNext r).toNat:=by rw[hR',hRr,xorNext_toNat]
   exact⟨e,by rw[hO,e]⟩
  clear hw hG hR hRr hR' hO;go_wp2_with (first | (go_at_call 255;refine hNext.mono ?_;rintro e w' ⟨rfl,rfl⟩))
  ·
   have hLO:L≤O:=by omega
   by_cases hEq:a+L / 4*2 - 1+t=a+(O - L)
   all_goals
    go_region
    all_goals go_wp2
    go_roundw
    case rel=>
     refine⟨t+1,n+4,xorNext r,swp dk (a+L / 4*2 - 1+t) (a+(O - L)),by first | rfl | (congr 1 <;> omega),by omega,by rw[size_swp];exact hsk,?_,?_⟩
     · (try rw[hEq])
       rw[HW.out,HN.out.1];simp only[HG.out];exact step_world zc w n 4 blk off dk _ _ hblk (by omega) (by omega) _ _ _
     · rw[←HR.out,bp_step a L M _ t r dk (O - L) (by omega) (by rw[←HN.out.2,if_pos (by omega)])]
    case measure=>simp[intOf];omega
  · have hLO:¬L≤O:=by omega
    by_cases hEq:a+L / 4*2 - 1+t=a+O
    all_goals
     go_region
     all_goals go_wp2
     go_roundw
     case rel=>
      refine⟨t+1,n+4,xorNext r,swp dk (a+L / 4*2 - 1+t) (a+O),by first | rfl | (congr 1 <;> omega),by omega,by rw[size_swp];exact hsk,?_,?_⟩
      · (try rw[hEq])
        rw[HW.out,HN.out.1];simp only[HG.out];exact step_world zc w n 4 blk off dk _ _ hblk (by omega) (by omega) _ _ _
      · rw[←HR.out,bp_step a L M _ t r dk O (by omega) (by rw[←HN.out.2,if_neg (by omega)])]
     case measure=>simp[intOf];omega
  ·
   obtain rfl:t=3:=by omega
   go_end0
   exact⟨rfl,n,_,by rw[←HR.out,HW.out];rfl⟩
theorem zus (blk off cap a b:Nat) (d:Array Nat) (w:World) (hH:Holds zc w blk off d) (hblk:blk<w.heap.size) (hab:a≤b) (hb:b≤d.size) (hsz:d.size<4611686018427387904):
 Calls Tryz.prog 279 #[.slice (some ⟨blk,off,none⟩) d.size cap,.int .i64 a,.int .i64 b] w fun e w'=>
  e=.returned (.tuple #[])∧∃n os,w'=grow (putRow zc (Sort.ahead w n) blk off (breakPatterns d a b)) os:=by
 obtain⟨L,rfl⟩:∃L,b=a+L:=⟨b - a,by omega⟩;by_cases h8:8≤L
 · exact zur blk off cap a L d w hH hblk hb hsz h8
 · have hv:breakPatterns d a (a+L)=d:=by unfold breakPatterns;simp only[Nat.add_sub_cancel_left];rw[if_neg h8]
   rw[hv]
   have HST:Hid (w=grow (putRow zc (Sort.ahead w 0) blk off d) #[]):=by
    show _=_;rw[grow_empty,show Sort.ahead w 0=w from rfl,putRow_self _ _ _ _ _ hH]
   clear hH;go_enter Tryz.func279,Tryz.ntmps279;go_wp2;go_end0
   exact⟨rfl,0,#[],HST.out⟩
end
section
open Go.RowKit
set_option maxRecDepth 20000 in
theorem zut (g o c a b:Nat) (d:Array Nat) (w:World) (hH:Sort.Holds zc w g o d) (hab:a≤b) (hb:b≤d.size) (hsz:d.size<4611686018427387904):
 Calls Tryz.prog 278 #[.slice (some ⟨g,o,none⟩) d.size c,.int .i64 a,.int .i64 b] w fun e w'=>
  e=.returned (.tuple #[])∧∃n,w'=Sort.putRow zc (Sort.ahead w n) g o (Sort.heapSort ltU d a b):=by
 have HH:=hid hH;have H0:=hid (Sort.putRow_self zc w g o d hH).symm;obtain⟨L,hL⟩:∃L,L=b - a:=⟨_,rfl⟩;have hsub:IntKind.i64.wrap ((b:Int) - (a:Int))=(L:Int):=by rw[IntKind.wrap_i64];omega
 have Hst:=hid (show ((L:Int) - 1).tdiv 2=(((L - 1) / 2+1:Nat):Int) - 1 from by
  have:=half_start hab;rw[←hL] at this;rw[←this];congr 1;omega)
 have Hsp:=hid (show Sort.heapSort ltU d a b=Sort.heapPop ltU a L (Sort.heapBuild ltU L a ((L - 1) / 2+1) d) from by rw[hL];rfl);have HL:=hid hL;have hbL:b=a+L:=by omega
 have hLz:a+L≤d.size:=by omega
 have HS:=hid (fun (k m:Nat) (dk:Array Nat) (wr:World) (hw:∃n,wr=Sort.putRow zc (Sort.ahead w n) g o dk) (hs:dk.size=d.size) (hkm:k≤m) (hm:m≤L)=>
  show Calls Tryz.prog 292 #[.slice (some ⟨g,o,none⟩) d.size c,.int .i64 k,.int .i64 m,.int .i64 a] wr fun e w'=>e=.returned (.tuple #[])∧∃n,w'=Sort.putRow zc (Sort.ahead w n) g o (Sort.siftDown ltU m a k dk) from by
  obtain⟨n,hw⟩:=hw;have h:=zue g o c k m a dk wr (zfg HH.out hs hw) hkm (by omega) (by omega);rw[hs] at h;refine h.mono ?_;rintro e w1 ⟨he,n2,h2⟩;refine⟨he,n+n2,?_⟩;rw[h2,hw];exact Sort.putRow_ahead_putRow zc w n n2 g o dk _ (Sort.size_siftDown ltU m a _ k dk (Nat.le_refl _)))
 clear hH hL hbL;go_enter Tryz.func278,Tryz.ntmps278;go_wp2
 go_loopw [9] (fun v wr=>∃(k:Nat) (z:Int) (dk:Array Nat),v=.int .i64 z∧z=(k:Int) - 1∧k≤(L - 1) / 2+1∧dk.size=d.size∧Hid (∃n,wr=Sort.putRow zc (Sort.ahead w n) g o dk)∧
  Hid (Sort.heapBuild ltU L a k dk=Sort.heapBuild ltU L a ((L - 1) / 2+1) d)) (fun v _=>(intOf v+1).toNat)
 case atStart=>exact⟨(L - 1) / 2+1,_,d,rfl,Hst.out,Nat.le_refl _,rfl,⟨0,H0.out⟩,rfl⟩
 case round=>
  obtain⟨k,z,dk,rfl,hz,hk,hs,HW,HB⟩:=hrel;by_cases hk0:k=0
  · have hz1:z= -1:=by omega
    have Hbe:=hid (show dk=Sort.heapBuild ltU L a ((L - 1) / 2+1) d from by rw[←HB.out,hk0];rfl);subst hz1;clear hz hk0 hk;go_wp2
    go_loopw [10] (fun v wr2=>∃(k:Nat) (z:Int) (dj:Array Nat),v=.int .i64 z∧z=(k:Int) - 1∧k≤L∧dj.size=d.size∧Hid (∃n,wr2=Sort.putRow zc (Sort.ahead w n) g o dj)∧
     Hid (Sort.heapPop ltU a k dj=Sort.heapPop ltU a L dk)) (fun v _=>(intOf v+1).toNat)
    case atStart=>exact⟨L,_,dk,rfl,by omega,Nat.le_refl _,hs,HW,rfl⟩
    case round=>
     obtain⟨k2,z,dj,rfl,hz,hk,hsj,HW2,HP⟩:=hrel;by_cases hk0:k2=0
     · have hz1:z= -1:=by omega
       have Hpe:=hid (show dj=Sort.heapPop ltU a L dk from by rw[←HP.out,hk0];rfl);subst hz1;clear hz hk0 hk;go_wp2;go_end0
       obtain⟨n,hn⟩:=HW2.out;exact⟨rfl,n,by rw[hn,Hsp.out,←Hbe.out,←Hpe.out]⟩
     · obtain⟨q,rfl⟩:∃q,k2=q+1:=⟨k2 - 1,by omega⟩;obtain rfl:z=(q:Int):=by omega
       obtain⟨n,hn⟩:=HW2.out;obtain⟨G,⟨hcw,hfw,hG⟩⟩:=zgm (zfg HH.out hsj hn) hsj;have HG:=hid hG;have Hn:=hid hn
       have HSW:=hid (show ∃n2,(((wr.drewN 1).setCell ⟨g,o+a,none⟩ (zc (G (a+q)))).setCell ⟨g,o+(a+q),none⟩ (zc (G a)))=Sort.putRow zc (Sort.ahead w n2) g o (Sort.swp dj a (a+q)) from
        ⟨n+1,by rw[HG.out,HG.out];exact zgn Hn.out 1 a (a+q) (by omega) (by omega)⟩)
       have hC:=hid (HS.out 0 q (Sort.swp dj a (a+q)) _ HSW.out (by rw[Sort.size_swp];exact hsj) (Nat.zero_le _) (by omega));have haq:a+q<d.size:=by omega
       have hwr:IntKind.i64.wrap ((a:Int)+(q:Int))=((a+q:Nat):Int):=by rw[IntKind.wrap_i64];omega
       have ha0:a<d.size:=by omega
       clear hG hn hz hk0;rcases Nat.eq_zero_or_pos q with hq0 | hq0
       · subst hq0;simp only[Nat.add_zero,Int.natCast_zero] at hC hwr;go_wp2_with fail;go_region
         all_goals go_wp2_with fail
         go_wp2_with (go_at_call 292;refine hC.out.mono ?_;rintro e w1 ⟨rfl,hw1⟩;have Hw1:=hid hw1;clear hw1);go_roundw
         case rel=>
          exact⟨0,(((0:Nat):Int):Int) - 1,_,by go_num,rfl,by omega,(Sort.size_siftDown ltU 0 a _ 0 _ (Nat.le_refl _)).trans ((Sort.size_swp _ _ _).trans hsj),Hw1.out,HP.out⟩
         case measure=>simp[intOf] <;> omega
       · go_wp2_with fail;go_region
         all_goals go_wp2_with fail
         go_wp2_with (go_at_call 292;refine hC.out.mono ?_;rintro e w1 ⟨rfl,hw1⟩;have Hw1:=hid hw1;clear hw1);go_roundw
         case rel=>
          exact⟨q,(q:Int) - 1,_,by go_num,rfl,by omega,(Sort.size_siftDown ltU q a _ 0 _ (Nat.le_refl _)).trans ((Sort.size_swp _ _ _).trans hsj),Hw1.out,HP.out⟩
         case measure=>simp[intOf] <;> omega
  · obtain⟨q,rfl⟩:∃q,k=q+1:=⟨k - 1,by omega⟩;obtain rfl:z=(q:Int):=by omega
    have hC:=hid (HS.out q L dk wr HW.out hs (by omega) (Nat.le_refl _));clear hz hk0;go_wp2_with (go_at_call 292;refine hC.out.mono ?_;rintro e w1 ⟨rfl,hw1⟩;have Hw1:=hid hw1;clear hw1);go_roundw
    case rel=>
     exact⟨q,(q:Int) - 1,_,by go_num,rfl,by omega,(Sort.size_siftDown ltU L a _ q dk (Nat.le_refl _)).trans hs,Hw1.out,HB.out⟩
    case measure=>simp[intOf] <;> omega
end
section
open Go.RowKit Go.Sort
theorem zuu (w:World) (N S:Nat):∃os,putRow (Value.int .i64) (Sort.ahead (w.alloc (.cells #[.int .i64 0] 3)) N) w.heap.size 0 (one S)=grow (Sort.ahead w N) os:=by
 rw[alloc_eq_grow,ahead_grow];obtain⟨os,_,h⟩:=putRow_grow_new (Value.int .i64) (Sort.ahead w N) #[.cells #[.int .i64 0] 3] w.heap.size 0 (one S) (Nat.le_refl _);exact⟨os,h⟩
theorem zuv (blk off cap:Nat) (d:Array Nat) (w:World) (hH:Holds zc w blk off d) (hblk:blk<w.heap.size) (hsz:d.size<4611686018427387904):
 ∃Wc:Nat→Nat→World,
  w.alloc (.cells #[.int .i64 0] 3)=Wc 0 0∧
  (∀N S:Nat,(Wc N S).cell? ⟨w.heap.size,0,none⟩=some (.int .i64 (S:Int)))∧
  (∀N S:Nat,∃os,Wc N S=grow (Sort.ahead w N) os)∧
  (∀x s N:Nat,1≤x→x+1<d.size→s+3<4611686018427387904→Calls Tryz.prog 293 #[.slice (some ⟨blk,off,none⟩) d.size cap,.int .i64 (x:Int),.pointer (some ⟨w.heap.size,0,none⟩)] (Wc N s) fun e w'=>
    e=.returned (.int .i64 ((medianAdjacent ltU d x s).1:Int))∧∃N',w'=Wc N' (medianAdjacent ltU d x s).2)∧
  (∀x y z s N:Nat,x<d.size→y<d.size→z<d.size→s+3<4611686018427387904→Calls Tryz.prog 294 #[.slice (some ⟨blk,off,none⟩) d.size cap,.int .i64 (x:Int),.int .i64 (y:Int),.int .i64 (z:Int),.pointer (some ⟨w.heap.size,0,none⟩)] (Wc N s) fun e w'=>
    e=.returned (.int .i64 ((median ltU d x y z s).1:Int))∧∃N',w'=Wc N' (median ltU d x y z s).2):=by
 have hne:w.heap.size≠blk:=by omega
 have hH0:Holds zc (w.alloc (.cells #[.int .i64 0] 3)) blk off d:=by rw[alloc_eq_grow];exact holds_grow _ _ _ _ _ _ hblk hH
 have hS0:Holds (Value.int .i64) (w.alloc (.cells #[.int .i64 0] 3)) w.heap.size 0 (one 0):=fun j hj=>by
  obtain rfl:j=0:=by simpa using hj
  simp
 refine⟨fun N S=>putRow (Value.int .i64) (Sort.ahead (w.alloc (.cells #[.int .i64 0] 3)) N) w.heap.size 0 (one S),(putRow_self _ _ _ _ _ hS0).symm,fun N S=>(one_cell (holds_one (n:=N) (t:=S) hS0)).1,fun N S=>zuu w N S,?_,?_⟩
 · intro x s N h1 h2 hs;refine(zuf d _ rfl blk off cap x w.heap.size 0 s _ (zfi hH0 hne) h1 h2 (by omega) hne (holds_one hS0) (by omega)).mono ?_;rintro e w' ⟨he,n,hw⟩;exact⟨he,N+n,by rw[hw,one_one]⟩
 · intro x y z s N h1 h2 h3 hs;refine(zmj d _ rfl blk off cap x y z w.heap.size 0 s _ (zfi hH0 hne) h1 h2 h3 hne (holds_one hS0) (by omega)).mono ?_;rintro e w' ⟨he,n,hw⟩;exact⟨he,N+n,by rw[hw,one_one]⟩
set_option maxRecDepth 100000 in
theorem zuw (blk off cap a b:Nat) (d:Array Nat) (w:World) (hH:Holds zc w blk off d) (hblk:blk<w.heap.size) (hab:a<b) (hb:b≤d.size) (hsz:d.size<4611686018427387904):
 Calls Tryz.prog 280 #[.slice (some ⟨blk,off,none⟩) d.size cap,.int .i64 a,.int .i64 b] w fun e w'=>
  e=.returned (.tuple #[.int .i64 (choosePivot ltU d a b).1,.int .i64 (hintCode (choosePivot ltU d a b).2)])∧∃n os,w'=grow (Sort.ahead w n) os:=by
 obtain⟨Wc,hW0,cS,hG,MA,MD⟩:=zuv blk off cap d w hH hblk hsz;clear hH;rw[choosePivot_eq];obtain⟨I,hI⟩:∃I:Nat,I=a+(b - a) / 4*1:=⟨_,rfl⟩;obtain⟨J,hJ⟩:∃J:Nat,J=a+(b - a) / 4*2:=⟨_,rfl⟩;obtain⟨K,hK⟩:∃K:Nat,K=a+(b - a) / 4*3:=⟨_,rfl⟩;have eI:((a:Int)+((b:Int) - (a:Int)) / 4)=(I:Int):=by omega
 have eJ:((a:Int)+((b:Int) - (a:Int)) / 4*2)=(J:Int):=by omega
 have eK:((a:Int)+((b:Int) - (a:Int)) / 4*3)=(K:Int):=by omega
 by_cases h8:b - a≥8
 · by_cases h50:b - a≥50
   ·
    obtain⟨i1,s1,h1⟩:∃i1 s1,medianAdjacent ltU d I 0=(i1,s1):=⟨_,_,rfl⟩;obtain⟨j1,s2,h2⟩:∃j1 s2,medianAdjacent ltU d J s1=(j1,s2):=⟨_,_,rfl⟩;obtain⟨k1,s3,h3⟩:∃k1 s3,medianAdjacent ltU d K s2=(k1,s3):=⟨_,_,rfl⟩;obtain⟨p,s,h4⟩:∃p s,median ltU d i1 j1 k1 s3=(p,s):=⟨_,_,rfl⟩;have hraw:rawPivot ltU d a b=(p,s):=by simp only[rawPivot,if_pos h8,if_pos h50,←hI,←hJ,←hK,h1,h2,h3,h4]
    have m1:=medianAdjacent_mem ltU d I 0;rw[h1] at m1;have m2:=medianAdjacent_mem ltU d J s1;rw[h2] at m2;have m3:=medianAdjacent_mem ltU d K s2;rw[h3] at m3;have n1:=medianAdjacent_count ltU d I 0;rw[h1] at n1;have n2:=medianAdjacent_count ltU d J s1;rw[h2] at n2;have n3:=medianAdjacent_count ltU d K s2;rw[h3] at n3;simp only[] at m1 m2 m3 n1 n2 n3
    have c1:Calls Tryz.prog 293 #[.slice (some ⟨blk,off,none⟩) d.size cap,.int .i64 (I:Int),.pointer (some ⟨w.heap.size,0,none⟩)] (Wc 0 0) fun e w'=>e=.returned (.int .i64 (i1:Int))∧∃N',w'=Wc N' s1:=by
     have h:=MA I 0 0 (by omega) (by omega) (by omega);rw[h1] at h;exact h
    have c2:∀N,Calls Tryz.prog 293 #[.slice (some ⟨blk,off,none⟩) d.size cap,.int .i64 (J:Int),.pointer (some ⟨w.heap.size,0,none⟩)] (Wc N s1) fun e w'=>e=.returned (.int .i64 (j1:Int))∧∃N',w'=Wc N' s2:=fun N=>by
     have h:=MA J s1 N (by omega) (by omega) (by omega);rw[h2] at h;exact h
    have c3:∀N,Calls Tryz.prog 293 #[.slice (some ⟨blk,off,none⟩) d.size cap,.int .i64 (K:Int),.pointer (some ⟨w.heap.size,0,none⟩)] (Wc N s2) fun e w'=>e=.returned (.int .i64 (k1:Int))∧∃N',w'=Wc N' s3:=fun N=>by
     have h:=MA K s2 N (by omega) (by omega) (by omega);rw[h3] at h;exact h
    have c4:∀N,Calls Tryz.prog 294 #[.slice (some ⟨blk,off,none⟩) d.size cap,.int .i64 (i1:Int),.int .i64 (j1:Int),.int .i64 (k1:Int),.pointer (some ⟨w.heap.size,0,none⟩)] (Wc N s3) fun e w'=>e=.returned (.int .i64 (p:Int))∧∃N',w'=Wc N' s:=fun N=>by
     have h:=MD i1 j1 k1 s3 N (by omega) (by omega) (by omega) (by omega);rw[h4] at h;exact h
    rw[hraw];obtain⟨Hc,hHc⟩:∃Hc:Int,Hc=hintCode (hintOf s):=⟨_,rfl⟩;have hh0:s=0→Hc=1:=fun h=>by rw[hHc,h];rfl
    have hh12:s=12→Hc=2:=fun h=>by rw[hHc,h];rfl
    have hhx:s≠0→s≠12→Hc=0:=fun h1 h2=>by rw[hHc];unfold hintOf;rw[if_neg h1,if_neg h2];rfl
    show Calls Tryz.prog 280 _ w fun e w'=>e=.returned (.tuple #[.int .i64 (p:Int),.int .i64 (hintCode (hintOf s))])∧∃n os,w'=grow (Sort.ahead w n) os
    rw[←hHc];clear hHc hraw;clear h1 h2 h3 h4 MA MD hI hJ hK m1 m2 m3;go_enter Tryz.func280,Tryz.ntmps280
    go_wp2_with (first
     | (go_at_call_has 293 (Value.int .i64 (I:Int));refine c1.mono ?_;rintro e w' ⟨rfl,N1,rfl⟩)
     | (go_at_call_has 293 (Value.int .i64 (J:Int));refine(c2 _).mono ?_;rintro e w' ⟨rfl,N2,rfl⟩)
     | (go_at_call_has 293 (Value.int .i64 (K:Int));refine(c3 _).mono ?_;rintro e w' ⟨rfl,N3,rfl⟩)
     | (go_at_call 294;refine(c4 _).mono ?_;rintro e w' ⟨rfl,N4,rfl⟩))
    all_goals
     go_ret2;refine⟨?_,_,hG _ _⟩
     first
      | (have e0:(s:Int)=0:=of_beq_int (by assumption)
         rw[hh0 (by omega)];rfl)
      | (have e1:(s:Int)=12:=of_beq_int (by assumption)
         rw[hh12 (by omega)];rfl)
      | (have e0:(s:Int)≠0:=of_bne_int (by assumption)
         have e1:(s:Int)≠12:=of_bne_int (by assumption)
         rw[hhx (by omega) (by omega)];rfl)
      | (rw[hh0 (by omega)];rfl)
   ·
    obtain⟨p,s,h4⟩:∃p s,median ltU d I J K 0=(p,s):=⟨_,_,rfl⟩;have hraw:rawPivot ltU d a b=(p,s):=by simp only[rawPivot,if_pos h8,if_neg h50,←hI,←hJ,←hK,h4]
    have c4:Calls Tryz.prog 294 #[.slice (some ⟨blk,off,none⟩) d.size cap,.int .i64 (I:Int),.int .i64 (J:Int),.int .i64 (K:Int),.pointer (some ⟨w.heap.size,0,none⟩)] (Wc 0 0) fun e w'=>e=.returned (.int .i64 (p:Int))∧∃N',w'=Wc N' s:=by
     have h:=MD I J K 0 0 (by omega) (by omega) (by omega) (by omega);rw[h4] at h;exact h
    rw[hraw];obtain⟨Hc,hHc⟩:∃Hc:Int,Hc=hintCode (hintOf s):=⟨_,rfl⟩;have hh0:s=0→Hc=1:=fun h=>by rw[hHc,h];rfl
    have hh12:s=12→Hc=2:=fun h=>by rw[hHc,h];rfl
    have hhx:s≠0→s≠12→Hc=0:=fun h1 h2=>by rw[hHc];unfold hintOf;rw[if_neg h1,if_neg h2];rfl
    show Calls Tryz.prog 280 _ w fun e w'=>e=.returned (.tuple #[.int .i64 (p:Int),.int .i64 (hintCode (hintOf s))])∧∃n os,w'=grow (Sort.ahead w n) os
    rw[←hHc];clear hHc hraw;clear h4 MA MD hI hJ hK;go_enter Tryz.func280,Tryz.ntmps280;go_wp2_with (first | (go_at_call 294;refine c4.mono ?_;rintro e w' ⟨rfl,N4,rfl⟩))
    all_goals
     go_ret2;refine⟨?_,_,hG _ _⟩
     first
      | (have e0:(s:Int)=0:=of_beq_int (by assumption)
         rw[hh0 (by omega)];rfl)
      | (have e1:(s:Int)=12:=of_beq_int (by assumption)
         rw[hh12 (by omega)];rfl)
      | (have e0:(s:Int)≠0:=of_bne_int (by assumption)
         have e1:(s:Int)≠12:=of_bne_int (by assumption)
         rw[hhx (by omega) (by omega)];rfl)
      | (rw[hh0 (by omega)];rfl)
 ·
  obtain⟨p,hp⟩:∃p:Nat,p=J:=⟨_,rfl⟩;obtain⟨s,hs⟩:∃s:Nat,s=0:=⟨_,rfl⟩;have hraw:rawPivot ltU d a b=(p,s):=by simp only[rawPivot,if_neg h8,←hJ,hp,hs]
  rw[hraw];obtain⟨Hc,hHc⟩:∃Hc:Int,Hc=hintCode (hintOf s):=⟨_,rfl⟩;have hh0:s=0→Hc=1:=fun h=>by rw[hHc,h];rfl
  have hh12:s=12→Hc=2:=fun h=>by rw[hHc,h];rfl
  have hhx:s≠0→s≠12→Hc=0:=fun h1 h2=>by rw[hHc];unfold hintOf;rw[if_neg h1,if_neg h2];rfl
  show Calls Tryz.prog 280 _ w fun e w'=>e=.returned (.tuple #[.int .i64 (p:Int),.int .i64 (hintCode (hintOf s))])∧∃n os,w'=grow (Sort.ahead w n) os
  rw[←hHc];clear hHc hraw;subst hp;clear MA MD hI hJ hK;have hW0':w.alloc (.cells #[.int .i64 0] 3)=Wc 0 s:=by rw[hs];exact hW0
  clear hW0;go_enter Tryz.func280,Tryz.ntmps280;go_wp2
  all_goals
   go_ret2;refine⟨?_,_,hG _ _⟩
   first
    | (have e0:(s:Int)=0:=of_beq_int (by assumption)
       rw[hh0 (by omega)];rfl)
    | (have e1:(s:Int)=12:=of_beq_int (by assumption)
       rw[hh12 (by omega)];rfl)
    | (have e0:(s:Int)≠0:=of_bne_int (by assumption)
       have e1:(s:Int)≠12:=of_bne_int (by assumption)
       rw[hhx (by omega) (by omega)];rfl)
    | (rw[hh0 (by omega)];rfl)
