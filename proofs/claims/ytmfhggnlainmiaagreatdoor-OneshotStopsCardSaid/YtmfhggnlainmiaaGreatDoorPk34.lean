/- Part 34. -/
import Derived.Test.YtmfhggnlainmiaaGreatDoorPk19
set_option linter.unusedVariables false
set_option maxHeartbeats 16000000
namespace Go.Proofs.YtmfhggnlainmiaaGreatDoor
open Lib (hid)
section
open Go.RowKit
theorem yde (a b:Nat):(a ^^^ b) / 2=a / 2 ^^^ b / 2:=by
 have h:=Nat.shiftRight_xor_distrib (a:=a) (b:=b) (i:=1);simpa [Nat.shiftRight_eq_div_pow] using h
theorem ydf (a b:Nat):(a ^^^ b) % 2=(a % 2 ^^^ b % 2):=by
 have h:=Nat.xor_mod_two_pow (a:=a) (b:=b) (n:=1);simpa using h
def zf2 (x bit:Nat):Nat:=if x % 2≠bit then x / 2 ^^^ 3988292384 else x / 2
theorem ydg {x b:Nat} (h:x<4294967296):zf2 x b<4294967296:=by
 unfold zf2;split
 · exact zl3 (by omega) (by omega)
 · omega
def zg1:Nat→Nat→Nat→Nat
 | 0,x,_=>x
 | k+1,x,c=>zf2 (zg1 k x c) (c / 2 ^ k % 2)
theorem z04 (k:Nat) {x c:Nat} (h:x<4294967296):zg1 k x c<4294967296:=by
 cases k with
 | zero=>exact h
 | succ k=>exact ydg (z04 k h)
theorem ydh (x c:Nat):zl1 (x ^^^ c)=zf2 x (c % 2) ^^^ c / 2:=by
 unfold zl1 zf2;rw[yde,ydf];generalize x / 2=p;generalize c / 2=q;rcases Nat.mod_two_eq_zero_or_one x with h | h <;> rcases Nat.mod_two_eq_zero_or_one c with k | k <;> simp[h,k]
 · rw[Nat.xor_assoc,Nat.xor_comm q,←Nat.xor_assoc]
 · rw[Nat.xor_assoc,Nat.xor_comm q,←Nat.xor_assoc]
theorem ydi (k x c:Nat):zhr k (x ^^^ c)=zg1 k x c ^^^ c / 2 ^ k:=by
 induction k with
 | zero=>simp[zhr,zg1]
 | succ k ih=>
  simp only[zhr,zg1];rw[ih,ydh,Nat.div_div_eq_div_mul,Nat.pow_succ]
theorem ydj (x c:Nat) (hc:c<256):zg1 8 x c=zl2 x c:=by
 unfold zl2;rw[ydi,show c / 2 ^ 8=0 from by omega,Nat.xor_zero]
theorem ydk (x:Nat) (hx:x<4294967296):4294967295 - x=4294967295 ^^^ x:=by
 apply Nat.eq_of_testBit_eq;intro i;rw[show 4294967295 - x=2 ^ 32 - (x+1) from by omega,Nat.testBit_two_pow_sub_succ (by omega),Nat.testBit_xor,show 4294967295=2 ^ 32 - 1 by decide,Nat.testBit_two_pow_sub_one];by_cases hi:i<32
 · simp[hi]
 · have:x.testBit i=false:=Nat.testBit_lt_two_pow (Nat.lt_of_lt_of_le hx (by
    have:2 ^ 32≤2 ^ i:=Nat.pow_le_pow_right (by omega) (by omega);simpa using this))
   simp[hi,this]
theorem ydl (x b:Nat) (w:World) (hx:x<4294967296) (hb:b<2):
 Calls Tryz.prog 151 #[.int .u32 x,.int .u32 b] w fun e w'=>e=.returned (.int .u32 ((zf2 x b:Nat):Int))∧w=w':=by
 by_cases h:x % 2=b
 · have hb':(((x:Int) % 2) != (b:Int))=false:=by rw[bne_eq_false_iff_eq];omega
   have hf:=hid (show zf2 x b=x / 2 by simp[zf2,h]);clear h;go_enter Tryz.func151,Tryz.ntmps151;go_wp2;go_ret;refine⟨?_,rfl⟩;rw[hf.out];simp
 · have hb':(((x:Int) % 2) != (b:Int))=true:=by rw[bne_iff_ne];omega
   have hf:=hid (show zf2 x b=x / 2 ^^^ 3988292384 by simp[zf2,h]);have hg:=hid (u32_xor_nat (x / 2) 3988292384 (by omega) (by omega));clear h;go_enter Tryz.func151,Tryz.ntmps151;go_wp2;go_ret;refine⟨?_,rfl⟩;rw[hf.out,←hg.out];simp
theorem ydm (c j:Nat):((c / 2 ^ j:Nat):Int) / 2=((c / 2 ^ (j+1):Nat):Int):=by
 rw[Nat.pow_succ,←Nat.div_div_eq_div_mul];simp
theorem z05 (a:Option Addr) (n cap:Nat) (l:List Nat) (w:World) (hB:Byts w a n cap l):
 Calls Tryz.prog 94 #[.slice a n cap] w fun e w'=>e=.returned (.int .u32 ((sum l:Nat):Int))∧w=w':=by
 obtain⟨hn,hlt,hnc,hcm,hnil,hc⟩:=hB;clear hnil;have hm:n≤9223372036854775807:=by omega
 have Hn:=hid hn;clear hn;have Hlt:=hid hlt;clear hlt;have Hc:=hid hc;clear hc;go_enter Tryz.func94,Tryz.ntmps94;go_wp2;go_loop [3,4,5,6] (fun x i _ _=>∃k:Nat,k≤n∧i=.int .i64 k∧x=.int .u32 ((reg 4294967295 (l.take k):Nat):Int)) (fun _ i _ _=>n - (intOf i).toNat)
 case atStart=>exact⟨0,by omega,rfl,rfl⟩
 case round=>
  obtain⟨k,hk,rfl,rfl⟩:=hrel;by_cases hkn:k<n
  · obtain⟨cb,co,rfl,hcell⟩:=Hc.out (by omega);have hc:=hcell k hkn;clear hcell;have hr:reg 4294967295 (l.take k)<4294967296:=zi2 (by omega) (fun c hc=>Hlt.out c (List.mem_of_mem_take hc));have hnc:nth l k<256:=zfo Hlt.out (by omega) k;have Hs:=hid (z0a 4294967295 l k (by rw[Hn.out];exact hkn));generalize hR:reg 4294967295 (l.take k)=R at*;generalize hC:nth l k=c at*;clear hR hC;go_wp2;go_loop [3,5,6] (fun x d j=>∃i:Nat,i≤8∧j=.int .i64 i∧d=.int .u32 ((c / 2 ^ i:Nat):Int)∧x=.int .u32 ((zg1 i R c:Nat):Int)) (fun _ _ j=>8 - (intOf j).toNat)
    case atStart=>exact⟨0,by omega,rfl,by simp,rfl⟩
    case round=>
     obtain⟨i,hi,rfl,rfl,rfl⟩:=hrel;have hX:=z04 i (c:=c) hr;have hD:c / 2 ^ i<256:=Nat.lt_of_le_of_lt (Nat.div_le_self _ _) hnc;by_cases hi8:i<8
     · have Hh:=hid (ydm c i);generalize hd:c / 2 ^ i=d at*;have Hd:=hid hd;clear hd;go_wp2_with (go_at_call 151;refine(ydl (zg1 i R c) (d % 2) _ hX (by omega)).mono ?_;rintro e w' ⟨rfl,rfl⟩);go_round
       case rel=>exact⟨i+1,by omega,by go_num,by rw[Hh.out],by rw[zg1,Hd.out]⟩
       case measure=>simp[intOf];omega
     · obtain rfl:i=8:=by omega
       go_wp2;go_round
       case rel=>exact⟨k+1,by omega,by go_num,by rw[Hs.out,ydj _ _ hnc]⟩
       case measure=>simp[intOf];omega
  · obtain rfl:k=n:=by omega
    have hr:reg 4294967295 (l.take k)<4294967296:=zi2 (by omega) (fun c hc=>Hlt.out c (List.mem_of_mem_take hc))
    have Hr:=hid (show 4294967295 - ((reg 4294967295 (l.take k):Nat):Int)=((sum l:Nat):Int) from by
     have h:=ydk _ hr;rw[List.take_of_length_le (by rw[Hn.out];omega)] at h hr ⊢;rw[sum,←h,Int.ofNat_sub (by omega)]
     rfl)
    go_wp2;go_ret;exact⟨zb6 Hr.out,rfl⟩
theorem z06 (x:Nat) (w:World) (hx:x<4294967296):
 Calls Tryz.prog 93 #[.int .u32 x] w fun e w'=>e=.returned (.slice (some ⟨w.heap.size,0,none⟩) 4 4)∧w'=w.alloc (.cells (u8s (jo x)).toArray 5):=by
 go_enter Tryz.func93,Tryz.ntmps93;go_wp2;go_ret;exact⟨rfl,by simp[u8s,jo]⟩
theorem z07 (w:World):Calls Tryz.prog 134 #[] w fun e w'=>e=.returned (.slice (some ⟨w.heap.size,0,none⟩) 5 5)∧w'=w.alloc (.cells (u8s qw).toArray 5):=by
 go_enter Tryz.func134,Tryz.ntmps134;go_wp2;go_ret;exact⟨rfl,rfl⟩
