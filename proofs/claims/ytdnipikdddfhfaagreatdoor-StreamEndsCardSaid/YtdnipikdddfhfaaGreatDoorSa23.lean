/- Part 23. -/
import Derived.Test.YtdnipikdddfhfaaGreatDoorSa06
set_option linter.unusedVariables false
set_option maxHeartbeats 16000000
namespace Go.Proofs.YtdnipikdddfhfaaGreatDoor
open Lib (hid)
section
open Go.RowKit
theorem zoi (w:World) (o v:Obj) (g:Nat) (h:w.heap[g]?=some v):(w.alloc o).heap[g]?=some v:=(Below.heap_alloc w o g (by
 rcases Nat.lt_or_ge g w.heap.size with h' | h'
 · exact h'
 · rw[Array.getElem?_eq_none h'] at h;cases h)).trans h
theorem zxc (w:World):Calls Tryz.prog 182 #[] w fun e w'=>e=.returned (.int .u64 18446744073709551615)∧w=w':=by
 go_enter Tryz.func182,Tryz.ntmps182;go_wp2;go_ret;exact⟨rfl,rfl⟩
theorem zeo (l:List Nat) (k:Nat) (h:k<l.length):l.drop k=nth l k :: l.drop (k+1):=by
 rw[List.drop_eq_getElem_cons h];simp[nth,h]
theorem zxd (a b:Nat):(a ^^^ b) / 2=a / 2 ^^^ b / 2:=by
 have h:=Nat.shiftRight_xor_distrib (a:=a) (b:=b) (i:=1);simpa [Nat.shiftRight_eq_div_pow] using h
theorem zxe (a b:Nat):(a ^^^ b) % 2=(a % 2 ^^^ b % 2):=by
 have h:=Nat.xor_mod_two_pow (a:=a) (b:=b) (n:=1);simpa using h
def zbf (x bit:Nat):Nat:=if x % 2≠bit then x / 2 ^^^ 3988292384 else x / 2
theorem zxf {x b:Nat} (h:x<4294967296):zbf x b<4294967296:=by
 unfold zbf;split
 · exact zdq (by omega) (by omega)
 · omega
def zbo:Nat→Nat→Nat→Nat
 | 0,x,_=>x
 | k+1,x,c=>zbf (zbo k x c) (c / 2 ^ k % 2)
theorem zoj (k:Nat) {x c:Nat} (h:x<4294967296):zbo k x c<4294967296:=by
 cases k with
 | zero=>exact h
 | succ k=>exact zxf (zoj k h)
theorem zxg (x c:Nat):zdo (x ^^^ c)=zbf x (c % 2) ^^^ c / 2:=by
 unfold zdo zbf;rw[zxd,zxe];generalize x / 2=p;generalize c / 2=q;rcases Nat.mod_two_eq_zero_or_one x with h | h <;> rcases Nat.mod_two_eq_zero_or_one c with k | k <;> simp[h,k]
 · rw[Nat.xor_assoc,Nat.xor_comm q,←Nat.xor_assoc]
 · rw[Nat.xor_assoc,Nat.xor_comm q,←Nat.xor_assoc]
theorem zxh (k x c:Nat):zbq k (x ^^^ c)=zbo k x c ^^^ c / 2 ^ k:=by
 induction k with
 | zero=>simp[zbq,zbo]
 | succ k ih=>
  simp only[zbq,zbo];rw[ih,zxg,Nat.div_div_eq_div_mul,Nat.pow_succ]
theorem zxi (x c:Nat) (hc:c<256):zbo 8 x c=zdp x c:=by
 unfold zdp;rw[zxh,show c / 2 ^ 8=0 from by omega,Nat.xor_zero]
theorem zxj (x:Nat) (hx:x<4294967296):4294967295 - x=4294967295 ^^^ x:=by
 apply Nat.eq_of_testBit_eq;intro i;rw[show 4294967295 - x=2 ^ 32 - (x+1) from by omega,Nat.testBit_two_pow_sub_succ (by omega),Nat.testBit_xor,show 4294967295=2 ^ 32 - 1 by decide,Nat.testBit_two_pow_sub_one];by_cases hi:i<32
 · simp[hi]
 · have:x.testBit i=false:=Nat.testBit_lt_two_pow (Nat.lt_of_lt_of_le hx (by
    have:2 ^ 32≤2 ^ i:=Nat.pow_le_pow_right (by omega) (by omega);simpa using this))
   simp[hi,this]
theorem zxk (x b:Nat) (w:World) (hx:x<4294967296) (hb:b<2):
 Calls Tryz.prog 120 #[.int .u32 x,.int .u32 b] w fun e w'=>e=.returned (.int .u32 ((zbf x b:Nat):Int))∧w=w':=by
 by_cases h:x % 2=b
 · have hb':(((x:Int) % 2) != (b:Int))=false:=by rw[bne_eq_false_iff_eq];omega
   have hf:=hid (show zbf x b=x / 2 by simp[zbf,h]);clear h;go_enter Tryz.func120,Tryz.ntmps120;go_wp2;go_ret;refine⟨?_,rfl⟩;rw[hf.out];simp
 · have hb':(((x:Int) % 2) != (b:Int))=true:=by rw[bne_iff_ne];omega
   have hf:=hid (show zbf x b=x / 2 ^^^ 3988292384 by simp[zbf,h]);have hg:=hid (u32_xor_nat (x / 2) 3988292384 (by omega) (by omega));clear h;go_enter Tryz.func120,Tryz.ntmps120;go_wp2;go_ret;refine⟨?_,rfl⟩;rw[hf.out,←hg.out];simp
theorem zxl (c j:Nat):((c / 2 ^ j:Nat):Int) / 2=((c / 2 ^ (j+1):Nat):Int):=by
 rw[Nat.pow_succ,←Nat.div_div_eq_div_mul];simp
theorem zxm (a:Option Addr) (n cap:Nat) (l:List Nat) (w:World) (hB:Byts w a n cap l):
 Calls Tryz.prog 75 #[.slice a n cap] w fun e w'=>e=.returned (.int .u32 ((sum l:Nat):Int))∧w=w':=by
 obtain⟨hn,hlt,hnc,hcm,hnil,hc⟩:=hB;clear hnil;have hm:n≤9223372036854775807:=by omega
 have Hn:=hid hn;clear hn;have Hlt:=hid hlt;clear hlt;have Hc:=hid hc;clear hc;go_enter Tryz.func75,Tryz.ntmps75;go_wp2;go_loop [3,4,5,6] (fun x i _ _=>∃k:Nat,k≤n∧i=.int .i64 k∧x=.int .u32 ((reg 4294967295 (l.take k):Nat):Int)) (fun _ i _ _=>n - (intOf i).toNat)
 case atStart=>exact⟨0,by omega,rfl,rfl⟩
 case round=>
  obtain⟨k,hk,rfl,rfl⟩:=hrel;by_cases hkn:k<n
  · obtain⟨cb,co,rfl,hcell⟩:=Hc.out (by omega);have hc:=hcell k hkn;clear hcell;have hr:reg 4294967295 (l.take k)<4294967296:=zcy (by omega) (fun c hc=>Hlt.out c (List.mem_of_mem_take hc));have hnc:nth l k<256:=zdn Hlt.out (by omega) k;have Hs:=hid (ziz 4294967295 l k (by rw[Hn.out];exact hkn));generalize hR:reg 4294967295 (l.take k)=R at*;generalize hC:nth l k=c at*;clear hR hC;go_wp2;go_loop [3,5,6] (fun x d j=>∃i:Nat,i≤8∧j=.int .i64 i∧d=.int .u32 ((c / 2 ^ i:Nat):Int)∧x=.int .u32 ((zbo i R c:Nat):Int)) (fun _ _ j=>8 - (intOf j).toNat)
    case atStart=>exact⟨0,by omega,rfl,by simp,rfl⟩
    case round=>
     obtain⟨i,hi,rfl,rfl,rfl⟩:=hrel;have hX:=zoj i (c:=c) hr;have hD:c / 2 ^ i<256:=Nat.lt_of_le_of_lt (Nat.div_le_self _ _) hnc;by_cases hi8:i<8
     · have Hh:=hid (zxl c i);generalize hd:c / 2 ^ i=d at*;have Hd:=hid hd;clear hd;go_wp2_with (go_at_call 120;refine(zxk (zbo i R c) (d % 2) _ hX (by omega)).mono ?_;rintro e w' ⟨rfl,rfl⟩);go_round
       case rel=>exact⟨i+1,by omega,by go_num,by rw[Hh.out],by rw[zbo,Hd.out]⟩
       case measure=>simp[intOf];omega
     · obtain rfl:i=8:=by omega
       go_wp2;go_round
       case rel=>exact⟨k+1,by omega,by go_num,by rw[Hs.out,zxi _ _ hnc]⟩
       case measure=>simp[intOf];omega
  · obtain rfl:k=n:=by omega
    have hr:reg 4294967295 (l.take k)<4294967296:=zcy (by omega) (fun c hc=>Hlt.out c (List.mem_of_mem_take hc))
    have Hr:=hid (show 4294967295 - ((reg 4294967295 (l.take k):Nat):Int)=((sum l:Nat):Int) from by
     have h:=zxj _ hr;rw[List.take_of_length_le (by rw[Hn.out];omega)] at h hr ⊢;rw[sum,←h,Int.ofNat_sub (by omega)]
     rfl)
    go_wp2;go_ret;exact⟨kw Hr.out,rfl⟩
theorem zxn:∀(k x:Nat) (w:World),x<2 ^ (7*k+7)→x<18446744073709551616→k≤9→
 Calls Tryz.prog 67 #[.int .u64 x] w fun e w'=>∃v',e=.returned v'∧w'.ownsRow w.heap.size 5 1 v' (vbF k x).length (u8s (vbF k x))∧Below w.heap.size w w':=by
 intro k
 induction k with
 | zero=>
  intro x w hx h64 _;have h128:x<128:=by simpa using hx
  have ho:=World.ownsRow_lit (e:=5) (size:=1) (base:=w.heap.size) w #[.int .u8 (x:Int)] 1 (Nat.le_refl _) (by unfold maxLen;omega) rfl;have Ho:=hid ho;clear ho hx h64;have hlt:decide ((x:Int)<128)=true:=by rw[decide_eq_true_iff];omega
  have hm:((x:Int) % 256)=(x:Int):=by omega
  have He:=hid (show vbF 0 x=[x] from by simp[vbF];omega);go_enter Tryz.func67,Tryz.ntmps67;go_wp2_with fail;go_ret
  exact⟨_,rfl,by rw[He.out];exact Ho.out,(Below.refl _ _).alloc (Nat.le_refl _) _⟩
 | succ k ih=>
  intro x w hx h64 hk;by_cases h128:x<128
  · have ho:=World.ownsRow_lit (e:=5) (size:=1) (base:=w.heap.size) w #[.int .u8 (x:Int)] 1 (Nat.le_refl _) (by unfold maxLen;omega) rfl;have Ho:=hid ho;clear ho hx h64;have hlt:decide ((x:Int)<128)=true:=by rw[decide_eq_true_iff];omega
    have hm:((x:Int) % 256)=(x:Int):=by omega
    have He:=hid (show vbF (k+1) x=[x] from by rw[zas,if_pos h128]);have Ih:=hid ih;clear ih;go_enter Tryz.func67,Tryz.ntmps67;go_wp2_with fail;go_ret;exact⟨_,rfl,by rw[He.out];exact Ho.out,(Below.refl _ _).alloc (Nat.le_refl _) _⟩
  · have hge:decide ((x:Int)<128)=false:=by rw[decide_eq_false_iff_not];omega
    have hd:x / 128<2 ^ (7*k+7):=by
     rw[show 7*(k+1)+7=(7*k+7)+7 from by omega,Nat.pow_add] at hx;generalize 2 ^ (7*k+7)=P at*;exact Nat.div_lt_of_lt_mul (by omega)
    have hq256:x % 128+128<256:=by omega
    have Hxd:=hid (show ((x:Int) / 128)=((x / 128:Nat):Int) from by omega);have He:=hid (show vbF (k+1) x=(x % 128+128) :: vbF k (x / 128) from by rw[zas,if_neg h128]);have hl:=zcv k (x / 128);have Hl:=hid (zgb k (x / 128));have Ih:=hid (fun w=>ih (x / 128) w hd (by have:=Nat.div_le_self x 128;omega) (by omega));clear ih;have ho1:=World.ownsRow_lit (e:=5) (size:=1) (base:=w.heap.size) w #[.int .u8 ((x:Int) % 128+128)] 1 (Nat.le_refl _) (by unfold maxLen;omega) rfl;have Ho1:=hid ho1;clear ho1;clear hx hd;go_enter Tryz.func67,Tryz.ntmps67;go_wp2_with fail;rw[Hxd.out];refine(Ih.out _).mono ?_;rintro e w2 ⟨v2,rfl,ho2,hb2⟩;obtain⟨a2,c2,rfl,hB2⟩:=zet ho2 Hl.out;have h1':=yk Ho1.out hb2;have hbb:Below w.heap.size w w2:=((Below.refl _ _).alloc (Nat.le_refl _) _).trans (hb2.mono (by simp only[World.size_alloc];omega));obtain⟨v3,w3,hr3,ho3,hg3⟩:=zdr w.heap.size _ 1 _ h1' a2 _ c2 _ hB2 (by omega) hbb.size;have Ho3:=hid ho3;have hb3:=hbb.grown hg3 hbb.size (by intro k hk;simp[Value.ownBlock] at hk;omega);clear hg3 hb2 ho2 hB2 h1' ho3 hbb;go_wp2_with (at_builtin;refine yv _ _ 22 rfl rfl _ _ rfl rfl _ _ hr3 ?_);go_ret;refine⟨_,rfl,?_,hb3⟩;have h4:=Ho3.out;rw[show ((x:Int) % 128+128)=((x % 128+128:Nat):Int) from by omega] at h4;rw[He.out,List.length_cons,Nat.add_comm];exact h4
theorem zxo (x:Nat) (w:World) (hx:x<4294967296):
 Calls Tryz.prog 74 #[.int .u32 x] w fun e w'=>e=.returned (.slice (some ⟨w.heap.size,0,none⟩) 4 4)∧w'=w.alloc (.cells (u8s (qu x)).toArray 5):=by
 go_enter Tryz.func74,Tryz.ntmps74;go_wp2;go_ret;exact⟨rfl,by simp[u8s,qu]⟩
end
section
def vq (l:List Nat) (p:Nat) (most:Int):Nat×Nat×Err:=
 match ji l p with
 | some (c,q)=>(0,0,some ((c:Int),some (q:Int)))
 | none=>
  match zj (l.drop (p+5)) 0 0 with
  | (1,x,j)=>if max most 0<(x:Int) then (0,0,some (7,some ((p+5:Nat):Int))) else (p+5+j,x,none)
  | (2,_,_)=>(0,0,some (6,some ((p+5:Nat):Int)))
  | _=>(0,0,some (5,some (p:Int)))
theorem zok {l:List Nat} {p c q:Nat} {most:Int} (h:ji l p=some (c,q)):vq l p most=(0,0,some ((c:Int),some (q:Int))):=by
 unfold vq;rw[h]
end
section
open Go.RowKit
theorem zol {w:World} {ops:Array Oper} {o:Oper} {a:Act} {K:Act→World→Prop} {Q:Exit→Act→World→Prop} {E:Prop} (hgd:o.guard=none) (s x:Operand)
 (ho:o.op=.call { callee:=.builtin .append,args:= #[s,x],argTypes:= #[41,41] }) (hty:o.type=41)
 (base:Nat) (v:Value) (n:Nat) (xs:List Nat) (hs:a.eval s=v) (hown:w.ownsRow base 43 1 v n (yb xs)) (A:Option Addr) (m c:Nat) (l:List Nat) (hx:a.eval x=.slice A m c) (hr:Rd w 1 A m (yb l)) (hb:n+m≤1000000000000) (hbase:base≤w.heap.size)
 (h:∀v' w',w'.ownsRow base 43 1 v' (n+m) (yb (xs++l))→w.grownBy w' v.ownBlock→K (a.put o.dst v') w'):
 if Region.wanted o (yielded ops a.tmps)=true then Oper.wp Tryz.prog o a w K Q else E:=by
 obtain⟨v',w',hrun,h1,h2⟩:=ze1 base v n xs hown A m c l hr hb hbase;exact zdy hgd s x _ ho _ _ hs hx v' w' (by rw[hty];exact hrun) (h v' w' h1 h2)
theorem zom:vu++⟨#[58,32]⟩=⟨#[115,116,114,101,97,109,58,32]⟩:=rfl
theorem zxp {w w':World} {r:Option Nat} (h:w.grownBy w' r) (o:Obj):w.grownBy (w'.alloc o) r:=
 ⟨h.os,h.tape,h.output,by have:=h.size;simp;omega,fun k hk hne=>(Below.heap_alloc _ _ _ (Nat.lt_of_lt_of_le hk h.size)).trans (h.block k hk hne)⟩
theorem zxq (l:List Nat) (p k x:Nat) (h:p+k<l.length):
 zj (l.drop (p+k)) k x=if zn k (nth l (p+k))=2 then (2,0,k+1) else if zn k (nth l (p+k))=1 then (1,z7 x k (nth l (p+k)),k+1) else zj (l.drop (p+(k+1))) (k+1) (z7 x k (nth l (p+k))):=by
 rw[zeo l (p+k) h]
 rfl
theorem zxr (x k c:Nat) (hx:x<18446744073709551616):bits .or .u64 (x:Int) (IntKind.u64.wrap ((c:Int) % 128*2 ^ (7*k)))=((z7 x k c:Nat):Int):=zi6 x k c hx
def stG (E n s:Nat):Nat:=if s=0∧E≤n then 3 else s
set_option maxRecDepth 100000 in
theorem zon (a:Option Addr) (n cap p E:Nat) (l:List Nat) (w:World) (hB:Byts w a n cap l) (hp:p≤n) (hpE:p≤E) (hn0:n≤2000000000000000000) (hE0:E≤4000000000000000000):
 Calls Tryz.prog 76 #[.slice a n cap,.int .i64 p,.int .i64 E] w fun e w'=>e=.returned (.tuple #[.int .i64 (stG E n (zj ((l.take E).drop p) 0 0).1:Nat),.int .u64 ((zj ((l.take E).drop p) 0 0).2.1:Nat),.int .i64 ((p+(zj ((l.take E).drop p) 0 0).2.2:Nat):Int)])∧w=w':=by
 obtain⟨hn,hlt,hnc,hcm,hnil,hc⟩:=hB;clear hnil hcm;obtain⟨t,ht⟩:∃t,t=l.take E:=⟨_,rfl⟩;have Htl:=hid (show t.length=min E n by rw[ht,List.length_take,hn]);have Htn:=hid (fun i (h:i<E)=>show nth t i=nth l i by rw[ht];unfold nth;rw[List.getD_eq_getElem?_getD,List.getD_eq_getElem?_getD,List.getElem?_take_of_lt h]);rw[←ht];clear ht;have Hn:=hid hn;clear hn;have Hlt:=hid hlt;clear hlt;have Hc:=hid hc;clear hc;go_enter Tryz.func76,Tryz.ntmps76;go_wp2_with fail;go_loop [9,10,11] (fun y j _=>∃k x:Nat,p+k≤n∧p+k≤E∧k<10∧j=.int .i64 k∧y=.int .u64 x∧Hid (x<18446744073709551616)∧Hid (zj (t.drop p) 0 0=zj (t.drop (p+k)) k x)) (fun _ j _=>10 - (intOf j).toNat)
 case atStart=>exact⟨0,0,by omega,by omega,by omega,rfl,rfl,by show 0<18446744073709551616;omega,rfl⟩
 case round=>
  obtain⟨k,x,hk,hkE,hk10,rfl,rfl,hx,hS⟩:=hrel;have h10:decide ((k:Int)<10)=true:=by rw[decide_eq_true_iff];omega
  by_cases hkn:p+k<n∧p+k<E
  · obtain⟨hkn,hkE'⟩:=hkn;have hq1:decide ((E:Int)≤(p:Int)+(k:Int))=false:=by rw[decide_eq_false_iff_not];omega
    have hq2:decide ((n:Int)≤(p:Int)+(k:Int))=false:=by rw[decide_eq_false_iff_not];omega
    obtain⟨b,o,rfl,hcell⟩:=Hc.out (by omega);have hc:=hcell (p+k) hkn;clear hcell;have hnc:nth l (p+k)<256:=zdn Hlt.out (by omega) _;have hd:=zxq t p k x (by rw[Htl.out];omega);rw[Htn.out _ hkE'] at hd;have Hd:=hid hd;clear hd;have Ho:=hid (fun c=>zxr x k c hx.out);have Hol:=hid (fun c=>zcw k c hx.out);generalize nth l (p+k)=c at*;by_cases hw:(k=9∧1<c)∨(0<k∧c=0)
    · have hns:zn k c=2:=if_pos hw;have Hfin:=hid (show zj (t.drop p) 0 0=(2,0,k+1) from by rw[hS.out,Hd.out,if_pos hns])
      have hb:((((k:Int) == 9) && decide (1<(c:Int))) || (decide (0<k) && ((c:Int) == 0)))=true:=by
       rcases hw with ⟨h1,h2⟩ | ⟨h1,h2⟩
       · have e1:((k:Int) == 9)=true:=by rw[beq_iff_eq];omega
         have e2:decide (1<(c:Int))=true:=by rw[decide_eq_true_iff];omega
         rw[e1,e2];rfl
       · have e1:decide (0<k)=true:=by rw[decide_eq_true_iff];omega
         have e2:((c:Int) == 0)=true:=by rw[beq_iff_eq];omega
         rw[e1,e2];simp
      rcases hw with ⟨h1,h2⟩ | ⟨h1,h2⟩
      · have e1:((k:Int) == 9)=true:=by rw[beq_iff_eq];omega
        have e2:decide (1<(c:Int))=true:=by rw[decide_eq_true_iff];omega
        clear hb h1;go_wp2_with fail;go_ret3
        refine⟨?_,rfl⟩;rw[Hfin.out]
        rfl
      · have e0:((c:Int) == 0)=true:=by rw[beq_iff_eq];omega
        have e1:decide (0<k)=true:=by rw[decide_eq_true_iff];omega
        have e2:decide (1<(c:Int))=false:=by rw[decide_eq_false_iff_not];omega
        clear hb h2;by_cases h9:k=9
        · have e3:((k:Int) == 9)=true:=by rw[beq_iff_eq];omega
          clear h9;go_wp2_with fail;go_ret3
          refine⟨?_,rfl⟩;rw[Hfin.out]
          rfl
        · have e3:((k:Int) == 9)=false:=by rw[beq_eq_false_iff_ne];omega
          go_wp2_with fail;go_ret3
          refine⟨?_,rfl⟩;rw[Hfin.out]
          rfl
    · have hns2:zn k c≠2:=by unfold zn;rw[if_neg hw];split <;> decide
      have hk9:k≠9∨c≤1:=by omega
      have hk0:k=0∨c≠0:=by omega
      clear hw;have HO:=hid (Ho.out c);have HL:=hid (Hol.out c)
      have e90:(((k:Int) == 9)=true∧decide (1<(c:Int))=false∧decide (0<k)=true∧((c:Int) == 0)=false)∨(((k:Int) == 9)=false∧decide (0<k)=true∧((c:Int) == 0)=false)∨(((k:Int) == 9)=false∧decide (0<k)=false):=by
       by_cases h9:k=9
       · left;exact⟨by rw[beq_iff_eq];omega,by rw[decide_eq_false_iff_not];omega,by rw[decide_eq_true_iff];omega,by rw[beq_eq_false_iff_ne];omega⟩
       · right;by_cases h0:k=0
         · right;exact⟨by rw[beq_eq_false_iff_ne];omega,by rw[decide_eq_false_iff_not];omega⟩
         · left;exact⟨by rw[beq_eq_false_iff_ne];omega,by rw[decide_eq_true_iff];omega,by rw[beq_eq_false_iff_ne];omega⟩
      clear hk9 hk0;by_cases h128:c<128
      · have hns:zn k c=1:=by
         rcases zcx k c with h | h | h
         · unfold zn at h;rw[if_neg (fun hh=>hns2 (if_pos hh)),if_pos h128] at h;cases h
         · exact h
         · exact absurd h hns2
        have Hfin:=hid (show zj (t.drop p) 0 0=(1,z7 x k c,k+1) from by rw[hS.out,Hd.out,if_neg hns2,if_pos hns]);have e5:decide ((c:Int)<128)=true:=by rw[decide_eq_true_iff];omega
        clear hns hns2;rcases e90 with ⟨e9,e9',e0,e0'⟩ | ⟨e9,e0,e0'⟩ | ⟨e9,e0⟩
        all_goals
         go_wp2_with fail;rw[HO.out];go_ret3
         refine⟨?_,rfl⟩;rw[Hfin.out]
         rfl
      · have hns:zn k c=0:=by
         rcases zcx k c with h | h | h
         · exact h
         · unfold zn at h;rw[if_neg (fun hh=>hns2 (if_pos hh)),if_neg h128] at h;cases h
         · exact absurd h hns2
        have hk9':k≠9:=fun e=>zis c (by rw[←e];exact hns)
        have HS2:=hid (show zj (t.drop p) 0 0=zj (t.drop (p+(k+1))) (k+1) (z7 x k c) from by rw[hS.out,Hd.out,if_neg hns2,if_neg (by rw[hns];decide)]);have e5:decide ((c:Int)<128)=false:=by rw[decide_eq_false_iff_not];omega
        clear hns hns2;rcases e90 with ⟨e9,e9',e0,e0'⟩ | ⟨e9,e0,e0'⟩ | ⟨e9,e0⟩
        all_goals
         go_wp2_with fail;rw[HO.out];go_round
         case rel=>exact⟨k+1,_,by omega,by omega,by omega,by go_num,rfl,HL,HS2⟩
         case measure=>simp[intOf];omega
  · have Hfin:=hid (show zj (t.drop p) 0 0=(0,0,k) from by rw[hS.out,List.drop_eq_nil_of_le (by rw[Htl.out];omega)];rfl);by_cases hkE':p+k<E
    · have Hst:=hid (show stG E n 0=0 from if_neg (fun h=>by have:=h.2;omega));have hq1:decide ((E:Int)≤(p:Int)+(k:Int))=false:=by rw[decide_eq_false_iff_not];omega
      have hq2:decide ((n:Int)≤(p:Int)+(k:Int))=true:=by rw[decide_eq_true_iff];omega
      clear hkn;go_wp2_with fail;go_ret3
      refine⟨?_,rfl⟩;rw[Hfin.out,Hst.out]
      rfl
    · have Hst:=hid (show stG E n 0=3 from if_pos ⟨rfl,by omega⟩);have hq1:decide ((E:Int)≤(p:Int)+(k:Int))=true:=by rw[decide_eq_true_iff];omega
      clear hkn;go_wp2_with fail;go_ret3
      refine⟨?_,rfl⟩;rw[Hfin.out,Hst.out]
      rfl
theorem za2 (c:Nat) (h9:c≤9):(Utf8.encode (48+(c:Int))).size=1:=by
 rcases(by omega:c=0∨c=1∨c=2∨c=3∨c=4∨c=5∨c=6∨c=7∨c=8∨c=9) with rfl | rfl | rfl | rfl | rfl | rfl | rfl | rfl | rfl | rfl <;> rfl
def cdT (c:Nat):ByteArray:=
 if c≤9 then ⟨#[101,114,114,111,114,32]⟩++Utf8.encode (48+(c:Int))++⟨#[]⟩
 else if c≤99 then ⟨#[101,114,114,111,114,32]⟩++Utf8.encode (48+((c / 10:Nat):Int))++(Utf8.encode (48+((c % 10:Nat):Int))++⟨#[]⟩)
 else ⟨#[101,114,114,111,114,32]⟩++Utf8.encode (48+((c / 10 / 10:Nat):Int))++(Utf8.encode (48+((c / 10 % 10:Nat):Int))++(Utf8.encode (48+((c % 10:Nat):Int))++⟨#[]⟩))
theorem zib (c:Nat) (h:c≤255):(cdT c).size≤9:=by
 unfold cdT;split
 · rw[ByteArray.size_append,ByteArray.size_append,za2 c (by omega)];exact(by decide:6+1+0≤9)
 · split
   · rw[ByteArray.size_append,ByteArray.size_append,ByteArray.size_append,za2 (c / 10) (by omega),za2 (c % 10) (by omega)];exact(by decide:6+1+(1+0)≤9)
   · rw[ByteArray.size_append,ByteArray.size_append,ByteArray.size_append,ByteArray.size_append,za2 (c / 10 / 10) (by omega),za2 (c / 10 % 10) (by omega),za2 (c % 10) (by omega)];exact(by decide:6+1+(1+(1+0))≤9)
set_option maxRecDepth 20000 in
theorem zic (c:Nat) (w:World) (hc:c≤255):Calls Tryz.prog 45 #[.int .i64 c] w fun e w'=>e=.returned (.string (cdT c))∧w=w':=by
 have hd1:decide ((c:Int)<0)=false:=by rw[decide_eq_false_iff_not];omega
 by_cases h9:c≤9
 · have hd2:decide (9<(c:Int))=false:=by rw[decide_eq_false_iff_not];omega
   have hd3:decide (9<c)=false:=by rw[decide_eq_false_iff_not];omega
   have hz:=za2 c h9;have ht:cdT c=⟨#[101,114,114,111,114,32]⟩++Utf8.encode (48+(c:Int))++⟨#[]⟩:=by unfold cdT;rw[if_pos h9]
   go_enter Tryz.func45,Tryz.ntmps45;go_wp2;refine wp_loop_rounds 1 ?_;rw[rounds_succ];go_wp2;go_ret;exact⟨by rw[ht];rfl,rfl⟩
 have hd2:decide (9<(c:Int))=true:=by rw[decide_eq_true_iff];omega
 have hd3:decide (9<c)=true:=by rw[decide_eq_true_iff];omega
 obtain⟨q,hq⟩:∃q,q=c / 10:=⟨_,rfl⟩;obtain⟨r,hr⟩:∃r,r=c % 10:=⟨_,rfl⟩;have hq1:(c:Int) / 10=(q:Int):=by omega
 have hr1:(c:Int) % 10=(r:Int):=by omega
 have hq2:(c:Int).tdiv 10=(q:Int):=by rw[Int.tdiv_eq_ediv_of_nonneg (by omega)];exact hq1
 have hr2:(c:Int).tmod 10=(r:Int):=by rw[Int.tmod_eq_emod_of_nonneg (by omega)];exact hr1
 have hzr:=za2 r (by omega);by_cases h99:c≤99
 · have hd4:decide (9<(q:Int))=false:=by rw[decide_eq_false_iff_not];omega
   have hd5:decide (9<q)=false:=by rw[decide_eq_false_iff_not];omega
   have hz:=za2 q (by omega);have ht:cdT c=⟨#[101,114,114,111,114,32]⟩++Utf8.encode (48+(q:Int))++(Utf8.encode (48+(r:Int))++⟨#[]⟩):=by unfold cdT;rw[if_neg h9,if_pos h99,←hq,←hr]
   have hr9:r≤9:=by omega
   have hq9:q≤9:=by omega
   clear hq hr h9 h99 hc;go_enter Tryz.func45,Tryz.ntmps45;go_wp2;refine wp_loop_rounds 2 ?_;rw[rounds_succ];go_wp2;rw[rounds_succ];go_wp2;go_ret;exact⟨by rw[ht];rfl,rfl⟩
 have hd4:decide (9<(q:Int))=true:=by rw[decide_eq_true_iff];omega
 have hd5:decide (9<q)=true:=by rw[decide_eq_true_iff];omega
 obtain⟨s,hs⟩:∃s,s=q / 10:=⟨_,rfl⟩;obtain⟨t,ht⟩:∃t,t=q % 10:=⟨_,rfl⟩;have hs1:(q:Int) / 10=(s:Int):=by omega
 have ht1:(q:Int) % 10=(t:Int):=by omega
 have hs2:(q:Int).tdiv 10=(s:Int):=by rw[Int.tdiv_eq_ediv_of_nonneg (by omega)];exact hs1
 have ht2:(q:Int).tmod 10=(t:Int):=by rw[Int.tmod_eq_emod_of_nonneg (by omega)];exact ht1
 have hd6:decide (9<(s:Int))=false:=by rw[decide_eq_false_iff_not];omega
 have hd7:decide (9<s)=false:=by rw[decide_eq_false_iff_not];omega
 have hzs:=za2 s (by omega);have hzt:=za2 t (by omega);have hT:cdT c=⟨#[101,114,114,111,114,32]⟩++Utf8.encode (48+(s:Int))++(Utf8.encode (48+(t:Int))++(Utf8.encode (48+(r:Int))++⟨#[]⟩)):=by unfold cdT;rw[if_neg h9,if_neg h99,←hq,←hr,←hs,←ht]
 have hr9:r≤9:=by omega
 have hs9:s≤9:=by omega
 have ht9:t≤9:=by omega
 clear hq hr hs ht h9 h99 hc;go_enter Tryz.func45,Tryz.ntmps45;go_wp2;refine wp_loop_rounds 3 ?_;rw[rounds_succ];go_wp2;rw[rounds_succ];go_wp2;rw[rounds_succ];go_wp2;go_ret;exact⟨by rw[hT];rfl,rfl⟩
theorem Tryz.methodEsF (v:Value) (w:World):(Go.method 520 112 v "Error").run Tryz.prog w=.ok (322,v) w:=by kernel_rfl
theorem Tryz.methodEsN (v:Value) (w:World):(Go.method 520 212 v "Error").run Tryz.prog w=.ok (332,v) w:=by kernel_rfl
theorem zxs (c:Nat) (a:Int) (w:World) (hc:c≤255):Calls Tryz.prog 322 #[.agg #[.int .i64 c,.int .i64 a]] w fun e w'=>e=.returned (.string (cdT c))∧Below w.heap.size w w':=by
 go_enter Tryz.func322,Tryz.ntmps322;go_wp2_with fail;refine(zic c _ hc).mono ?_;rintro e w1 ⟨rfl,rfl⟩;go_wp2;go_ret;exact⟨rfl,(Below.refl _ _).alloc (Nat.le_refl _) _⟩
theorem zxt (w:World) (x y:Value) (T:TypeId) (w':World) (h:Below (w.alloc (.cells #[x,y] T)).heap.size (w.alloc (.cells #[x,y] T)) w'):
 w'.cell? ⟨w.heap.size,0,none⟩=some x∧w'.cell? ⟨w.heap.size,1,none⟩=some y:=by
 have hr:=(yo w T [x,y]).later h;exact⟨hr.cell 0 rfl,hr.cell 1 rfl⟩
theorem zoo (s:ByteArray) (c:Nat) (a:Int) (w:World) (hc:c≤255) (hs:s.size≤1000):
 Calls Tryz.prog 332 #[.agg #[.string s,.iface 112 (.agg #[.int .i64 c,.int .i64 a])]] w fun e w'=>e=.returned (.string (s++⟨#[58,32]⟩++cdT c))∧Below w.heap.size w w':=by
 have hz:=zib c hc;have hT:=hid (fun W=>zxs c a W hc);have mE:=Tryz.methodEsF (.agg #[.int .i64 c,.int .i64 a]);have hal:Below w.heap.size w (w.alloc (.cells #[.string s,.iface 112 (.agg #[.int .i64 c,.int .i64 a])] 212)):=(Below.refl _ _).alloc (Nat.le_refl _) _;have HX:=hid (zxt w (.string s) (.iface 112 (.agg #[.int .i64 c,.int .i64 a])) 212);have Hal:=hid hal;clear hal hc;go_enter Tryz.func332,Tryz.ntmps332;go_wp2_with fail;generalize w.alloc (.cells #[.string s,.iface 112 (.agg #[.int .i64 c,.int .i64 a])] 212)=W at*;refine ki (by kernel_rfl) (by kernel_rfl) ?_
 repeat (go_big_quiet_step ((intro hw;first
  | rfl
  | (go_at_call 322;exact zab hw (hT.out _))
  | (obtain⟨y1,y2⟩:=HX.out _ hw
     go_simp;first | rfl | exact⟨rfl,hw⟩ | (trace_state;fail)))))
 refine wpQuiet_nil ?_;intro w3 hb3;go_wp2;go_ret;exact⟨rfl,Hal.out.trans (hb3.mono Hal.out.size)⟩
theorem zxu {v:Vec} {k:Nat}:(jn v k).length≤(zh v).length:=by
 unfold jn zh;rw[List.length_cons,List.length_cons];have h:v.flatMap qy=(v.take k).flatMap qy++(v.drop k).flatMap qy:=by rw[←List.flatMap_append,List.take_append_drop]
 rw[h,List.length_append];omega
set_option maxRecDepth 20000 in
theorem zop (a:Option Addr) (n cap:Nat) (v:Vec) (w:World) (hE:Ents w a n cap v) (hN:(zh v).length≤1000000000000):
 Calls Tryz.prog 135 #[.slice a n cap] w fun x w'=>(∃y,x=.returned y∧w'.ownsRow w.heap.size 43 1 y (zh v).length (yb (zh v)))∧Below w.heap.size w w':=by
 have HE:=hid hE;have HN:=hid hN;have Hl:=hid hE.len;have hm:n≤9223372036854775807:=Nat.le_trans hE.room hE.most;have hw:IntKind.u64.wrap (n:Int)=(n:Int):=by rw[IntKind.wrap_u64];omega
 have ho0:=World.ownsRow_lit (e:=43) (size:=1) (base:=w.heap.size) w (yb [n]).toArray 1 (Nat.le_refl _) (by unfold maxLen;omega) rfl;have Ho0:=hid ho0;have hb0:Below w.heap.size w (w.alloc (.cells (yb [n]).toArray 43)):=(Below.refl _ _).alloc (Nat.le_refl _) _;clear hE hN ho0;go_enter Tryz.func135,Tryz.ntmps135;go_wp2;go_loopw [3,4,5] (fun y i _ wr=>∃k:Nat,k≤n∧i=.int .i64 k∧Below w.heap.size w wr∧Hid (wr.ownsRow w.heap.size 43 1 y (jn v k).length (yb (jn v k)))) (fun _ i _ _=>n - (intOf i).toNat)
 case atStart=>exact⟨0,by omega,rfl,hb0,by
  have:=Ho0.out;rw[show jn v 0=[n] from by unfold jn;rw[Hl.out];rfl];exact this⟩
 case round=>
  obtain⟨k,hk,rfl,hb,ho⟩:=hrel;have Hb:=hid hb;clear hb;by_cases hkn:k<n
  · have hkv:k<v.length:=by rw[Hl.out];exact hkn
    obtain⟨bb,oo,rfl⟩:=HE.out.some (by omega);obtain⟨x,m,c,hq⟩:=HE.out.fix hkn;have Hst:=hid (zkd hkv);have Hpl:=hid (zxu (v:=v) (k:=k+1));obtain⟨-,-,-,hIv⟩:=hq _ (Below.refl _ _);have HIv:=hid hIv;obtain⟨P1,hP1⟩:∃P1,jn v (k+1)=P1:=⟨_,rfl⟩;rw[hP1] at Hst Hpl;have HP1:=hid hP1;clear hP1;generalize jn v k=P at*;generalize zi v k=e at*;obtain⟨er,em,eh⟩:=e;simp only at hq HIv hIv;have Hel:=hid hIv.len;have hcm:m≤9223372036854775807:=Nat.le_trans hIv.room hIv.most;have hwm:IntKind.u64.wrap (m:Int)=(m:Int):=by rw[IntKind.wrap_u64];omega
    have Hlen:=hid (show P.length+3+2*m≤1000000000000 from by
     have h1:=Hpl.out;have h2:=HN.out;rw[Hst.out,List.length_append] at h1;simp only[qy,List.length_cons,zfa,Hel.out] at h1;omega)
    have hbr:Below w.heap.size w wr:=Hb.out;have r1:∀w',Below w.heap.size wr w'→w'.cell? ⟨bb,oo+k*3,none⟩=some (.int .u64 er):=fun w' h=>(hq w' (hbr.trans h)).1
    have r2:∀w',Below w.heap.size wr w'→w'.cell? ⟨bb,oo+k*3+1,none⟩=some (.int .u64 em):=fun w' h=>(hq w' (hbr.trans h)).2.1
    have r3:∀w',Below w.heap.size wr w'→w'.cell? ⟨bb,oo+k*3+2,none⟩=some (.slice x m c):=fun w' h=>(hq w' (hbr.trans h)).2.2.1
    have h0:(0:Int)≤k:=by omega
    have h04:(k:Int)<(n:Int):=by omega
    have HoW:=hid (fun W (h:Below wr.heap.size wr W)=>yk ho.out h);clear hIv;go_wp2_with fail;have hz:w.heap.size≤wr.heap.size:=Hb.out.size;have R3:=hid (fun w' (h:Below w.heap.size w w')=>(hq w' h).2.2.1);clear hq
    go_region_held3 (fun w'=>Below w.heap.size wr w') (first | assumption | exact(Below.refl _ _).drew | exact Below.alloc (by assumption) (Nat.le_trans hz (Below.size (by assumption))) _) (first
     | (refine zol rfl (.tmp 16) (.tmp 34) rfl rfl w.heap.size _ P.length P rfl (HoW.out _ (by first | exact((Below.refl _ _).alloc (Nat.le_refl _) _).drew | exact((Below.refl _ _).drew).alloc (by simp) _)) _ 3 _ [er,em,m] rfl (kx (by first | exact qj _ _ _ (by simp) | exact zoi _ _ _ _ (qj _ _ _ (by simp))) rfl rfl) (by have:=Hlen.out;omega) (by simp <;> omega) ?_
        intro v1 w1 ho1 hg1
        have hS1:Below w.heap.size wr w1:=by
         refine Below.grown (B:=w.heap.size) (by assumption) hg1 (by simp <;> omega) ?_;intro j hj;exact((HoW.out wr (Below.refl _ _)).lt j hj).1))
    all_goals
     have Hb1:=hid (hbr.trans hS1);have Ho1:=hid ho1;clear hS1 hg1 ho1;go_wp2;go_loopw [3,5] (fun y j wi=>∃d:Nat,d≤m∧j=.int .i64 d∧Below w.heap.size w wi∧Hid (wi.ownsRow w.heap.size 43 1 y (P++[er,em,m]++qh (eh.take d)).length (yb (P++[er,em,m]++qh (eh.take d))))) (fun _ j _=>m - (intOf j).toNat)
     case atStart=>exact⟨0,by omega,rfl,Hb1.out,by
      have:=Ho1.out;rw[show (P++[er,em,m]++qh (eh.take 0))=P++[er,em,m] from by simp[qh]];rw[List.length_append];exact this⟩
     case round=>
      obtain⟨d,hd,rfl,hbi,hoi⟩:=hrel;have Hbi:=hid hbi;clear hbi;have s3:=R3.out wr Hbi.out;have Hel2:=hid (show d<m→qh (eh.take (d+1))=qh (eh.take d)++[(zc eh d).1,(zc eh d).2] from fun h=>zkf eh d (by rw[Hel.out];exact h))
      have Hnl:=hid (show (P++[er,em,m]++qh (eh.take d)).length≤P.length+3+2*d from by
       rw[List.length_append,List.length_append,zfa,List.length_take];simp only[List.length_cons,List.length_nil];omega)
      by_cases hdm:d<m
      · obtain⟨hb,ho,rfl,hc⟩:=HIv.out.cells (by omega);obtain⟨c1,c2⟩:=hc d hdm;clear hc;have Hel2:=hid (Hel2.out hdm);generalize qh (eh.take d)=N at*;generalize zc eh d=p at*;obtain⟨px,py⟩:=p;simp only at c1 c2 Hel2;have h0d:(0:Int)≤d:=by omega
        have h04d:(d:Int)<(m:Int):=by omega
        obtain⟨wz,hwz⟩:∃wz:World,wz=wr:=⟨_,rfl⟩;have hz2:w.heap.size≤wr.heap.size:=Hbi.out.size;have s1:∀w',Below w.heap.size wr w'→w'.cell? ⟨bb,oo+k*3+2,none⟩=some (.slice (some ⟨hb,ho,none⟩) m c):=fun w' h=>R3.out w' (Hbi.out.trans h)
        have s4:∀w',Below w.heap.size wr w'→w'.cell? ⟨hb,ho+d*2,none⟩=some (.int .u64 px):=fun w' h=>((Hbi.out.trans h).cell (p:=⟨hb,ho+d*2,none⟩) (zd c1)).trans c1
        have s5:∀w',Below w.heap.size wr w'→w'.cell? ⟨hb,ho+d*2+1,none⟩=some (.int .u64 py):=fun w' h=>((Hbi.out.trans h).cell (p:=⟨hb,ho+d*2+1,none⟩) (zd c2)).trans c2
        have HoI:=hid (fun W (h:Below wr.heap.size wr W)=>yk hoi.out h);clear c1 c2 hwz;go_wp2_with fail;clear s3
        go_region_held3 (fun w'=>Below w.heap.size wr w') (first | assumption | exact(Below.refl _ _).drew | exact Below.alloc (by assumption) (Nat.le_trans hz2 (Below.size (by assumption))) _) (first
         | (refine zol rfl (.tmp 46) (.tmp 65) rfl rfl w.heap.size _ _ (P++[er,em,m]++N) rfl (HoI.out _ (by first | exact((Below.refl _ _).alloc (Nat.le_refl _) _).drew | exact((Below.refl _ _).drew).alloc (by simp) _)) _ 2 _ [px,py] rfl (kx (by first | exact qj _ _ _ (by simp) | exact zoi _ _ _ _ (qj _ _ _ (by simp))) rfl rfl) (by have:=Hlen.out;have:=Hnl.out;omega) (by simp <;> omega) ?_
            intro v2 w2 ho2 hg2
            have hS2:Below w.heap.size wr w2:=by
             refine Below.grown (B:=w.heap.size) (by assumption) hg2 (by simp <;> omega) ?_;intro j hj;exact((HoI.out wr (Below.refl _ _)).lt j hj).1))
        all_goals
         go_wp2;go_roundw
         case rel=>exact⟨d+1,by omega,by go_num,Hbi.out.trans hS2,by
          rw[Hel2.out,←List.append_assoc];rw[List.length_append (bs:=[px,py])];exact ho2⟩
         case measure=>simp[intOf];omega
      · obtain rfl:d=m:=by omega
        have Hoi:=hid hoi.out
        have hall:P++[er,em,d]++qh (eh.take d)=P1:=by
         rw[Hst.out,List.take_of_length_le (by rw[Hel.out];exact Nat.le_refl _),List.append_assoc];simp only[qy,Hel.out]
         rfl
        rw[hall] at Hoi;clear hall;go_wp2;go_roundw
        case rel=>exact⟨k+1,by omega,by go_num,Hbi.out,by rw[HP1.out];exact Hoi.out⟩
        case measure=>simp[intOf];omega
  · obtain rfl:k=n:=by omega
    have Ho:=hid ho.out;rw[←Hl.out,zke] at Ho;go_wp2;go_ret;exact⟨⟨_,rfl,Ho.out⟩,Hb.out⟩
theorem zxv (w:World):Calls Tryz.prog 119 #[] w fun e w'=>e=.returned (.slice (some ⟨w.heap.size,0,none⟩) 5 5)∧w'=w.alloc (.cells (u8s qw).toArray 5):=by
 go_enter Tryz.func119,Tryz.ntmps119;go_wp2;go_ret;exact⟨rfl,rfl⟩
theorem zxw (a:Option Addr) (n cap p q:Nat) (l:List Nat) (w:World) (hB:Byts w a n cap l) (hp:p≤n) (hq:n+50≤q) (hn:n≤2000000000000000000) (hs:q≤4000000000000000000):
 Calls Tryz.prog 76 #[.slice a n cap,.int .i64 p,.int .i64 q] w fun e w'=>e=.returned (.tuple #[.int .i64 ((zj (l.drop p) 0 0).1:Nat),.int .u64 ((zj (l.drop p) 0 0).2.1:Nat),.int .i64 ((p+(zj (l.drop p) 0 0).2.2:Nat):Int)])∧w=w':=by
 have h:=zon a n cap p q l w hB hp (by omega) hn hs;rw[List.take_of_length_le (by rw[hB.len];omega),show ∀k,stG q n k=k from fun k=>if_neg (fun h=>by have:=h.2;omega)] at h;exact h
set_option maxRecDepth 20000 in
theorem zxx (a d:Option Addr) (n c n' c':Nat) (v u:Vec) (w:World) (hE:Ents w a n c v) (hF:Ents w d n' c' u) (hN:(zh v).length≤1000000000000) (hM:(zh u).length≤1000000000000)
 (hpl:∀x∈zh v,x<18446744073709551616) (hql:∀x∈zh u,x<18446744073709551616):
 Calls Tryz.prog 97 #[.slice a n c,.slice d n' c'] w fun x w'=>x=.returned (.int .i64 (jl v u))∧Below w.heap.size w w':=by
 have HF:=hid hF;have HN:=hid hN;have HM:=hid hM;have Hpl:=hid hpl;have Hql:=hid hql;have hC:=hid (zop a n c v w hE hN);have hD:=hid (fun w' (h:Below w.heap.size w w')=>zop d n' c' u w' (hF.below h) hM);have Hcv:=hid (show jl v u=qq (zh v) (zh u) from rfl);clear hE hF hN hM hpl hql;generalize zh v=P at*;generalize zh u=R at*;generalize jl v u=z at*;go_enter Tryz.func97,Tryz.ntmps97;go_wp2_with fail;refine hC.out.mono ?_;rintro e w1 ⟨⟨y,rfl,ho1⟩,hb1⟩;have Hb1:=hid hb1;obtain⟨aP,cP,rfl,hU1⟩:=ze0 ho1 Hpl.out;clear hb1 ho1;have HU1:=hid hU1;clear hU1;go_wp2_with fail;refine(hD.out _ Hb1.out).mono ?_;rintro e w2 ⟨⟨y,rfl,ho2⟩,hb2⟩;have Hb2:=hid (Hb1.out.trans (hb2.mono Hb1.out.size));obtain⟨aR,cR,rfl,hU2⟩:=ze0 ho2 Hql.out;have HUp:=hid (HU1.out.below hb2);clear hb2 ho2;have HUr:=hid hU2;clear hU2 HU1 hC hD;obtain⟨N,hN⟩:∃N,N=P.length:=⟨_,rfl⟩;obtain⟨M,hM⟩:∃M,M=R.length:=⟨_,rfl⟩;rw[←hN] at HN HUp ⊢;rw[←hM] at HM HUr ⊢;have HNl:=hid hN;have HMl:=hid hM;have hNm:N≤9223372036854775807:=Nat.le_trans HUp.out.room HUp.out.most;clear hN hM;go_wp2;go_loopw [7] (fun i wr=>∃k:Nat,k≤N∧k≤M∧i=.int .i64 k∧Below w2.heap.size w2 wr∧Hid (z=qq (P.drop k) (R.drop k))) (fun i _=>N - (intOf i).toNat)
 case atStart=>exact⟨0,by omega,by omega,rfl,Below.refl _ _,(by simpa using Hcv.out:z=qq (P.drop 0) (R.drop 0))⟩
 case round=>
  obtain⟨k,hkN,hkM,rfl,hb,ht⟩:=hrel;have Hb:=hid hb;clear hb;have Hbw:=hid (Hb2.out.trans (Hb.out.mono Hb2.out.size));have h0:(0:Int)≤k:=by omega
  by_cases h1:k<N
  · by_cases h2:k<M
    · have hst:=zkj (p:=P) (q:=R) (k:=k) (by rw[←HNl.out];exact h1) (by rw[←HMl.out];exact h2);have Hst:=hid (ht.out.trans hst);obtain⟨b1,o1,rfl,hc1⟩:=(HUp.out.below Hb.out).cells (by omega);obtain⟨b2,o2,rfl,hc2⟩:=(HUr.out.below Hb.out).cells (by omega);have q1:=hc1 k h1;have q2:=hc2 k h2;clear hst hc1 hc2;generalize nth P k=x at*;generalize nth R k=y at*;have h01:(k:Int)<(N:Int):=by omega
      have h02:(k:Int)<(M:Int):=by omega
      have hcP:=HUp.out.room;have hcR:=HUr.out.room;by_cases hxy:x<y
      · have hd1:decide ((x:Int)<(y:Int))=true:=by rw[decide_eq_true_iff];omega
        have hd2:decide (x<y)=true:=by rw[decide_eq_true_iff];omega
        rw[if_pos hxy] at Hst;clear hxy;go_wp2;go_quiet (fail);go_wp2;go_ret;exact⟨by rw[Hst.out];rfl,by first | exact Hbw.out | exact zq Hbw.out _⟩
      · have hd1:decide ((x:Int)<(y:Int))=false:=by rw[decide_eq_false_iff_not];omega
        have hd2:decide (x<y)=false:=by rw[decide_eq_false_iff_not];omega
        rw[if_neg hxy] at Hst;by_cases hyx:y<x
        · have hd3:decide ((y:Int)<(x:Int))=true:=by rw[decide_eq_true_iff];omega
          have hd4:decide (y<x)=true:=by rw[decide_eq_true_iff];omega
          rw[if_pos hyx] at Hst;clear hxy hyx;go_wp2;go_quiet (fail);go_wp2;go_quiet (fail);go_wp2;go_ret;exact⟨by rw[Hst.out];rfl,by first | exact Hbw.out | exact zq Hbw.out _ | exact zq (zq Hbw.out _) _⟩
        · have hd3:decide ((y:Int)<(x:Int))=false:=by rw[decide_eq_false_iff_not];omega
          have hd4:decide (y<x)=false:=by rw[decide_eq_false_iff_not];omega
          rw[if_neg hyx] at Hst;clear hxy hyx;go_wp2;go_quiet (fail);go_wp2;go_quiet (fail);go_wp2;go_roundw
          case rel=>exact⟨k+1,by omega,by omega,by go_num,by first | exact Hb.out | exact zq Hb.out _ | exact zq (zq Hb.out _) _,Hst.out⟩
          case measure=>simp[intOf];omega
    · obtain rfl:k=M:=by omega
      have Hz:=hid (ht.out.trans (zgx (by rw[←HNl.out];omega) (by rw[←HMl.out];omega) (.inr HMl.out)));rw[←HNl.out,←HMl.out,if_neg (by omega),if_pos h1] at Hz;have hd1:decide ((N:Int)<(k:Int))=false:=by rw[decide_eq_false_iff_not];omega
      have hd2:decide ((k:Int)<(N:Int))=true:=by rw[decide_eq_true_iff];omega
      go_wp2;go_ret;exact⟨by rw[Hz.out];rfl,Hbw.out⟩
  · obtain rfl:k=N:=by omega
    have Hz:=hid (ht.out.trans (zgx (by rw[←HNl.out];omega) (by rw[←HMl.out];omega) (.inl HNl.out)));rw[←HNl.out,←HMl.out] at Hz;by_cases h2:k<M
    · rw[if_pos h2] at Hz;have hd1:decide ((k:Int)<(M:Int))=true:=by rw[decide_eq_true_iff];omega
      go_wp2;go_ret;exact⟨by rw[Hz.out];rfl,Hbw.out⟩
    · rw[if_neg h2,if_neg (by omega)] at Hz;have hd1:decide ((k:Int)<(M:Int))=false:=by rw[decide_eq_false_iff_not];omega
      have hd2:decide ((M:Int)<(k:Int))=false:=by rw[decide_eq_false_iff_not];omega
      go_wp2;go_ret;exact⟨by rw[Hz.out];rfl,Hbw.out⟩
