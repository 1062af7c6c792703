/- Part 23. -/
import Derived.Test.YtdnipikdddfhfaaGreatDoorOp06
set_option linter.unusedVariables false
set_option maxHeartbeats 16000000
namespace Go.Proofs.YtdnipikdddfhfaaGreatDoor
open Lib (hid)
section
open Go.RowKit
theorem znl (w:World) (o v:Obj) (g:Nat) (h:w.heap[g]?=some v):(w.alloc o).heap[g]?=some v:=(Below.heap_alloc w o g (by
 rcases Nat.lt_or_ge g w.heap.size with h' | h'
 · exact h'
 · rw[Array.getElem?_eq_none h'] at h;cases h)).trans h
theorem zwa (w:World):Calls Tryz.prog 182 #[] w fun e w'=>e=.returned (.int .u64 18446744073709551615)∧w=w':=by
 go_enter Tryz.func182,Tryz.ntmps182;go_wp2;go_ret;exact⟨rfl,rfl⟩
theorem zwb (a b:Nat):(a ^^^ b) / 2=a / 2 ^^^ b / 2:=by
 have h:=Nat.shiftRight_xor_distrib (a:=a) (b:=b) (i:=1);simpa [Nat.shiftRight_eq_div_pow] using h
theorem zwc (a b:Nat):(a ^^^ b) % 2=(a % 2 ^^^ b % 2):=by
 have h:=Nat.xor_mod_two_pow (a:=a) (b:=b) (n:=1);simpa using h
def za8 (x bit:Nat):Nat:=if x % 2≠bit then x / 2 ^^^ 3988292384 else x / 2
theorem zwd {x b:Nat} (h:x<4294967296):za8 x b<4294967296:=by
 unfold za8;split
 · exact zdp (by omega) (by omega)
 · omega
def zbh:Nat→Nat→Nat→Nat
 | 0,x,_=>x
 | k+1,x,c=>za8 (zbh k x c) (c / 2 ^ k % 2)
theorem znm (k:Nat) {x c:Nat} (h:x<4294967296):zbh k x c<4294967296:=by
 cases k with
 | zero=>exact h
 | succ k=>exact zwd (znm k h)
theorem zwe (x c:Nat):zdn (x ^^^ c)=za8 x (c % 2) ^^^ c / 2:=by
 unfold zdn za8;rw[zwb,zwc];generalize x / 2=p;generalize c / 2=q;rcases Nat.mod_two_eq_zero_or_one x with h | h <;> rcases Nat.mod_two_eq_zero_or_one c with k | k <;> simp[h,k]
 · rw[Nat.xor_assoc,Nat.xor_comm q,←Nat.xor_assoc]
 · rw[Nat.xor_assoc,Nat.xor_comm q,←Nat.xor_assoc]
theorem zwf (k x c:Nat):zbj k (x ^^^ c)=zbh k x c ^^^ c / 2 ^ k:=by
 induction k with
 | zero=>simp[zbj,zbh]
 | succ k ih=>
  simp only[zbj,zbh];rw[ih,zwe,Nat.div_div_eq_div_mul,Nat.pow_succ]
theorem zwg (x c:Nat) (hc:c<256):zbh 8 x c=zdo x c:=by
 unfold zdo;rw[zwf,show c / 2 ^ 8=0 from by omega,Nat.xor_zero]
theorem zwh (x:Nat) (hx:x<4294967296):4294967295 - x=4294967295 ^^^ x:=by
 apply Nat.eq_of_testBit_eq;intro i;rw[show 4294967295 - x=2 ^ 32 - (x+1) from by omega,Nat.testBit_two_pow_sub_succ (by omega),Nat.testBit_xor,show 4294967295=2 ^ 32 - 1 by decide,Nat.testBit_two_pow_sub_one];by_cases hi:i<32
 · simp[hi]
 · have:x.testBit i=false:=Nat.testBit_lt_two_pow (Nat.lt_of_lt_of_le hx (by
    have:2 ^ 32≤2 ^ i:=Nat.pow_le_pow_right (by omega) (by omega);simpa using this))
   simp[hi,this]
theorem zwi (w:World):Byts w none 0 0 []:=⟨rfl,by simp,by omega,by omega,fun _=>rfl,fun h=>by omega⟩
def zwj (k:IntKind) (w:World) (a:Option Addr) (len cap:Nat) (zs:List Int):Prop:=
 (a=none∧len=0∧cap=0∧zs=[])∨
 ∃x,a=some x∧len≤cap∧cap≤maxLen∧zs.length=cap∧(∀i,i<zs.length→w.cell? (x.add i)=some (.int k (zs.getD i 0)))∧∀n∈zs,(Lit.int k n).wf=true
theorem znn {n:Int} (h:(Lit.int .u8 n).wf=true):0≤n∧n<256:=by
 simp[Lit.wf,IntKind.min,IntKind.max,IntKind.signed,IntKind.bits] at h;omega
theorem zno {w:World} {a:Option Addr} {len cap:Nat} {zs:List Int} (h:zwj .u8 w a len cap zs):Byts w a len cap ((zs.take len).map Int.toNat):=by
 rcases h with ⟨rfl,rfl,rfl,rfl⟩ | ⟨x,rfl,hl,hm,hz,hc,hw⟩
 · exact zwi w
 · refine⟨by simp;omega,?_,hl,by unfold maxLen at hm;omega,(by intro h;cases h),fun hn=>?_⟩
   · intro y hy;simp only[List.mem_map] at hy;obtain⟨z,hzm,rfl⟩:=hy;have:=znn (hw z (List.mem_of_mem_take hzm));omega
   · have h0:=hc 0 (by omega);have hx:x.add 0=x:=rfl;rw[hx] at h0;obtain⟨b,o,sp⟩:=x
     have hsp:sp=none:=by
      cases sp with
      | none=>rfl
      | some k=>
       unfold World.cell? at h0;split at h0 <;> simp at h0
     subst hsp;refine⟨b,o,rfl,fun i hi=>?_⟩;have h1:=hc i (by omega);rw[yv] at h1;rw[h1];have hlt:i<zs.length:=by omega
     have hb:=znn (hw zs[i] (List.getElem_mem hlt))
     have:nth ((zs.take len).map Int.toNat) i=(zs.getD i 0).toNat:=by
      simp[nth,hi,hlt]
     rw[this];congr 2;rw[List.getD_eq_getElem?_getD,List.getElem?_eq_getElem hlt];simp;omega
theorem zwk (x b:Nat) (w:World) (hx:x<4294967296) (hb:b<2):
 Calls Tryz.prog 120 #[.int .u32 x,.int .u32 b] w fun e w'=>e=.returned (.int .u32 ((za8 x b:Nat):Int))∧w=w':=by
 by_cases h:x % 2=b
 · have hb':(((x:Int) % 2) != (b:Int))=false:=by rw[bne_eq_false_iff_eq];omega
   have hf:=hid (show za8 x b=x / 2 by simp[za8,h]);clear h;go_enter Tryz.func120,Tryz.ntmps120;go_wp2;go_ret;refine⟨?_,rfl⟩;rw[hf.out];simp
 · have hb':(((x:Int) % 2) != (b:Int))=true:=by rw[bne_iff_ne];omega
   have hf:=hid (show za8 x b=x / 2 ^^^ 3988292384 by simp[za8,h]);have hg:=hid (u32_xor_nat (x / 2) 3988292384 (by omega) (by omega));clear h;go_enter Tryz.func120,Tryz.ntmps120;go_wp2;go_ret;refine⟨?_,rfl⟩;rw[hf.out,←hg.out];simp
theorem zwl (c j:Nat):((c / 2 ^ j:Nat):Int) / 2=((c / 2 ^ (j+1):Nat):Int):=by
 rw[Nat.pow_succ,←Nat.div_div_eq_div_mul];simp
theorem zwm (a:Option Addr) (n cap:Nat) (l:List Nat) (w:World) (hB:Byts w a n cap l):
 Calls Tryz.prog 75 #[.slice a n cap] w fun e w'=>e=.returned (.int .u32 ((sum l:Nat):Int))∧w=w':=by
 obtain⟨hn,hlt,hnc,hcm,hnil,hc⟩:=hB;clear hnil;have hm:n≤9223372036854775807:=by omega
 have Hn:=hid hn;clear hn;have Hlt:=hid hlt;clear hlt;have Hc:=hid hc;clear hc;go_enter Tryz.func75,Tryz.ntmps75;go_wp2;go_loop [3,4,5,6] (fun x i _ _=>∃k:Nat,k≤n∧i=.int .i64 k∧x=.int .u32 ((reg 4294967295 (l.take k):Nat):Int)) (fun _ i _ _=>n - (intOf i).toNat)
 case atStart=>exact⟨0,by omega,rfl,rfl⟩
 case round=>
  obtain⟨k,hk,rfl,rfl⟩:=hrel;by_cases hkn:k<n
  · obtain⟨cb,co,rfl,hcell⟩:=Hc.out (by omega);have hc:=hcell k hkn;clear hcell;have hr:reg 4294967295 (l.take k)<4294967296:=zb9 (by omega) (fun c hc=>Hlt.out c (List.mem_of_mem_take hc));have hnc:nth l k<256:=zeo Hlt.out (by omega) k;have Hs:=hid (zir 4294967295 l k (by rw[Hn.out];exact hkn));generalize hR:reg 4294967295 (l.take k)=R at*;generalize hC:nth l k=c at*;clear hR hC;go_wp2;go_loop [3,5,6] (fun x d j=>∃i:Nat,i≤8∧j=.int .i64 i∧d=.int .u32 ((c / 2 ^ i:Nat):Int)∧x=.int .u32 ((zbh i R c:Nat):Int)) (fun _ _ j=>8 - (intOf j).toNat)
    case atStart=>exact⟨0,by omega,rfl,by simp,rfl⟩
    case round=>
     obtain⟨i,hi,rfl,rfl,rfl⟩:=hrel;have hX:=znm i (c:=c) hr;have hD:c / 2 ^ i<256:=Nat.lt_of_le_of_lt (Nat.div_le_self _ _) hnc;by_cases hi8:i<8
     · have Hh:=hid (zwl c i);generalize hd:c / 2 ^ i=d at*;have Hd:=hid hd;clear hd;go_wp2_with (go_at_call 120;refine(zwk (zbh i R c) (d % 2) _ hX (by omega)).mono ?_;rintro e w' ⟨rfl,rfl⟩);go_round
       case rel=>exact⟨i+1,by omega,by go_num,by rw[Hh.out],by rw[zbh,Hd.out]⟩
       case measure=>simp[intOf];omega
     · obtain rfl:i=8:=by omega
       go_wp2;go_round
       case rel=>exact⟨k+1,by omega,by go_num,by rw[Hs.out,zwg _ _ hnc]⟩
       case measure=>simp[intOf];omega
  · obtain rfl:k=n:=by omega
    have hr:reg 4294967295 (l.take k)<4294967296:=zb9 (by omega) (fun c hc=>Hlt.out c (List.mem_of_mem_take hc))
    have Hr:=hid (show 4294967295 - ((reg 4294967295 (l.take k):Nat):Int)=((sum l:Nat):Int) from by
     have h:=zwh _ hr;rw[List.take_of_length_le (by rw[Hn.out];omega)] at h hr ⊢;rw[sum,←h,Int.ofNat_sub (by omega)]
     rfl)
    go_wp2;go_ret;exact⟨ku Hr.out,rfl⟩
theorem zwn:∀(k x:Nat) (w:World),x<2 ^ (7*k+7)→x<18446744073709551616→k≤9→
 Calls Tryz.prog 67 #[.int .u64 x] w fun e w'=>∃v',e=.returned v'∧w'.ownsRow w.heap.size 5 1 v' (vbF k x).length (u8s (vbF k x))∧Below w.heap.size w w':=by
 intro k
 induction k with
 | zero=>
  intro x w hx h64 _;have h128:x<128:=by simpa using hx
  have ho:=World.ownsRow_lit (e:=5) (size:=1) (base:=w.heap.size) w #[.int .u8 (x:Int)] 1 (Nat.le_refl _) (by unfold maxLen;omega) rfl;have Ho:=hid ho;clear ho hx h64;have hlt:decide ((x:Int)<128)=true:=by rw[decide_eq_true_iff];omega
  have hm:((x:Int) % 256)=(x:Int):=by omega
  have He:=hid (show vbF 0 x=[x] from by simp[vbF];omega);go_enter Tryz.func67,Tryz.ntmps67;go_wp2_with fail;go_ret
  exact⟨_,rfl,by rw[He.out];exact Ho.out,(Below.refl _ _).alloc (Nat.le_refl _) _⟩
 | succ k ih=>
  intro x w hx h64 hk;by_cases h128:x<128
  · have ho:=World.ownsRow_lit (e:=5) (size:=1) (base:=w.heap.size) w #[.int .u8 (x:Int)] 1 (Nat.le_refl _) (by unfold maxLen;omega) rfl;have Ho:=hid ho;clear ho hx h64;have hlt:decide ((x:Int)<128)=true:=by rw[decide_eq_true_iff];omega
    have hm:((x:Int) % 256)=(x:Int):=by omega
    have He:=hid (show vbF (k+1) x=[x] from by rw[zan,if_pos h128]);have Ih:=hid ih;clear ih;go_enter Tryz.func67,Tryz.ntmps67;go_wp2_with fail;go_ret;exact⟨_,rfl,by rw[He.out];exact Ho.out,(Below.refl _ _).alloc (Nat.le_refl _) _⟩
  · have hge:decide ((x:Int)<128)=false:=by rw[decide_eq_false_iff_not];omega
    have hd:x / 128<2 ^ (7*k+7):=by
     rw[show 7*(k+1)+7=(7*k+7)+7 from by omega,Nat.pow_add] at hx;generalize 2 ^ (7*k+7)=P at*;exact Nat.div_lt_of_lt_mul (by omega)
    have hq256:x % 128+128<256:=by omega
    have Hxd:=hid (show ((x:Int) / 128)=((x / 128:Nat):Int) from by omega);have He:=hid (show vbF (k+1) x=(x % 128+128) :: vbF k (x / 128) from by rw[zan,if_neg h128]);have hl:=zcv k (x / 128);have Hl:=hid (zge k (x / 128));have Ih:=hid (fun w=>ih (x / 128) w hd (by have:=Nat.div_le_self x 128;omega) (by omega));clear ih;have ho1:=World.ownsRow_lit (e:=5) (size:=1) (base:=w.heap.size) w #[.int .u8 ((x:Int) % 128+128)] 1 (Nat.le_refl _) (by unfold maxLen;omega) rfl;have Ho1:=hid ho1;clear ho1;clear hx hd;go_enter Tryz.func67,Tryz.ntmps67;go_wp2_with fail;rw[Hxd.out];refine(Ih.out _).mono ?_;rintro e w2 ⟨v2,rfl,ho2,hb2⟩;obtain⟨a2,c2,rfl,hB2⟩:=zet ho2 Hl.out;have h1':=yf Ho1.out hb2;have hbb:Below w.heap.size w w2:=((Below.refl _ _).alloc (Nat.le_refl _) _).trans (hb2.mono (by simp only[World.size_alloc];omega));obtain⟨v3,w3,hr3,ho3,hg3⟩:=zdq w.heap.size _ 1 _ h1' a2 _ c2 _ hB2 (by omega) hbb.size;have Ho3:=hid ho3;have hb3:=hbb.grown hg3 hbb.size (by intro k hk;simp[Value.ownBlock] at hk;omega);clear hg3 hb2 ho2 hB2 h1' ho3 hbb;go_wp2_with (at_builtin;refine ym _ _ 22 rfl rfl _ _ rfl rfl _ _ hr3 ?_);go_ret;refine⟨_,rfl,?_,hb3⟩;have h4:=Ho3.out;rw[show ((x:Int) % 128+128)=((x % 128+128:Nat):Int) from by omega] at h4;rw[He.out,List.length_cons,Nat.add_comm];exact h4
theorem zwo (x:Nat) (w:World) (hx:x<4294967296):
 Calls Tryz.prog 74 #[.int .u32 x] w fun e w'=>e=.returned (.slice (some ⟨w.heap.size,0,none⟩) 4 4)∧w'=w.alloc (.cells (u8s (qt x)).toArray 5):=by
 go_enter Tryz.func74,Tryz.ntmps74;go_wp2;go_ret;exact⟨rfl,by simp[u8s,qt]⟩
theorem znp {w:World} {ops:Array Oper} {o:Oper} {a:Act} {K:Act→World→Prop} {Q:Exit→Act→World→Prop} {E:Prop} (hgd:o.guard=none) (s x:Operand)
 (ho:o.op=.call { callee:=.builtin .append,args:= #[s,x],argTypes:= #[41,41] }) (hty:o.type=41)
 (base:Nat) (v:Value) (n:Nat) (xs:List Nat) (hs:a.eval s=v) (hown:w.ownsRow base 43 1 v n (z7 xs)) (A:Option Addr) (m c:Nat) (l:List Nat) (hx:a.eval x=.slice A m c) (hr:Rd w 1 A m (z7 l)) (hb:n+m≤1000000000000) (hbase:base≤w.heap.size)
 (h:∀v' w',w'.ownsRow base 43 1 v' (n+m) (z7 (xs++l))→w.grownBy w' v.ownBlock→K (a.put o.dst v') w'):
 if Region.wanted o (yielded ops a.tmps)=true then Oper.wp Tryz.prog o a w K Q else E:=by
 obtain⟨v',w',hrun,h1,h2⟩:=ze6 base v n xs hown A m c l hr hb hbase;exact ze4 hgd s x _ ho _ _ hs hx v' w' (by rw[hty];exact hrun) (h v' w' h1 h2)
theorem zwp (x y z u:Nat) (w:World):(Op.equalIn 10000 89 (.agg #[.int .u64 (x:Int),.int .u64 (y:Int)]) (.agg #[.int .u64 (z:Int),.int .u64 (u:Int)])).run Tryz.prog w=.ok (decide (x=z) && decide (y=u)) w:=by
 have u3:=Tryz.underlying43;have a3:∀w,(isAgg 43).run Tryz.prog w=.ok false w:=fun w=>by simp[isAgg,run_underlying u3]
 have z3:∀w,(sizeOf 43).run Tryz.prog w=.ok 1 w:=fun w=>by kernel_rfl
 have hS:Tryz.prog.underlying 89=some (.struct (Tryz.prog.fieldsOf 89)):=by kernel_rfl
 have hp:Tryz.prog.stoodInHeld 89=false:=by kernel_rfl
 rw[show (10000:Nat)=9999+1 from rfl,run_equalIn_agg w 9999 89 _ _ hS hp];simp only[Program.fieldsOf,Tryz.underlying89];go_simp;by_cases h1:x=z <;> by_cases h2:y=u <;> simp[h1,h2] <;> omega
theorem zwq {l l':List Iv} {k:Nat} (h:l.take k=l'.take k) (hk:k<l.length) (hk':k<l'.length) (e:zc l k=zc l' k):l.take (k+1)=l'.take (k+1):=by
 rw[List.take_succ_eq_append_getElem hk,List.take_succ_eq_append_getElem hk',h,←qg hk,←qg hk',e]
theorem zwr {l l':List Iv} {k:Nat} (e:zc l k≠zc l' k):l≠l':=fun h=>e (by rw[h])
theorem znq (a a':Option Addr) (n cap n' cap':Nat) (l l':List Iv) (w:World) (hI:Ivs w a n cap l) (hI':Ivs w a' n' cap' l'):
 Calls Tryz.prog 59 #[.slice a n cap,.slice a' n' cap'] w fun e w'=>e=.returned (.bool (decide (l=l')))∧Below w.heap.size w w':=by
 have HI:=hid hI;have HI':=hid hI';have Hl:=hid hI.len;have Hl':=hid hI'.len;have hm:n≤9223372036854775807:=Nat.le_trans hI.room hI.most;by_cases hnn:n=n'
 · subst hnn;clear hI hI';have hnb:((n:Int) != (n:Int))=false:=by simp
   go_enter Tryz.func59,Tryz.ntmps59;go_wp2;go_loopw [5] (fun i wr=>∃k q:Nat,k≤n∧i=.int .i64 k∧wr=w.drewN q∧Hid (l.take k=l'.take k)) (fun i _=>n - (intOf i).toNat)
   case atStart=>exact⟨0,0,by omega,rfl,rfl,rfl⟩
   case round=>
    obtain⟨k,q,hk,rfl,rfl,ht⟩:=hrel;by_cases hkn:k<n
    · obtain⟨cb,co,rfl,hcell⟩:=HI.out.cells (by omega);obtain⟨cb',co',rfl,hcell'⟩:=HI'.out.cells (by omega);obtain⟨c1,c2⟩:=hcell k hkn;obtain⟨c1',c2'⟩:=hcell' k hkn;clear hcell hcell';have h0:(0:Int)≤k:=by omega
      have h04:(k:Int)<(n:Int):=by omega
      have hkl:k<l.length:=by rw[Hl.out];exact hkn
      have hkl':k<l'.length:=by rw[Hl'.out];exact hkn
      have He:=hid (fun e=>zwq ht.out hkl hkl' e);have Hn:=hid (fun e=>zwr (l:=l) (l':=l') (k:=k) e);clear hkl hkl';generalize zc l k=s at*;generalize zc l' k=t at*;obtain⟨x,y⟩:=s;obtain⟨z,u⟩:=t;have heq:=zwp x y z u;simp only at c1 c2 c1' c2';by_cases e:x=z∧y=u
      · obtain⟨rfl,rfl⟩:=e;have Ht:=hid (He.out rfl);simp only[decide_true,Bool.and_self] at heq;clear He Hn;go_wp2;go_quiet (fail);go_wp2;go_roundw
        case rel=>exact⟨k+1,_,by omega,by go_num,rfl,Ht.out⟩
        case measure=>simp[intOf];omega
      · have Hne:=hid (Hn.out (by intro h;cases h;exact e ⟨rfl,rfl⟩))
        have eb:(decide (x=z) && decide (y=u))=false:=by
         rw[Bool.eq_false_iff];intro h;rw[Bool.and_eq_true,decide_eq_true_iff,decide_eq_true_iff] at h;exact e h
        simp only[eb] at heq;clear He Hn eb e;go_wp2;go_quiet (fail);go_wp2;go_ret;exact⟨zca (by rw[decide_eq_false Hne.out]),by first | exact zq (Below.refl _ _) _ | exact zq (zq (Below.refl _ _) _) _⟩
    · obtain rfl:k=n:=by omega
      have h1:=ht.out;rw[List.take_of_length_le (by rw[Hl.out];omega),List.take_of_length_le (by rw[Hl'.out];omega)] at h1;have H1:=hid h1;clear h1;go_wp2;go_ret;exact⟨zca (by rw[decide_eq_true H1.out]),zq (Below.refl _ _) _⟩
 · have hnb:((n:Int) != (n':Int))=true:=by rw[bne_iff_ne];omega
   have hne:=hid (show l≠l' from fun h=>hnn (by rw[←hI.len,←hI'.len,h]));clear hI hI' HI HI' Hl Hl';go_enter Tryz.func59,Tryz.ntmps59;go_wp2;go_ret;exact⟨zca (by rw[decide_eq_false hne.out]),Below.refl _ _⟩
theorem zws {w w':World} {r:Option Nat} (h:w.grownBy w' r) (o:Obj):w.grownBy (w'.alloc o) r:=
 ⟨h.os,h.tape,h.output,by have:=h.size;simp;omega,fun k hk hne=>(Below.heap_alloc _ _ _ (Nat.lt_of_lt_of_le hk h.size)).trans (h.block k hk hne)⟩
theorem zwt (e f:Ent) (a d:Option Addr) (n c m k:Nat) (w:World) (hI:Ivs w a n c e.2.2) (hJ:Ivs w d m k f.2.2):
 Calls Tryz.prog 101 #[ze3 e (.slice a n c),ze3 f (.slice d m k)] w fun x w'=>x=.returned (.bool (decide (e=f)))∧Below w.heap.size w w':=by
 obtain⟨r,x,hs⟩:=e;obtain⟨r',x',hs'⟩:=f;simp only at hI hJ;obtain⟨W1,hW1⟩:∃W1,W1=w.alloc (.cells #[.int .u64 r,.int .u64 x,.slice a n c] 93):=⟨_,rfl⟩;have hal:Below w.heap.size w W1:=by rw[hW1];exact(Below.refl _ _).alloc (Nat.le_refl _) _
 have hsz:W1.heap.size=w.heap.size+1:=by rw[hW1];simp
 have hal2:Below W1.heap.size W1 (W1.alloc (.cells #[.int .u64 r',.int .u64 x',.slice d m k] 93)):=(Below.refl _ _).alloc (Nat.le_refl _) _;obtain⟨q0,q1,q2⟩:=zdz w (.int .u64 r) (.int .u64 x) (.slice a n c) 93 (W1.alloc (.cells #[.int .u64 r',.int .u64 x',.slice d m k] 93)) (hW1 ▸ hal2);obtain⟨q3,q4,q5⟩:=zdz W1 (.int .u64 r') (.int .u64 x') (.slice d m k) 93 _ (Below.refl _ _);have HA:=hid (hal.trans (hal2.mono hal.size));have hC:=hid (znq a d n c m k hs hs' _ (hI.below HA.out) (hJ.below HA.out));rw[hW1] at q0 q1 q2 q3 q4 q5 HA hC;simp only[World.size_alloc] at q3 q4 q5
 have hdec:decide (((r,x,hs):Ent)=(r',x',hs'))=((decide (r=r') && decide (x=x')) && decide (hs=hs')):=by
  rw[Bool.eq_iff_iff];simp[and_assoc]
 rw[hdec];clear hI hJ hal hal2 hsz hdec hW1;generalize decide (hs=hs')=b at*;by_cases h1:r=r'
 · subst h1;by_cases h2:x=x'
   · subst h2;have d1:True:=trivial;have d2:True:=trivial;go_enter Tryz.func101,Tryz.ntmps101;go_wp2_with fail;refine hC.out.mono ?_;rintro e w1 ⟨rfl,hb1⟩;have Hb1:=hid hb1;clear hb1;go_wp2;go_ret;exact⟨by simp,HA.out.trans (Hb1.out.mono HA.out.size)⟩
   · have d1:True:=trivial;have d2:decide (x=x')=false:=by simpa using h2
     have t2:(((x:Nat):Int) == ((x':Nat):Int))=false:=by rw[beq_eq_false_iff_ne];omega
     clear h2;go_enter Tryz.func101,Tryz.ntmps101;go_wp2;go_ret;exact⟨by simp[d2],HA.out⟩
 · have d1:decide (r=r')=false:=by simpa using h1
   have t1:(((r:Nat):Int) == ((r':Nat):Int))=false:=by rw[beq_eq_false_iff_ne];omega
   clear h1;go_enter Tryz.func101,Tryz.ntmps101;go_wp2;go_ret;exact⟨by simp[d1],HA.out⟩
set_option maxRecDepth 20000 in
theorem zwu (a d:Option Addr) (n c n' c':Nat) (v u:Vec) (w:World) (hE:Ents w a n c v) (hF:Ents w d n' c' u):
 Calls Tryz.prog 60 #[.slice a n c,.slice d n' c'] w fun x w'=>x=.returned (.bool (decide (v=u)))∧Below w.heap.size w w':=by
 have HE:=hid hE;have HF:=hid hF;have Hl:=hid hE.len;have Hl':=hid hF.len;have hm:n≤9223372036854775807:=Nat.le_trans hE.room hE.most;have hm':n'≤9223372036854775807:=Nat.le_trans hF.room hF.most;clear hE hF;by_cases hne:n=n'
 · subst hne;have hz:((n:Int) != (n:Int))=false:=by simp
   go_enter Tryz.func60,Tryz.ntmps60;go_wp2;go_loopw [5] (fun i wr=>∃k:Nat,k≤n∧i=.int .i64 k∧Below w.heap.size w wr∧Hid (∀j,j<k→zg v j=zg u j)) (fun i _=>n - (intOf i).toNat)
   case atStart=>exact⟨0,by omega,rfl,Below.refl _ _,fun j h=>by omega⟩
   case round=>
    obtain⟨k,hk,rfl,hb,ht⟩:=hrel;have Hb:=hid hb;clear hb;by_cases hkn:k<n
    · have HEr:=hid (HE.out.below Hb.out);have HFr:=hid (HF.out.below Hb.out);obtain⟨bb,oo,rfl⟩:=HEr.out.some (by omega);obtain⟨bd,od,rfl⟩:=HFr.out.some (by omega);obtain⟨x,m,e,hq⟩:=HEr.out.fix hkn;obtain⟨y,m',e',hp⟩:=HFr.out.fix hkn;have Hq:=hid hq;have Hp:=hid hp;have hC:=hid (fun w' (h:Below wr.heap.size wr w')=>zwt (zg v k) (zg u k) x y m e m' e' w' (hq w' h).2.2.2 (hp w' h).2.2.2)
      have Hst:=hid (show decide (zg v k=zg u k)=true→∀j,j<k+1→zg v j=zg u j from fun h j hj=>by
       by_cases e:j=k
       · rw[e];exact of_decide_eq_true h
       · exact ht.out j (by omega))
      have Hno:=hid (show decide (zg v k=zg u k)=false→v≠u from fun h h2=>by rw[h2] at h;simp at h);have h0:(0:Int)≤k:=by omega
      have h04:(k:Int)<(n:Int):=by omega
      clear hq hp;generalize decide (zg v k=zg u k)=dd at*;generalize zg v k=f at*;generalize zg u k=g at*;obtain⟨fr,fm,fh⟩:=f;obtain⟨gr,gm,gh⟩:=g;simp only at Hq Hp;go_wp2_with fail;go_cut [26] (fun t wc=>t=.bool (!dd)∧Hid (Below wr.heap.size wr wc))
      case first=>
       refine vv (by kernel_rfl) (by kernel_rfl) ?_
       repeat (go_big_quiet_step ((intro hw;first
        | rfl
        | (have q0:=Hq.out _ hw
           have q1:=q0.1;have q2:=q0.2.1;have q3:=q0.2.2.1;have p0:=Hp.out _ hw;have p1:=p0.1;have p2:=p0.2.1;have p3:=p0.2.2.1;clear q0 p0
           go_at_call 101;exact vu hw (hC.out _ hw))
        | (have q0:=Hq.out _ hw
           have q1:=q0.1;have q2:=q0.2.1;have q3:=q0.2.2.1;have p0:=Hp.out _ hw;have p1:=p0.1;have p2:=p0.2.1;have p3:=p0.2.2.1;clear q0 p0;go_simp;first | rfl | exact⟨rfl,hw⟩ | (trace_state;fail)))))
       refine wpQuiet_nil ?_;intro w3 hb3;go_wp2;go_meet
       exact⟨rfl,hb3⟩
      case rest=>
       obtain⟨rfl,hb2⟩:=hcut;have Hb2:=hid (Hb.out.trans (hb2.out.mono Hb.out.size));clear hb2
       cases dd with
       | true=>
        have Hs:=hid (Hst.out rfl);rw[Bool.not_true];go_wp2;go_roundw
        case rel=>exact⟨k+1,by omega,by go_num,Hb2.out,Hs.out⟩
        case measure=>simp[intOf];omega
       | false=>
        have Hs:=hid (show decide (v=u)=false from by rw[decide_eq_false_iff_not];exact Hno.out rfl);rw[Bool.not_false];go_wp2;go_ret;exact⟨by rw[Hs.out];rfl,Hb2.out⟩
    · obtain rfl:k=n:=by omega
      have Hs:=hid (show decide (v=u)=true from by
       rw[decide_eq_true_iff];refine List.ext_getElem (by rw[Hl.out,Hl'.out]) fun i h1 h2=>?_
       have:=ht.out i (by rw[←Hl.out];exact h1);rwa [ve h1,ve h2] at this)
      go_wp2;go_ret;exact⟨by rw[Hs.out];rfl,Hb.out⟩
 · have hz:((n:Int) != (n':Int))=true:=by rw[bne_iff_ne];omega
   have Hs:=hid (show decide (v=u)=false from by
    rw[decide_eq_false_iff_not];intro h;apply hne;rw[←Hl.out,←Hl'.out,h])
   clear hne;go_enter Tryz.func60,Tryz.ntmps60;go_wp2;go_ret;exact⟨by rw[Hs.out];rfl,Below.refl _ _⟩
set_option maxRecDepth 20000 in
theorem zwv (a d:Option Addr) (n c n' c':Nat) (v u:Kno) (w:World) (hE:Frags w a n c v) (hF:Frags w d n' c' u):
 Calls Tryz.prog 18 #[.slice a n c,.slice d n' c'] w fun x w'=>x=.returned (.bool (decide (v=u)))∧Below w.heap.size w w':=by
 have HE:=hid hE;have HF:=hid hF;have Hl:=hid hE.len;have Hl':=hid hF.len;have hm:n≤9223372036854775807:=Nat.le_trans hE.room hE.most;have hm':n'≤9223372036854775807:=Nat.le_trans hF.room hF.most;clear hE hF;by_cases hne:n=n'
 · subst hne;have hz:((n:Int) != (n:Int))=false:=by simp
   go_enter Tryz.func18,Tryz.ntmps18;go_wp2;go_loopw [5] (fun i wr=>∃k:Nat,k≤n∧i=.int .i64 k∧Below w.heap.size w wr∧Hid (∀j,j<k→zd v j=zd u j)) (fun i _=>n - (intOf i).toNat)
   case atStart=>exact⟨0,by omega,rfl,Below.refl _ _,fun j h=>by omega⟩
   case round=>
    obtain⟨k,hk,rfl,hb,ht⟩:=hrel;have Hb:=hid hb;clear hb;by_cases hkn:k<n
    · have HEr:=hid (HE.out.below Hb.out);have HFr:=hid (HF.out.below Hb.out);obtain⟨bb,oo,rfl⟩:=HEr.out.some (by omega);obtain⟨bd,od,rfl⟩:=HFr.out.some (by omega);obtain⟨x1,m1,e1,x2,m2,e2,hq⟩:=HEr.out.fix hkn;obtain⟨y1,l1,f1,y2,l2,f2,hp⟩:=HFr.out.fix hkn;have Hq:=hid hq;have Hp:=hid hp;have hC:=hid (fun w' (h:Below wr.heap.size wr w')=>znq x1 y1 m1 e1 l1 f1 (zd v k).1 (zd u k).1 w' (hq w' h).2.1 (hp w' h).2.1);have hD:=hid (fun w' (h:Below wr.heap.size wr w')=>zwu x2 y2 m2 e2 l2 f2 (zd v k).2 (zd u k).2 w' (hq w' h).2.2.2 (hp w' h).2.2.2)
      have Hst:=hid (show decide ((zd v k).1=(zd u k).1)=true→decide ((zd v k).2=(zd u k).2)=true→∀j,j<k+1→zd v j=zd u j from fun h h2 j hj=>by
       by_cases e:j=k
       · rw[e];exact Prod.ext (of_decide_eq_true h) (of_decide_eq_true h2)
       · exact ht.out j (by omega))
      have Hno1:=hid (show decide ((zd v k).1=(zd u k).1)=false→v≠u from fun h h2=>by rw[h2] at h;simp at h);have Hno2:=hid (show decide ((zd v k).2=(zd u k).2)=false→v≠u from fun h h2=>by rw[h2] at h;simp at h);have h0:(0:Int)≤k:=by omega
      have h04:(k:Int)<(n:Int):=by omega
      clear hq hp;generalize decide ((zd v k).1=(zd u k).1)=d1 at*;generalize decide ((zd v k).2=(zd u k).2)=d2 at*;generalize zd v k=f at*;generalize zd u k=g at*;go_wp2_with fail;go_cut [42] (fun t wc=>t=.bool (!d1 || !d2)∧Hid (Below wr.heap.size wr wc))
      case first=>
       refine vv (by kernel_rfl) (by kernel_rfl) ?_;cases d1 <;>
       (repeat (go_big_quiet_step ((intro hw;first
         | rfl
         | (have q0:=Hq.out _ hw
            have q1:=q0.1;have q2:=q0.2.2.1;have p0:=Hp.out _ hw;have p1:=p0.1;have p2:=p0.2.2.1;clear q0 p0
            first
            | (go_at_call 59;exact vu hw (hC.out _ hw))
            | (go_at_call 60;exact vu hw (hD.out _ hw))
            | (go_simp
               first | rfl | exact⟨rfl,hw⟩ | (trace_state;fail)))))))
       all_goals
        refine wpQuiet_nil ?_;intro w3 hb3;go_wp2;go_meet
        exact⟨rfl,hb3⟩
      case rest=>
       obtain⟨rfl,hb2⟩:=hcut;have Hb2:=hid (Hb.out.trans (hb2.out.mono Hb.out.size));clear hb2
       cases d1 with
       | false=>
        have Hs:=hid (show decide (v=u)=false from by rw[decide_eq_false_iff_not];exact Hno1.out rfl);rw[Bool.not_false,Bool.true_or];clear Hno1 Hno2 Hst;go_wp2;go_ret
        exact⟨by rw[Hs.out];rfl,Hb2.out⟩
       | true=>
        cases d2 with
        | true=>
         have Hs:=hid (Hst.out rfl rfl);rw[Bool.not_true,Bool.false_or];clear Hno1 Hno2 Hst;go_wp2;go_roundw
         case rel=>exact⟨k+1,by omega,by go_num,Hb2.out,Hs.out⟩
         case measure=>simp[intOf];omega
        | false=>
         have Hs:=hid (show decide (v=u)=false from by rw[decide_eq_false_iff_not];exact Hno2.out rfl);rw[Bool.not_true,Bool.not_false,Bool.false_or];clear Hno1 Hno2 Hst;go_wp2;go_ret;exact⟨by rw[Hs.out];rfl,Hb2.out⟩
    · obtain rfl:k=n:=by omega
      have Hs:=hid (show decide (v=u)=true from by
       rw[decide_eq_true_iff];refine List.ext_getElem (by rw[Hl.out,Hl'.out]) fun i h1 h2=>?_
       have:=ht.out i (by rw[←Hl.out];exact h1);rwa [yo h1,yo h2] at this)
      go_wp2;go_ret;exact⟨by rw[Hs.out];rfl,Hb.out⟩
 · have hz:((n:Int) != (n':Int))=true:=by rw[bne_iff_ne];omega
   have Hs:=hid (show decide (v=u)=false from by
    rw[decide_eq_false_iff_not];intro h;apply hne;rw[←Hl.out,←Hl'.out,h])
   clear hne;go_enter Tryz.func18,Tryz.ntmps18;go_wp2;go_ret;exact⟨by rw[Hs.out];rfl,Below.refl _ _⟩
theorem zww (l:List Nat) (p k x:Nat) (h:p+k<l.length):
 zh (l.drop (p+k)) k x=if zk k (nth l (p+k))=2 then (2,0,k+1) else if zk k (nth l (p+k))=1 then (1,ye x k (nth l (p+k)),k+1) else zh (l.drop (p+(k+1))) (k+1) (ye x k (nth l (p+k))):=by
 rw[zc4 l (p+k) h]
 rfl
theorem zwx (x k c:Nat) (hx:x<18446744073709551616):bits .or .u64 (x:Int) (IntKind.u64.wrap ((c:Int) % 128*2 ^ (7*k)))=((ye x k c:Nat):Int):=ziy x k c hx
def stG (E n s:Nat):Nat:=if s=0∧E≤n then 3 else s
set_option maxRecDepth 100000 in
theorem znr (a:Option Addr) (n cap p E:Nat) (l:List Nat) (w:World) (hB:Byts w a n cap l) (hp:p≤n) (hpE:p≤E) (hn0:n≤2000000000000000000) (hE0:E≤4000000000000000000):
 Calls Tryz.prog 76 #[.slice a n cap,.int .i64 p,.int .i64 E] w fun e w'=>e=.returned (.tuple #[.int .i64 (stG E n (zh ((l.take E).drop p) 0 0).1:Nat),.int .u64 ((zh ((l.take E).drop p) 0 0).2.1:Nat),.int .i64 ((p+(zh ((l.take E).drop p) 0 0).2.2:Nat):Int)])∧w=w':=by
 obtain⟨hn,hlt,hnc,hcm,hnil,hc⟩:=hB;clear hnil hcm;obtain⟨t,ht⟩:∃t,t=l.take E:=⟨_,rfl⟩;have Htl:=hid (show t.length=min E n by rw[ht,List.length_take,hn]);have Htn:=hid (fun i (h:i<E)=>show nth t i=nth l i by rw[ht];unfold nth;rw[List.getD_eq_getElem?_getD,List.getD_eq_getElem?_getD,List.getElem?_take_of_lt h]);rw[←ht];clear ht;have Hn:=hid hn;clear hn;have Hlt:=hid hlt;clear hlt;have Hc:=hid hc;clear hc;go_enter Tryz.func76,Tryz.ntmps76;go_wp2_with fail;go_loop [9,10,11] (fun y j _=>∃k x:Nat,p+k≤n∧p+k≤E∧k<10∧j=.int .i64 k∧y=.int .u64 x∧Hid (x<18446744073709551616)∧Hid (zh (t.drop p) 0 0=zh (t.drop (p+k)) k x)) (fun _ j _=>10 - (intOf j).toNat)
 case atStart=>exact⟨0,0,by omega,by omega,by omega,rfl,rfl,by show 0<18446744073709551616;omega,rfl⟩
 case round=>
  obtain⟨k,x,hk,hkE,hk10,rfl,rfl,hx,hS⟩:=hrel;have h10:decide ((k:Int)<10)=true:=by rw[decide_eq_true_iff];omega
  by_cases hkn:p+k<n∧p+k<E
  · obtain⟨hkn,hkE'⟩:=hkn;have hq1:decide ((E:Int)≤(p:Int)+(k:Int))=false:=by rw[decide_eq_false_iff_not];omega
    have hq2:decide ((n:Int)≤(p:Int)+(k:Int))=false:=by rw[decide_eq_false_iff_not];omega
    obtain⟨b,o,rfl,hcell⟩:=Hc.out (by omega);have hc:=hcell (p+k) hkn;clear hcell;have hnc:nth l (p+k)<256:=zeo Hlt.out (by omega) _;have hd:=zww t p k x (by rw[Htl.out];omega);rw[Htn.out _ hkE'] at hd;have Hd:=hid hd;clear hd;have Ho:=hid (fun c=>zwx x k c hx.out);have Hol:=hid (fun c=>zcw k c hx.out);generalize nth l (p+k)=c at*;by_cases hw:(k=9∧1<c)∨(0<k∧c=0)
    · have hns:zk k c=2:=if_pos hw;have Hfin:=hid (show zh (t.drop p) 0 0=(2,0,k+1) from by rw[hS.out,Hd.out,if_pos hns])
      have hb:((((k:Int) == 9) && decide (1<(c:Int))) || (decide (0<k) && ((c:Int) == 0)))=true:=by
       rcases hw with ⟨h1,h2⟩ | ⟨h1,h2⟩
       · have e1:((k:Int) == 9)=true:=by rw[beq_iff_eq];omega
         have e2:decide (1<(c:Int))=true:=by rw[decide_eq_true_iff];omega
         rw[e1,e2];rfl
       · have e1:decide (0<k)=true:=by rw[decide_eq_true_iff];omega
         have e2:((c:Int) == 0)=true:=by rw[beq_iff_eq];omega
         rw[e1,e2];simp
      rcases hw with ⟨h1,h2⟩ | ⟨h1,h2⟩
      · have e1:((k:Int) == 9)=true:=by rw[beq_iff_eq];omega
        have e2:decide (1<(c:Int))=true:=by rw[decide_eq_true_iff];omega
        clear hb h1;go_wp2_with fail;go_ret3
        refine⟨?_,rfl⟩;rw[Hfin.out]
        rfl
      · have e0:((c:Int) == 0)=true:=by rw[beq_iff_eq];omega
        have e1:decide (0<k)=true:=by rw[decide_eq_true_iff];omega
        have e2:decide (1<(c:Int))=false:=by rw[decide_eq_false_iff_not];omega
        clear hb h2;by_cases h9:k=9
        · have e3:((k:Int) == 9)=true:=by rw[beq_iff_eq];omega
          clear h9;go_wp2_with fail;go_ret3
          refine⟨?_,rfl⟩;rw[Hfin.out]
          rfl
        · have e3:((k:Int) == 9)=false:=by rw[beq_eq_false_iff_ne];omega
          go_wp2_with fail;go_ret3
          refine⟨?_,rfl⟩;rw[Hfin.out]
          rfl
    · have hns2:zk k c≠2:=by unfold zk;rw[if_neg hw];split <;> decide
      have hk9:k≠9∨c≤1:=by omega
      have hk0:k=0∨c≠0:=by omega
      clear hw;have HO:=hid (Ho.out c);have HL:=hid (Hol.out c)
      have e90:(((k:Int) == 9)=true∧decide (1<(c:Int))=false∧decide (0<k)=true∧((c:Int) == 0)=false)∨(((k:Int) == 9)=false∧decide (0<k)=true∧((c:Int) == 0)=false)∨(((k:Int) == 9)=false∧decide (0<k)=false):=by
       by_cases h9:k=9
       · left;exact⟨by rw[beq_iff_eq];omega,by rw[decide_eq_false_iff_not];omega,by rw[decide_eq_true_iff];omega,by rw[beq_eq_false_iff_ne];omega⟩
       · right;by_cases h0:k=0
         · right;exact⟨by rw[beq_eq_false_iff_ne];omega,by rw[decide_eq_false_iff_not];omega⟩
         · left;exact⟨by rw[beq_eq_false_iff_ne];omega,by rw[decide_eq_true_iff];omega,by rw[beq_eq_false_iff_ne];omega⟩
      clear hk9 hk0;by_cases h128:c<128
      · have hns:zk k c=1:=by
         rcases zd0 k c with h | h | h
         · unfold zk at h;rw[if_neg (fun hh=>hns2 (if_pos hh)),if_pos h128] at h;cases h
         · exact h
         · exact absurd h hns2
        have Hfin:=hid (show zh (t.drop p) 0 0=(1,ye x k c,k+1) from by rw[hS.out,Hd.out,if_neg hns2,if_pos hns]);have e5:decide ((c:Int)<128)=true:=by rw[decide_eq_true_iff];omega
        clear hns hns2;rcases e90 with ⟨e9,e9',e0,e0'⟩ | ⟨e9,e0,e0'⟩ | ⟨e9,e0⟩
        all_goals
         go_wp2_with fail;rw[HO.out];go_ret3
         refine⟨?_,rfl⟩;rw[Hfin.out]
         rfl
      · have hns:zk k c=0:=by
         rcases zd0 k c with h | h | h
         · exact h
         · unfold zk at h;rw[if_neg (fun hh=>hns2 (if_pos hh)),if_neg h128] at h;cases h
         · exact absurd h hns2
        have hk9':k≠9:=fun e=>zgv c (by rw[←e];exact hns)
        have HS2:=hid (show zh (t.drop p) 0 0=zh (t.drop (p+(k+1))) (k+1) (ye x k c) from by rw[hS.out,Hd.out,if_neg hns2,if_neg (by rw[hns];decide)]);have e5:decide ((c:Int)<128)=false:=by rw[decide_eq_false_iff_not];omega
        clear hns hns2;rcases e90 with ⟨e9,e9',e0,e0'⟩ | ⟨e9,e0,e0'⟩ | ⟨e9,e0⟩
        all_goals
         go_wp2_with fail;rw[HO.out];go_round
         case rel=>exact⟨k+1,_,by omega,by omega,by omega,by go_num,rfl,HL,HS2⟩
         case measure=>simp[intOf];omega
  · have Hfin:=hid (show zh (t.drop p) 0 0=(0,0,k) from by rw[hS.out,List.drop_eq_nil_of_le (by rw[Htl.out];omega)];rfl);by_cases hkE':p+k<E
    · have Hst:=hid (show stG E n 0=0 from if_neg (fun h=>by have:=h.2;omega));have hq1:decide ((E:Int)≤(p:Int)+(k:Int))=false:=by rw[decide_eq_false_iff_not];omega
      have hq2:decide ((n:Int)≤(p:Int)+(k:Int))=true:=by rw[decide_eq_true_iff];omega
      clear hkn;go_wp2_with fail;go_ret3
      refine⟨?_,rfl⟩;rw[Hfin.out,Hst.out]
      rfl
    · have Hst:=hid (show stG E n 0=3 from if_pos ⟨rfl,by omega⟩);have hq1:decide ((E:Int)≤(p:Int)+(k:Int))=true:=by rw[decide_eq_true_iff];omega
      clear hkn;go_wp2_with fail;go_ret3
      refine⟨?_,rfl⟩;rw[Hfin.out,Hst.out]
      rfl
theorem zwy {v:Vec} {k:Nat}:(jn v k).length≤(zi v).length:=by
 unfold jn zi;rw[List.length_cons,List.length_cons];have h:v.flatMap qu=(v.take k).flatMap qu++(v.drop k).flatMap qu:=by rw[←List.flatMap_append,List.take_append_drop]
 rw[h,List.length_append];omega
set_option maxRecDepth 20000 in
theorem zns (a:Option Addr) (n cap:Nat) (v:Vec) (w:World) (hE:Ents w a n cap v) (hN:(zi v).length≤1000000000000):
 Calls Tryz.prog 135 #[.slice a n cap] w fun x w'=>(∃y,x=.returned y∧w'.ownsRow w.heap.size 43 1 y (zi v).length (z7 (zi v)))∧Below w.heap.size w w':=by
 have HE:=hid hE;have HN:=hid hN;have Hl:=hid hE.len;have hm:n≤9223372036854775807:=Nat.le_trans hE.room hE.most;have hw:IntKind.u64.wrap (n:Int)=(n:Int):=by rw[IntKind.wrap_u64];omega
 have ho0:=World.ownsRow_lit (e:=43) (size:=1) (base:=w.heap.size) w (z7 [n]).toArray 1 (Nat.le_refl _) (by unfold maxLen;omega) rfl;have Ho0:=hid ho0;have hb0:Below w.heap.size w (w.alloc (.cells (z7 [n]).toArray 43)):=(Below.refl _ _).alloc (Nat.le_refl _) _;clear hE hN ho0;go_enter Tryz.func135,Tryz.ntmps135;go_wp2;go_loopw [3,4,5] (fun y i _ wr=>∃k:Nat,k≤n∧i=.int .i64 k∧Below w.heap.size w wr∧Hid (wr.ownsRow w.heap.size 43 1 y (jn v k).length (z7 (jn v k)))) (fun _ i _ _=>n - (intOf i).toNat)
 case atStart=>exact⟨0,by omega,rfl,hb0,by
  have:=Ho0.out;rw[show jn v 0=[n] from by unfold jn;rw[Hl.out];rfl];exact this⟩
 case round=>
  obtain⟨k,hk,rfl,hb,ho⟩:=hrel;have Hb:=hid hb;clear hb;by_cases hkn:k<n
  · have hkv:k<v.length:=by rw[Hl.out];exact hkn
    obtain⟨bb,oo,rfl⟩:=HE.out.some (by omega);obtain⟨x,m,c,hq⟩:=HE.out.fix hkn;have Hst:=hid (zjv hkv);have Hpl:=hid (zwy (v:=v) (k:=k+1));obtain⟨-,-,-,hIv⟩:=hq _ (Below.refl _ _);have HIv:=hid hIv;obtain⟨P1,hP1⟩:∃P1,jn v (k+1)=P1:=⟨_,rfl⟩;rw[hP1] at Hst Hpl;have HP1:=hid hP1;clear hP1;generalize jn v k=P at*;generalize zg v k=e at*;obtain⟨er,em,eh⟩:=e;simp only at hq HIv hIv;have Hel:=hid hIv.len;have hcm:m≤9223372036854775807:=Nat.le_trans hIv.room hIv.most;have hwm:IntKind.u64.wrap (m:Int)=(m:Int):=by rw[IntKind.wrap_u64];omega
    have Hlen:=hid (show P.length+3+2*m≤1000000000000 from by
     have h1:=Hpl.out;have h2:=HN.out;rw[Hst.out,List.length_append] at h1;simp only[qu,List.length_cons,zff,Hel.out] at h1;omega)
    have hbr:Below w.heap.size w wr:=Hb.out;have r1:∀w',Below w.heap.size wr w'→w'.cell? ⟨bb,oo+k*3,none⟩=some (.int .u64 er):=fun w' h=>(hq w' (hbr.trans h)).1
    have r2:∀w',Below w.heap.size wr w'→w'.cell? ⟨bb,oo+k*3+1,none⟩=some (.int .u64 em):=fun w' h=>(hq w' (hbr.trans h)).2.1
    have r3:∀w',Below w.heap.size wr w'→w'.cell? ⟨bb,oo+k*3+2,none⟩=some (.slice x m c):=fun w' h=>(hq w' (hbr.trans h)).2.2.1
    have h0:(0:Int)≤k:=by omega
    have h04:(k:Int)<(n:Int):=by omega
    have HoW:=hid (fun W (h:Below wr.heap.size wr W)=>yf ho.out h);clear hIv;go_wp2_with fail;have hz:w.heap.size≤wr.heap.size:=Hb.out.size;have R3:=hid (fun w' (h:Below w.heap.size w w')=>(hq w' h).2.2.1);clear hq
    go_region_held3 (fun w'=>Below w.heap.size wr w') (first | assumption | exact(Below.refl _ _).drew | exact Below.alloc (by assumption) (Nat.le_trans hz (Below.size (by assumption))) _) (first
     | (refine znp rfl (.tmp 16) (.tmp 34) rfl rfl w.heap.size _ P.length P rfl (HoW.out _ (by first | exact((Below.refl _ _).alloc (Nat.le_refl _) _).drew | exact((Below.refl _ _).drew).alloc (by simp) _)) _ 3 _ [er,em,m] rfl (kx (by first | exact qi _ _ _ (by simp) | exact znl _ _ _ _ (qi _ _ _ (by simp))) rfl rfl) (by have:=Hlen.out;omega) (by simp <;> omega) ?_
        intro v1 w1 ho1 hg1
        have hS1:Below w.heap.size wr w1:=by
         refine Below.grown (B:=w.heap.size) (by assumption) hg1 (by simp <;> omega) ?_;intro j hj;exact((HoW.out wr (Below.refl _ _)).lt j hj).1))
    all_goals
     have Hb1:=hid (hbr.trans hS1);have Ho1:=hid ho1;clear hS1 hg1 ho1;go_wp2;go_loopw [3,5] (fun y j wi=>∃d:Nat,d≤m∧j=.int .i64 d∧Below w.heap.size w wi∧Hid (wi.ownsRow w.heap.size 43 1 y (P++[er,em,m]++y9 (eh.take d)).length (z7 (P++[er,em,m]++y9 (eh.take d))))) (fun _ j _=>m - (intOf j).toNat)
     case atStart=>exact⟨0,by omega,rfl,Hb1.out,by
      have:=Ho1.out;rw[show (P++[er,em,m]++y9 (eh.take 0))=P++[er,em,m] from by simp[y9]];rw[List.length_append];exact this⟩
     case round=>
      obtain⟨d,hd,rfl,hbi,hoi⟩:=hrel;have Hbi:=hid hbi;clear hbi;have s3:=R3.out wr Hbi.out;have Hel2:=hid (show d<m→y9 (eh.take (d+1))=y9 (eh.take d)++[(zc eh d).1,(zc eh d).2] from fun h=>zjx eh d (by rw[Hel.out];exact h))
      have Hnl:=hid (show (P++[er,em,m]++y9 (eh.take d)).length≤P.length+3+2*d from by
       rw[List.length_append,List.length_append,zff,List.length_take];simp only[List.length_cons,List.length_nil];omega)
      by_cases hdm:d<m
      · obtain⟨hb,ho,rfl,hc⟩:=HIv.out.cells (by omega);obtain⟨c1,c2⟩:=hc d hdm;clear hc;have Hel2:=hid (Hel2.out hdm);generalize y9 (eh.take d)=N at*;generalize zc eh d=p at*;obtain⟨px,py⟩:=p;simp only at c1 c2 Hel2;have h0d:(0:Int)≤d:=by omega
        have h04d:(d:Int)<(m:Int):=by omega
        obtain⟨wz,hwz⟩:∃wz:World,wz=wr:=⟨_,rfl⟩;have hz2:w.heap.size≤wr.heap.size:=Hbi.out.size;have s1:∀w',Below w.heap.size wr w'→w'.cell? ⟨bb,oo+k*3+2,none⟩=some (.slice (some ⟨hb,ho,none⟩) m c):=fun w' h=>R3.out w' (Hbi.out.trans h)
        have s4:∀w',Below w.heap.size wr w'→w'.cell? ⟨hb,ho+d*2,none⟩=some (.int .u64 px):=fun w' h=>((Hbi.out.trans h).cell (p:=⟨hb,ho+d*2,none⟩) (ze c1)).trans c1
        have s5:∀w',Below w.heap.size wr w'→w'.cell? ⟨hb,ho+d*2+1,none⟩=some (.int .u64 py):=fun w' h=>((Hbi.out.trans h).cell (p:=⟨hb,ho+d*2+1,none⟩) (ze c2)).trans c2
        have HoI:=hid (fun W (h:Below wr.heap.size wr W)=>yf hoi.out h);clear c1 c2 hwz;go_wp2_with fail;clear s3
        go_region_held3 (fun w'=>Below w.heap.size wr w') (first | assumption | exact(Below.refl _ _).drew | exact Below.alloc (by assumption) (Nat.le_trans hz2 (Below.size (by assumption))) _) (first
         | (refine znp rfl (.tmp 46) (.tmp 65) rfl rfl w.heap.size _ _ (P++[er,em,m]++N) rfl (HoI.out _ (by first | exact((Below.refl _ _).alloc (Nat.le_refl _) _).drew | exact((Below.refl _ _).drew).alloc (by simp) _)) _ 2 _ [px,py] rfl (kx (by first | exact qi _ _ _ (by simp) | exact znl _ _ _ _ (qi _ _ _ (by simp))) rfl rfl) (by have:=Hlen.out;have:=Hnl.out;omega) (by simp <;> omega) ?_
            intro v2 w2 ho2 hg2
            have hS2:Below w.heap.size wr w2:=by
             refine Below.grown (B:=w.heap.size) (by assumption) hg2 (by simp <;> omega) ?_;intro j hj;exact((HoI.out wr (Below.refl _ _)).lt j hj).1))
        all_goals
         go_wp2;go_roundw
         case rel=>exact⟨d+1,by omega,by go_num,Hbi.out.trans hS2,by
          rw[Hel2.out,←List.append_assoc];rw[List.length_append (bs:=[px,py])];exact ho2⟩
         case measure=>simp[intOf];omega
      · obtain rfl:d=m:=by omega
        have Hoi:=hid hoi.out
        have hall:P++[er,em,d]++y9 (eh.take d)=P1:=by
         rw[Hst.out,List.take_of_length_le (by rw[Hel.out];exact Nat.le_refl _),List.append_assoc];simp only[qu,Hel.out]
         rfl
        rw[hall] at Hoi;clear hall;go_wp2;go_roundw
        case rel=>exact⟨k+1,by omega,by go_num,Hbi.out,by rw[HP1.out];exact Hoi.out⟩
        case measure=>simp[intOf];omega
  · obtain rfl:k=n:=by omega
    have Ho:=hid ho.out;rw[←Hl.out,zjw] at Ho;go_wp2;go_ret;exact⟨⟨_,rfl,Ho.out⟩,Hb.out⟩
theorem zwz (w:World):Calls Tryz.prog 119 #[] w fun e w'=>e=.returned (.slice (some ⟨w.heap.size,0,none⟩) 5 5)∧w'=w.alloc (.cells (u8s qh).toArray 5):=by
 go_enter Tryz.func119,Tryz.ntmps119;go_wp2;go_ret;exact⟨rfl,rfl⟩
theorem zw0 (a:Option Addr) (n cap p q:Nat) (l:List Nat) (w:World) (hB:Byts w a n cap l) (hp:p≤n) (hq:n+50≤q) (hn:n≤2000000000000000000) (hs:q≤4000000000000000000):
 Calls Tryz.prog 76 #[.slice a n cap,.int .i64 p,.int .i64 q] w fun e w'=>e=.returned (.tuple #[.int .i64 ((zh (l.drop p) 0 0).1:Nat),.int .u64 ((zh (l.drop p) 0 0).2.1:Nat),.int .i64 ((p+(zh (l.drop p) 0 0).2.2:Nat):Int)])∧w=w':=by
 have h:=znr a n cap p q l w hB hp (by omega) hn hs;rw[List.take_of_length_le (by rw[hB.len];omega),show ∀k,stG q n k=k from fun k=>if_neg (fun h=>by have:=h.2;omega)] at h;exact h
