/- Part 19. -/
import Derived.Test.YtmfhggnlainmiaaGreatDoorPk14
set_option linter.unusedVariables false
set_option maxHeartbeats 16000000
namespace Go.Proofs.YtmfhggnlainmiaaGreatDoor
open Lib (hid)
section
open Go.RowKit
def zl1 (x:Nat):Nat:=x / 2 ^^^ (x % 2*3988292384)
def zhr:Nat→Nat→Nat
 | 0,x=>x
 | k+1,x=>zl1 (zhr k x)
def zl2 (x c:Nat):Nat:=zhr 8 (x ^^^ c)
def reg (x:Nat) (l:List Nat):Nat:=l.foldl zl2 x
def sum (l:List Nat):Nat:=4294967295 ^^^ reg 4294967295 l
theorem zl3 {a b:Nat} (h:a<4294967296) (k:b<4294967296):a ^^^ b<4294967296:=by
 have h':a<2 ^ 32:=by simpa using h
 have k':b<2 ^ 32:=by simpa using k
 simpa using Nat.xor_lt_two_pow h' k'
theorem ycd {x:Nat} (h:x<4294967296):zl1 x<4294967296:=
 zl3 (by omega) (by omega)
theorem zz8 (k:Nat) {x:Nat} (h:x<4294967296):zhr k x<4294967296:=by
 induction k with
 | zero=>exact h
 | succ k ih=>exact ycd ih
theorem yce {x c:Nat} (h:x<4294967296) (hc:c<256):zl2 x c<4294967296:=by
 refine zz8 8 ?_;exact zl3 h (by omega)
theorem zi2 {x:Nat} {l:List Nat} (h:x<4294967296) (hl:∀c∈l,c<256):reg x l<4294967296:=by
 induction l generalizing x with
 | nil=>exact h
 | cons c l ih=>exact ih (yce h (hl c (by simp))) (fun d hd=>hl d (by simp[hd]))
theorem zz9 (x:Nat) (a b:List Nat):reg x (a++b)=reg (reg x a) b:=by simp[reg,List.foldl_append]
theorem z0a (x:Nat) (l:List Nat) (k:Nat) (h:k<l.length):reg x (l.take (k+1))=zl2 (reg x (l.take k)) (nth l k):=by
 rw[znk l k h,zz9];rfl
theorem ycf (x:Nat): -((x % 2:Nat):Int) % 4294967296=(((x % 2)*4294967295:Nat):Int):=by
 rcases Nat.mod_two_eq_zero_or_one x with h | h <;> rw[h] <;> rfl
theorem ycg (x:Nat) (hx:x<4294967296):x &&& 4294967295=x:=by
 rw[show 4294967295=2 ^ 32 - 1 by decide,Nat.and_two_pow_sub_one_eq_mod];exact Nat.mod_eq_of_lt hx
theorem ych (x:Nat) (hx:x<4294967296):bits .and .u32 (x:Int) 1=((x % 2:Nat):Int):=by
 have h:=u32_and_nat x 1 hx (by omega);rw[Nat.and_one_is_mod] at h;exact h
theorem yci (x:Nat):bits .and .u32 3988292384 (((x % 2)*4294967295:Nat):Int)=((x % 2*3988292384:Nat):Int):=by
 have h:=u32_and_nat 3988292384 (x % 2*4294967295) (by omega) (by omega);refine h.trans ?_;congr 1;rcases Nat.mod_two_eq_zero_or_one x with h | h <;> rw[h]
 · simp
 · rw[Nat.one_mul,Nat.one_mul];exact ycg _ (by decide)
theorem ycj (x:Nat) (hx:x<4294967296):
 bits .xor .u32 ((x:Int) / 2) (bits .and .u32 3988292384 (-bits .and .u32 (x:Int) 1 % 4294967296))=((zl1 x:Nat):Int):=by
 rw[ych x hx,ycf,yci];have h:=u32_xor_nat (x / 2) (x % 2*3988292384) (by omega) (by omega);rw[←show (((x / 2:Nat)):Int)=(x:Int) / 2 from by simp];exact h
theorem z0b (x:Nat) (hx:x<4294967296):bits .xor .u32 IntKind.u32.max (x:Int)=((4294967295 ^^^ x:Nat):Int):=u32_xor_nat 4294967295 x (by omega) hx
theorem yck (x c:Nat) (hx:x<4294967296) (hc:c<256):bits .xor .u32 (x:Int) (c:Int)=((zhr 0 (x ^^^ c):Nat):Int):=
 u32_xor_nat x c hx (by omega)
theorem not_lt {x:Nat} (hx:x<4294967296):4294967295 ^^^ x<4294967296:=by
 exact zl3 (by omega) hx
theorem ycl (w:World) (cs:List Value) (T:TypeId) (j:Nat) (u:Value) (h:cs[j]?=some u):(w.alloc (.cells cs.toArray T)).cell? ((⟨w.heap.size,0,none⟩:Addr).add j)=some u:=by
 rw[qg];have h1:(w.alloc (.cells cs.toArray T)).heap[w.heap.size]?=some (.cells cs.toArray T):=Array.getElem?_push_size;simp only[World.cell?,h1];simpa using h
end
section
def qw:List Nat:=[75,78,87,76,1]
def za0 (l:List Nat) (p i:Nat):Option (Nat×Nat):=
 if l.length≤p+i then some (5,p)
 else if nth l (p+i)=nth qw i then none
 else some (if i=4 then 13 else 12,p+i)
def zar (l:List Nat) (p:Nat):Option (Nat×Nat):=[0,1,2,3,4].findSome? (za0 l p)
theorem zfc {l:List Nat} {p i:Nat} {e:Nat×Nat} (hi:i<5) (h:∀j,j<i→za0 l p j=none) (he:za0 l p i=some e):zar l p=some e:=by
 unfold zar;obtain rfl | rfl | rfl | rfl | rfl:i=0∨i=1∨i=2∨i=3∨i=4:=by omega
 · simp[List.findSome?,he]
 · simp[List.findSome?,he,h 0 (by omega)]
 · simp[List.findSome?,he,h 0 (by omega),h 1 (by omega)]
 · simp[List.findSome?,he,h 0 (by omega),h 1 (by omega),h 2 (by omega)]
 · simp[List.findSome?,he,h 0 (by omega),h 1 (by omega),h 2 (by omega),h 3 (by omega)]
theorem zov {l:List Nat} {p:Nat} (h:∀j,j<5→za0 l p j=none):zar l p=none:=by
 unfold zar;simp[List.findSome?,h 0 (by omega),h 1 (by omega),h 2 (by omega),h 3 (by omega),h 4 (by omega)]
theorem zgw {l:List Nat} {p i:Nat} (h:l.length≤p+i):za0 l p i=some (5,p):=if_pos h
theorem zhs {l:List Nat} {p i:Nat} (h:p+i<l.length) (e:nth l (p+i)=nth qw i):za0 l p i=none:=by
 unfold za0;rw[if_neg (by omega),if_pos e]
theorem zow {l:List Nat} {p i:Nat} (h:p+i<l.length) (e:nth l (p+i)≠nth qw i):za0 l p i=some (if i=4 then 13 else 12,p+i):=by
 unfold za0;rw[if_neg (by omega),if_neg e]
theorem zgx {l:List Nat} (h:∀x∈l,x<256):sum l<4294967296:=not_lt (zi2 (by omega) h)
end
section
open Go.RowKit
def jo (x:Nat):List Nat:=[x % 256,x / 256 % 256,x / 65536 % 256,x / 16777216]
theorem zht {x:Nat} (hx:x<4294967296):∀b∈jo x,b<256:=by
 intro b hb;simp[jo] at hb;omega
def zhu (s:Nat):Nat→Array Value
 | 0=> #[.int .u8 0,.int .u8 0,.int .u8 0,.int .u8 0]
 | 1=> #[.int .u8 ((s:Int) % 256),.int .u8 0,.int .u8 0,.int .u8 0]
 | 2=> #[.int .u8 ((s:Int) % 256),.int .u8 ((s:Int) / 256 % 256),.int .u8 0,.int .u8 0]
 | 3=> #[.int .u8 ((s:Int) % 256),.int .u8 ((s:Int) / 256 % 256),.int .u8 ((s:Int) / 65536 % 256),.int .u8 0]
 | _=> #[.int .u8 ((s:Int) % 256),.int .u8 ((s:Int) / 256 % 256),.int .u8 ((s:Int) / 65536 % 256),.int .u8 ((s:Int) / 16777216)]
theorem z0c (s:Nat):zhu s 4=(u8s (jo s)).toArray:=by simp[zhu,u8s,jo]
theorem z0d (s:Nat):zhu s 0= #[.int .u8 0,.int .u8 0,.int .u8 0,.int .u8 0]:=rfl
theorem z0e (s:Nat):zhu s 1= #[.int .u8 ((s:Int) % 256),.int .u8 0,.int .u8 0,.int .u8 0]:=rfl
theorem z0f (s:Nat):zhu s 2= #[.int .u8 ((s:Int) % 256),.int .u8 ((s:Int) / 256 % 256),.int .u8 0,.int .u8 0]:=rfl
theorem z0g (s:Nat):zhu s 3= #[.int .u8 ((s:Int) % 256),.int .u8 ((s:Int) / 256 % 256),.int .u8 ((s:Int) / 65536 % 256),.int .u8 0]:=rfl
theorem zox (v:Value) (n base:Nat) (xs:List Value) (s:Nat) (w:World) (hs:s<4294967296) (hown:w.ownsRow base 5 1 v n xs) (hbase:base≤w.heap.size) (hn:n≤140737488355000):
 Calls Tryz.prog 127 #[v,.int .u32 s] w fun e w'=>∃v',e=.returned v'∧w'.ownsRow base 5 1 v' (n+4) (xs++u8s (jo s))∧w.grownBy w' v.ownBlock:=by
 obtain⟨i0,hi,hz0,hz1,hz2⟩:=info_parts Tryz.info_u8;have H4:=hid (z0c s);have Hg:=hid (World.grownBy_alloc w);go_enter Tryz.func127,Tryz.ntmps127;go_wp2;go_loopw [6,7] (fun _ i wr=>∃k:Nat,k≤4∧i=.int .i64 k∧wr=w.alloc (.cells (zhu s k) 102)) (fun _ i _=>4 - (intOf i).toNat)
 case atStart=>exact⟨0,by omega,rfl,rfl⟩
 case round=>
  obtain⟨k,hk,rfl,rfl⟩:=hrel;by_cases hk4:k<4
  · obtain rfl | rfl | rfl | rfl:k=0∨k=1∨k=2∨k=3:=by omega
    · rw[z0d];go_wp2;go_roundw
      case rel=>exact⟨1,by omega,rfl,rfl⟩
      case measure=>simp[intOf]
    · rw[z0e];go_wp2;go_roundw
      case rel=>exact⟨2,by omega,rfl,rfl⟩
      case measure=>simp[intOf]
    · rw[z0f];go_wp2;go_roundw
      case rel=>exact⟨3,by omega,rfl,rfl⟩
      case measure=>simp[intOf]
    · rw[z0g];go_wp2;go_roundw
      case rel=>exact⟨4,by omega,rfl,rfl⟩
      case measure=>simp[intOf]
  · obtain rfl:k=4:=by omega
    rw[H4.out];go_wp2_with (at_builtin;refine wpList_append_own _ rfl _ _ 22 rfl base 5 i0 (.int .u8 0) 1 1 Tryz.underlying22 hi hz0 hz1 hz2 rfl (by decide) v n xs rfl (hown.alloc _) ⟨w.heap.size,0,none⟩ 4 4 (u8s (jo s)) rfl rfl ?c1 ?c2 ?c3 ?c4 ?c5 ?_)
    case c1=>exact fun j u h=>ycl _ _ _ _ _ h
    case c2=>simp[u8s,jo,Value.oneCell']
    case c3=>unfold maxLen;omega
    case c4=>omega
    case c5=>simp;omega
    intro v' w1 hown' hgrow _;go_wp2;go_ret;exact⟨v',rfl,hown',zw (Hg.out _ _) hgrow⟩
theorem z0h (b o s:Nat) (a:Option Addr) (n cap:Nat) (l:List Nat) (w:World) (hB:Byts w a n cap l) (hs32:s<4294967296)
 (hs:w.cell? ⟨b,o,none⟩=some (.int .u32 s)) (hf:w.frozen? ⟨b,o,none⟩=false):
 Calls Tryz.prog 171 #[.pointer (some ⟨b,o,none⟩),.slice a n cap] w fun e w'=>
  e=.returned (.tuple #[])∧w'=w.setCell ⟨b,o,none⟩ (.int .u32 ((4294967295 ^^^ reg (4294967295 ^^^ s) l:Nat):Int)):=by
 obtain⟨hn,hlt,hnc,hcm,hnil,hc⟩:=hB;clear hnil;have hm:n≤9223372036854775807:=by omega
 have Hn:=hid hn;clear hn;have Hlt:=hid hlt;clear hlt;have Hc:=hid hc;clear hc;have Hx:=hid (z0b s hs32);have hx32:=not_lt hs32;have Hx32:=hid hx32;clear hx32;go_enter Tryz.func171,Tryz.ntmps171;go_wp2;rw[Hx.out];go_loop [4,16] (fun x i=>∃k:Nat,k≤n∧i=.int .i64 k∧x=.int .u32 ((reg (4294967295 ^^^ s) (l.take k):Nat):Int)) (fun _ i=>n - (intOf i).toNat)
 case atStart=>exact⟨0,by omega,rfl,rfl⟩
 case round=>
  obtain⟨k,hk,rfl,rfl⟩:=hrel;by_cases hkn:k<n
  · obtain⟨cb,co,rfl,hcell⟩:=Hc.out (by omega);have hc:=hcell k hkn;clear hcell;have hr:reg (4294967295 ^^^ s) (l.take k)<4294967296:=zi2 Hx32.out (fun c hc=>Hlt.out c (List.mem_of_mem_take hc));have hnc:nth l k<256:=zfo Hlt.out (by omega) k;have Hs:=hid (z0a (4294967295 ^^^ s) l k (by rw[Hn.out];exact hkn));generalize hR:reg (4294967295 ^^^ s) (l.take k)=R at*;generalize hC:nth l k=c at*;have Hb:=hid (yck R c hr hnc);clear hR hC;go_wp2;rw[Hb.out];go_loop [4,24] (fun x j=>∃i:Nat,i≤8∧j=.int .i64 i∧x=.int .u32 ((zhr i (R ^^^ c):Nat):Int)) (fun _ j=>8 - (intOf j).toNat)
    case atStart=>exact⟨0,by omega,rfl,rfl⟩
    case round=>
     obtain⟨i,hi,rfl,rfl⟩:=hrel;have hX:=zz8 i (zl3 hr (Nat.lt_trans hnc (by omega)));by_cases hi8:i<8
     · have Hst:=hid (ycj _ hX);go_wp2;rw[Hst.out];go_round
       case rel=>exact⟨i+1,by omega,by go_num,rfl⟩
       case measure=>simp[intOf];omega
     · obtain rfl:i=8:=by omega
       go_wp2;go_round
       case rel=>exact⟨k+1,by omega,by go_num,by rw[Hs.out];rfl⟩
       case measure=>simp[intOf];omega
  · obtain rfl:k=n:=by omega
    have hr:reg (4294967295 ^^^ s) (l.take k)<4294967296:=zi2 Hx32.out (fun c hc=>Hlt.out c (List.mem_of_mem_take hc));have Hr:=hid (z0b _ hr);go_wp2;rw[Hr.out];go_end0
    refine⟨rfl,?_⟩;rw[List.take_of_length_le (by rw[Hn.out];omega)]
def zaa (l:List Nat):List Nat:=qw++yp l.length++l++jo (sum l)
theorem zgy (l:List Nat):(zaa l).length=5+(yp l.length).length+l.length+4:=by
 simp[zaa,qw,jo];omega
theorem zsu (v:Value) (n base:Nat) (xs:List Value) (x:Nat) (w:World) (hx:x<18446744073709551616) (hown:w.ownsRow base 5 1 v n xs) (hbase:base≤w.heap.size) (hn:n≤140737488355000):
 Calls Tryz.prog 124 #[v,.int .u64 x] w fun e w'=>∃v',e=.returned v'∧w'.ownsRow base 5 1 v' (n+(yp x).length) (xs++u8s (yp x))∧Below base w w':=by
 have hlen:=zdc 9 x;have hpos:=ze0 9 x;have Ho:=hid hown;clear hown;have Hx:=hid hx;clear hx;go_enter Tryz.func124,Tryz.ntmps124;go_wp2_with fail;refine(zjq x w Hx.out).mono ?_;rintro e w' ⟨rfl,rfl⟩;rw[zgd];generalize hL:(vbF 9 x).length=L at*;have HL:=hid hL;clear hL;go_wp2_with fail
 go_loopw [0,1,8] (fun v y i wr=>∃j m k:Nat,j+1≤L∧i=.int .i64 j∧y=.int .u64 m∧Hid (m<18446744073709551616)∧Below base w wr∧base≤wr.heap.size∧j+(vbF k m).length=L∧
  Hid (∃p:List Nat,p.length=j∧vbF 9 x=p++vbF k m∧wr.ownsRow base 5 1 v (n+j) (xs++u8s p))) (fun _ _ i _=>L - (intOf i).toNat)
 case atStart=>exact⟨0,x,9,by omega,rfl,rfl,Hx.out,Below.refl _ _,hbase,by rw[HL.out];omega,[],rfl,rfl,by have:=Ho.out;simpa [u8s] using this⟩
 case round=>
  obtain⟨j,m,k,hj,rfl,rfl,hm,hb,hbs,hjl,hp⟩:=hrel;by_cases hjL:j<L - 1
  · have hlt:decide ((j:Int)<(L:Int) - 1)=true:=by rw[decide_eq_true_iff];omega
    obtain⟨k',rfl,h128,hcons⟩:=zre (k:=k) (x:=m) (by omega);obtain⟨p,hpl,hpx,hpo⟩:=hp.out;have Hpo:=hid hpo;clear hpo;have Hcons:=hid hcons;clear hcons;have Hjl:=hid hjl;clear hjl;have Hpl:=hid hpl;clear hpl;have Hpx:=hid hpx;clear hpx;have hbit:=zrh m hm.out;have hq256:m % 128+128<256:=by omega
    generalize m % 128+128=q at*;obtain⟨v',w1,hr,ho1,hg1⟩:=zdd base _ (n+j) _ (Hpo.out.alloc (.cells #[.int .u8 (q:Int)] 5)) (some ⟨wr.heap.size,0,none⟩) 1 1 [q] (zcn _ _ 1 _ [q] _ _ rfl rfl rfl (by intro x hx;simp at hx;omega) (by omega)) (by omega) (by simp only[World.size_alloc];omega);have Ho1:=hid ho1;clear ho1;have hb1:Below base w w1:=(hb.alloc hbs _).grown hg1 (by simp only[World.size_alloc];omega) (fun k hk=>(Hpo.out.lt k hk).1);have hs1:base≤w1.heap.size:=by have:=hg1.size;simp only[World.size_alloc] at this;omega
    clear hg1 Hpo;go_wp2_with (at_builtin;refine qf _ _ 22 rfl rfl _ _ rfl rfl _ _ hr ?_);clear hr;go_roundw
    case rel=>
     refine⟨j+1,m / 128,k',by omega,by go_num,by go_num,(by have:=hm.out;show m / 128<_;omega),hb1,hs1,?_,p++[q],?_,?_,?_⟩
     · have:=Hjl.out;rw[Hcons.out] at this;simp at this;omega
     · have:=Hpl.out;simp[this]
     · rw[Hpx.out,Hcons.out];simp
     · have:=Ho1.out;rw[List.append_assoc,←zds] at this;exact this
    case measure=>simp[intOf];omega
  · have hge:decide ((j:Int)<(L:Int) - 1)=false:=by rw[decide_eq_false_iff_not];omega
    obtain⟨p,hpl,hpx,hpo⟩:=hp.out;have Hpo:=hid hpo;clear hpo;have h1:(vbF k m).length=1:=by have:=ze0 k m;omega
    have e1:=zrf h1;have Hfin:=hid (show yp x=p++[m % 256] from by rw[zgd,hpx,e1]);have Hpl:=hid hpl;clear hpl hpx h1 e1;have Hjl:=hid hjl;clear hjl;have hq256:m % 256<256:=by omega
    have hmq:((m:Int) % 256)=((m % 256:Nat):Int):=by omega
    generalize m % 256=q at*;obtain⟨v',w1,hr,ho1,hg1⟩:=zdd base _ (n+j) _ (Hpo.out.alloc (.cells #[.int .u8 (q:Int)] 5)) (some ⟨wr.heap.size,0,none⟩) 1 1 [q] (zcn _ _ 1 _ [q] _ _ rfl rfl rfl (by intro x hx;simp at hx;omega) (by omega)) (by omega) (by simp only[World.size_alloc];omega);have Ho1:=hid ho1;clear ho1;have hb1:Below base w w1:=(hb.alloc hbs _).grown hg1 (by simp only[World.size_alloc];omega) (fun k hk=>(Hpo.out.lt k hk).1);clear hg1 Hpo;go_wp2_with (at_builtin;refine qf _ _ 22 rfl rfl _ _ rfl rfl _ _ hr ?_);go_ret;refine⟨v',rfl,?_,hb1⟩;have h2:=Ho1.out;rw[List.append_assoc,←zds] at h2;rw[Hfin.out];have h3:n+(p++[q]).length=n+j+1:=by have:=Hpl.out;simp[this];omega
    rw[h3];exact h2
theorem z0i (p:Addr) (s:Nat) (w:World) (hs:w.cell? p=some (.int .u32 s)):
 Calls Tryz.prog 172 #[.pointer (some p)] w fun e w'=>e=.returned (.int .u32 (s:Int))∧w=w':=by
 obtain⟨b,o,sp⟩:=p;go_enter Tryz.func172,Tryz.ntmps172;go_wp2;go_ret;exact⟨rfl,rfl⟩
theorem zoy (a:Option Addr) (n cap:Nat) (l:List Nat) (w:World) (hB:Byts w a n cap l):
 Calls Tryz.prog 128 #[.slice a n cap] w fun e w'=>e=.returned (.int .u32 ((sum l:Nat):Int))∧Below w.heap.size w w':=by
 have hB':∀o,Byts (w.alloc o) a n cap l:=fun o=>hB.below ((Below.refl _ _).alloc (Nat.le_refl _) _)
 have Hlt:=hid hB.lt;have HB:=hid hB';clear hB hB';go_enter Tryz.func128,Tryz.ntmps128;go_wp2_with fail;refine(z0h _ _ 0 a n cap l _ (HB.out _) (by omega) (by go_simp) (by go_simp)).mono ?_;rintro e w' ⟨rfl,rfl⟩;go_wp2_with fail;refine(z0i _ (4294967295 ^^^ reg 4294967295 l) _ (by go_simp)).mono ?_;rintro e w' ⟨rfl,rfl⟩;go_wp2_with fail;go_ret;refine⟨?_,?_⟩
 · rfl
 · exact(Below.refl _ _).alloc (Nat.le_refl _) _
theorem ycm {w:World} {base:Nat} {v:Value} {n:Nat} {xs:List Value} (hown:w.ownsRow base 5 1 v n xs) (a:Option Addr) (m c:Nat) (l:List Nat) (hB:Byts w a m c l) (hb:n+m≤140737488355328) {v':Value} {w':World}
 (hr:(Builtin.append_ #[22,22] 22 #[v,.slice a m c]).run Tryz.prog w=.ok v' w'):∀k,v'.ownBlock=some k→v.ownBlock=some k∨w.heap.size≤k:=by
 intro k hk;obtain⟨i0,hi,hz0,hz1,hz2⟩:=info_parts Tryz.info_u8
 cases a with
 | none=>
  have hc:=hB.nilc rfl;subst hc;have hm:=hB.room;obtain rfl:m=0:=by omega
  have h2:=run_append_owned_none (P:=Tryz.prog) w base 22 22 5 i0 1 Tryz.underlying22 hi v n xs hown;have h3:=hr.symm.trans h2;injection h3 with e;subst e
  exact .inl hk
 | some x=>
  have hl:(u8s l).length=m*i0.size:=by rw[zk1,hB.len,hz1];omega
  have h1:∀u∈u8s l,u.oneCell'=true:=by intro u hu;simp[u8s] at hu;obtain⟨y,_,rfl⟩:=hu;rfl
  rcases hown.2 with ⟨rfl,rfl⟩ | ⟨g,cap,cur,rfl,hbg,hg,hnc,hcm,hcs,htake⟩
  · have hx:xs=[]:=List.eq_nil_of_length_eq_zero (by simpa using hown.1);subst hx;obtain⟨v2,w2,hr2,ho2,-⟩:=zdd w.heap.size (.slice none 0 0) 0 [] (World.ownsRow_nil _ _ _ _) (some x) m c l hB hb (Nat.le_refl _);have h3:=hr.symm.trans hr2;injection h3 with e;subst e;exact .inr (ho2.lt k hk).1
  · by_cases hroom:n+m≤cap
    · have h2:=run_append_room (P:=Tryz.prog) w 22 22 5 i0 Tryz.underlying22 hi g n cap cur hg x m c (u8s l) hl hB.news h1 hroom (by rw[hl,hcs,hz1];omega);have h3:=hr.symm.trans h2;injection h3 with e;subst e;exact .inl hk
    · have holds:∀j u,xs[j]?=some u→w.cell? ((⟨g,0,none⟩:Addr).add j)=some u:=hown.cells (g:=g) rfl;have h2:=run_append_grow (P:=Tryz.prog) w 22 22 5 i0 _ Tryz.underlying22 hi hz0 ⟨g,0,none⟩ n cap xs (by rw[hown.1,hz1]) holds x m c (u8s l) hl hB.news (by omega) (by omega) (growslice_fits (by omega) (by rw[hz2];omega));have h3:=hr.symm.trans h2;injection h3 with e;subst e;right;simp[Value.ownBlock] at hk;omega
structure GrA (w wr:World) (v0 v:Value):Prop where
 gr:w.grownBy wr v0.ownBlock
 wh:∀k,v.ownBlock=some k→v0.ownBlock=some k∨w.heap.size≤k
theorem GrA.refl (w:World) (v:Value):GrA w w v v:=⟨⟨rfl,rfl,rfl,Nat.le_refl _,fun _ _ _=>rfl⟩,fun k h=>.inl h⟩
theorem GrA.below {w wr w':World} {v0 v:Value} (h:GrA w wr v0 v) (hb:Below wr.heap.size wr w'):GrA w w' v0 v:=
 ⟨⟨hb.os.trans h.gr.os,hb.tape.trans h.gr.tape,hb.output.trans h.gr.output,Nat.le_trans h.gr.size hb.size,fun k hk hn=>(hb.block k (Nat.lt_of_lt_of_le hk h.gr.size)).trans (h.gr.block k hk hn)⟩,h.wh⟩
theorem GrA.trans {w wr w':World} {v0 v v':Value} (h:GrA w wr v0 v) (h':GrA wr w' v v'):GrA w w' v0 v':=
 ⟨⟨h'.gr.os.trans h.gr.os,h'.gr.tape.trans h.gr.tape,h'.gr.output.trans h.gr.output,Nat.le_trans h.gr.size h'.gr.size,fun k hk hn=>(h'.gr.block k (Nat.lt_of_lt_of_le hk h.gr.size) fun e=>by
   rcases h.wh k e.symm with e2 | e2
   · exact hn e2.symm
   · omega).trans (h.gr.block k hk hn)⟩,fun k hk=>by
   rcases h'.wh k hk with e | e
   · exact h.wh k e
   · exact .inr (Nat.le_trans h.gr.size e)⟩
theorem GrA.append {w:World} {base:Nat} {v:Value} {n:Nat} {xs:List Value} (hown:w.ownsRow base 5 1 v n xs) (a:Option Addr) (m c:Nat) (l:List Nat) (hB:Byts w a m c l) (hb:n+m≤140737488355328) (hbase:base≤w.heap.size):
 ∃v' w',(Builtin.append_ #[22,22] 22 #[v,.slice a m c]).run Tryz.prog w=.ok v' w'∧w'.ownsRow base 5 1 v' (n+m) (xs++u8s l)∧GrA w w' v v':=by
 obtain⟨v',w',h1,h2,h3⟩:=zdd base v n xs hown a m c l hB hb hbase;exact⟨v',w',h1,h2,h3,ycm hown a m c l hB hb h1⟩
theorem GrA.bel {w wr:World} {base n:Nat} {v0 v:Value} {xs:List Value} (h:GrA w wr v0 v) (hown:w.ownsRow base 5 1 v0 n xs) (hbase:base≤w.heap.size):Below base w wr:=
 ⟨h.gr.os,h.gr.tape,h.gr.output,h.gr.size,fun k hk=>h.gr.block k (by omega) fun e=>by have:=(hown.lt k e.symm).1;omega⟩
theorem zhv (w:World):Calls Tryz.prog 75 #[] w fun e w'=>e=.returned (.agg #[.int .u8 75,.int .u8 78,.int .u8 87,.int .u8 76])∧Below w.heap.size w w':=by
 go_enter Tryz.func75,Tryz.ntmps75;go_wp2;exact bodyPost_ret (v:=.agg #[.int .u8 75,.int .u8 78,.int .u8 87,.int .u8 76]) (by simp[results,Tryz.results75,go_sem]) rfl ⟨rfl,(Below.refl _ _).alloc (Nat.le_refl _) _⟩
theorem Byts.sub {w:World} {b o n cap:Nat} {l:List Nat} (h:Byts w (some ⟨b,o,none⟩) n cap l) (i j:Nat) (hij:i≤j) (hj:j≤n) (hi:i<cap):
 Byts w (some ⟨b,o+i,none⟩) (j - i) (cap - i) ((l.drop i).take (j - i)):=by
 refine⟨?_,?_,?_,?_,(by intro h;cases h),fun hn=>⟨b,o+i,rfl,fun k hk=>?_⟩⟩
 · rw[List.length_take,List.length_drop,h.len];omega
 · intro x hx;exact h.lt x (List.mem_of_mem_drop (List.mem_of_mem_take hx))
 · have:=h.room;omega
 · have:=h.most;omega
 · obtain⟨b',o',e,hc⟩:=h.cells (by omega);cases e;have:=hc (i+k) (by omega);rw[←Nat.add_assoc] at this;rw[this];have e:nth ((l.drop i).take (j - i)) k=nth l (i+k):=by simp[nth,hk]
   rw[e]
theorem ycn {w W:World} {a:Option Addr} {n cap:Nat} {l:List Nat} {v u:Value} (hB:Byts w a n cap l) (hne:∀b o k,a=some ⟨b,o,k⟩→v.ownBlock≠some b) (h:GrA w W v u):Byts W a n cap l:=
 ⟨hB.len,hB.lt,hB.room,hB.most,hB.nilc,fun hn=>by
  obtain⟨b,o,e,hc⟩:=hB.cells hn;refine⟨b,o,e,fun i hi=>?_⟩;have h1:=hc i hi;have h2:=h.gr.block b (zf h1) (fun e2=>hne b o none e e2.symm);unfold World.cell? at h1 ⊢;simp only[h2];exact h1⟩
theorem yco (v:Value) (n base:Nat) (xs:List Value) (x:Nat) (w:World) (hx:x<18446744073709551616) (hown:w.ownsRow base 5 1 v n xs) (hbase:base≤w.heap.size) (hn:n≤140737488355000):
 Calls Tryz.prog 124 #[v,.int .u64 x] w fun e w'=>∃v',e=.returned v'∧w'.ownsRow base 5 1 v' (n+(yp x).length) (xs++u8s (yp x))∧GrA w w' v v':=by
 have hlen:=zdc 9 x;have hpos:=ze0 9 x;have Ho:=hid hown;clear hown;have Hx:=hid hx;clear hx;go_enter Tryz.func124,Tryz.ntmps124;go_wp2_with fail;refine(zjq x w Hx.out).mono ?_;rintro e w' ⟨rfl,rfl⟩;rw[zgd];generalize hL:(vbF 9 x).length=L at*;have HL:=hid hL;clear hL;go_wp2_with fail
 go_loopw [0,1,8] (fun u y i wr=>∃j m k:Nat,j+1≤L∧i=.int .i64 j∧y=.int .u64 m∧Hid (m<18446744073709551616)∧Hid (GrA w wr v u)∧j+(vbF k m).length=L∧
  Hid (∃p:List Nat,p.length=j∧vbF 9 x=p++vbF k m∧wr.ownsRow base 5 1 u (n+j) (xs++u8s p))) (fun _ _ i _=>L - (intOf i).toNat)
 case atStart=>exact⟨0,x,9,by omega,rfl,rfl,Hx.out,hid (GrA.refl _ _),by rw[HL.out];omega,[],rfl,rfl,by have:=Ho.out;simpa [u8s] using this⟩
 case round=>
  obtain⟨j,m,k,hj,rfl,rfl,hm,hb,hjl,hp⟩:=hrel;have hbs:base≤wr.heap.size:=Nat.le_trans hbase hb.out.gr.size;by_cases hjL:j<L - 1
  · have hlt:decide ((j:Int)<(L:Int) - 1)=true:=by rw[decide_eq_true_iff];omega
    obtain⟨k',rfl,h128,hcons⟩:=zre (k:=k) (x:=m) (by omega);obtain⟨p,hpl,hpx,hpo⟩:=hp.out;have Hpo:=hid hpo;clear hpo;have Hcons:=hid hcons;clear hcons;have Hjl:=hid hjl;clear hjl;have Hpl:=hid hpl;clear hpl;have Hpx:=hid hpx;clear hpx;have hbit:=zrh m hm.out;have hq256:m % 128+128<256:=by omega
    generalize m % 128+128=q at*;obtain⟨v',w1,hr,ho1,hg1⟩:=GrA.append (Hpo.out.alloc (.cells #[.int .u8 (q:Int)] 5)) (some ⟨wr.heap.size,0,none⟩) 1 1 [q] (zcn _ _ 1 _ [q] _ _ rfl rfl rfl (by intro x hx;simp at hx;omega) (by omega)) (by omega) (by simp only[World.size_alloc];omega);have Ho1:=hid ho1;clear ho1;have hb1:Hid (GrA w w1 v v'):=hid ((hb.out.below ((Below.refl wr.heap.size wr).alloc (Nat.le_refl _) _)).trans hg1);clear hg1 Hpo;go_wp2_with (at_builtin;refine qf _ _ 22 rfl rfl _ _ rfl rfl _ _ hr ?_);clear hr;go_roundw
    case rel=>
     refine⟨j+1,m / 128,k',by omega,by go_num,by go_num,(by have:=hm.out;show m / 128<_;omega),hb1,?_,p++[q],?_,?_,?_⟩
     · have:=Hjl.out;rw[Hcons.out] at this;simp at this;omega
     · have:=Hpl.out;simp[this]
     · rw[Hpx.out,Hcons.out];simp
     · have:=Ho1.out;rw[List.append_assoc,←zds] at this;exact this
    case measure=>simp[intOf];omega
  · have hge:decide ((j:Int)<(L:Int) - 1)=false:=by rw[decide_eq_false_iff_not];omega
    obtain⟨p,hpl,hpx,hpo⟩:=hp.out;have Hpo:=hid hpo;clear hpo;have h1:(vbF k m).length=1:=by have:=ze0 k m;omega
    have e1:=zrf h1;have Hfin:=hid (show yp x=p++[m % 256] from by rw[zgd,hpx,e1]);have Hpl:=hid hpl;clear hpl hpx h1 e1;have Hjl:=hid hjl;clear hjl;have hq256:m % 256<256:=by omega
    have hmq:((m:Int) % 256)=((m % 256:Nat):Int):=by omega
    generalize m % 256=q at*;obtain⟨v',w1,hr,ho1,hg1⟩:=GrA.append (Hpo.out.alloc (.cells #[.int .u8 (q:Int)] 5)) (some ⟨wr.heap.size,0,none⟩) 1 1 [q] (zcn _ _ 1 _ [q] _ _ rfl rfl rfl (by intro x hx;simp at hx;omega) (by omega)) (by omega) (by simp only[World.size_alloc];omega);have Ho1:=hid ho1;clear ho1;have hb1:Hid (GrA w w1 v v'):=hid ((hb.out.below ((Below.refl wr.heap.size wr).alloc (Nat.le_refl _) _)).trans hg1);clear hg1 Hpo;go_wp2_with (at_builtin;refine qf _ _ 22 rfl rfl _ _ rfl rfl _ _ hr ?_);go_ret;refine⟨v',rfl,?_,hb1.out⟩;have h2:=Ho1.out;rw[List.append_assoc,←zds] at h2;rw[Hfin.out];have h3:n+(p++[q]).length=n+j+1:=by have:=Hpl.out;simp[this];omega
    rw[h3];exact h2
theorem ycp (v:Value) (n base:Nat) (xs:List Value) (s:Nat) (w:World) (hs:s<4294967296) (hown:w.ownsRow base 5 1 v n xs) (hbase:base≤w.heap.size) (hn:n≤140737488355000):
 Calls Tryz.prog 127 #[v,.int .u32 s] w fun e w'=>∃v',e=.returned v'∧w'.ownsRow base 5 1 v' (n+4) (xs++u8s (jo s))∧GrA w w' v v':=by
 obtain⟨i0,hi,hz0,hz1,hz2⟩:=info_parts Tryz.info_u8;have H4:=hid (z0c s);have Hg:=hid (World.grownBy_alloc w);go_enter Tryz.func127,Tryz.ntmps127;go_wp2;go_loopw [6,7] (fun _ i wr=>∃k:Nat,k≤4∧i=.int .i64 k∧wr=w.alloc (.cells (zhu s k) 102)) (fun _ i _=>4 - (intOf i).toNat)
 case atStart=>exact⟨0,by omega,rfl,rfl⟩
 case round=>
  obtain⟨k,hk,rfl,rfl⟩:=hrel;by_cases hk4:k<4
  · obtain rfl | rfl | rfl | rfl:k=0∨k=1∨k=2∨k=3:=by omega
    · rw[z0d];go_wp2;go_roundw
      case rel=>exact⟨1,by omega,rfl,rfl⟩
      case measure=>simp[intOf]
    · rw[z0e];go_wp2;go_roundw
      case rel=>exact⟨2,by omega,rfl,rfl⟩
      case measure=>simp[intOf]
    · rw[z0f];go_wp2;go_roundw
      case rel=>exact⟨3,by omega,rfl,rfl⟩
      case measure=>simp[intOf]
    · rw[z0g];go_wp2;go_roundw
      case rel=>exact⟨4,by omega,rfl,rfl⟩
      case measure=>simp[intOf]
  · obtain rfl:k=4:=by omega
    rw[H4.out];obtain⟨v',w1,hr,ho1,hg1⟩:=GrA.append (hown.alloc (.cells (u8s (jo s)).toArray 102)) (some ⟨w.heap.size,0,none⟩) 4 4 (jo s) (zcn _ _ _ _ _ _ _ rfl rfl rfl (zht hs) (by omega)) (by omega) (by simp only[World.size_alloc];omega);have HG:=hid (((GrA.refl w v).below ((Below.refl w.heap.size w).alloc (Nat.le_refl _) _)).trans hg1);have Ho1:=hid ho1;clear hg1 ho1;go_wp2_with (at_builtin;refine qf _ _ 22 rfl rfl _ _ rfl rfl _ _ hr ?_);go_ret;exact⟨v',rfl,Ho1.out,HG.out⟩
set_option maxRecDepth 20000 in
theorem z0j (v:Value) (n0 base:Nat) (xs:List Value) (a:Option Addr) (n cap:Nat) (l:List Nat) (w:World) (hB:Byts w a n cap l) (hne:∀b o k,a=some ⟨b,o,k⟩→v.ownBlock≠some b) (hown:w.ownsRow base 5 1 v n0 xs) (hbase:base≤w.heap.size) (hn:n≤1000000000000) (hn0:n0≤1000000000000):
 Calls Tryz.prog 73 #[v,.slice a n cap] w fun e w'=>
  (∃v',e=.returned v'∧w'.ownsRow base 5 1 v' (n0+(zaa l).length) (xs++u8s (zaa l)))∧Below base w w':=by
 have HB:=hid (fun (W:World) (u:Value) (h:GrA w W v u)=>ycn hB hne h);have Hll:=hid hB.lt;have Ho:=hid hown;have hn0':=hn;have Hn:=hid hn;have Hn0:=hid hn0;have He:=hid (show zaa l=qw++yp n++l++jo (sum l) from by rw[←hB.len];rfl);have Hlen:=hid (show (zaa l).length=5+(yp n).length+n+4 from by rw[zgy,hB.len]);have Hv:=hid (fun v n1 xs w hown hb hn=>yco v n1 base xs n w (Nat.lt_of_le_of_lt hn0' (by decide)) hown hb hn);have Hvl:=hid (znl n);have hvl:(yp n).length≤10:=zdc 9 n;generalize yp n=L2 at*;have hcv:(n:Int) % 18446744073709551616=(n:Int):=by omega
 clear hB hown hn hn0' hne;go_enter Tryz.func73,Tryz.ntmps73;go_wp2_with fail;refine(zhv _).mono ?_;rintro e w1 ⟨rfl,hb1⟩;have HG1:=hid ((GrA.refl w v).below hb1);have Ho1:=hid (zm Ho.out hb1);clear hb1;obtain⟨v2,w2,hr2,ho2,hg2⟩:=GrA.append (Ho1.out.alloc (.cells #[.int .u8 75,.int .u8 78,.int .u8 87,.int .u8 76] 102)) (some ⟨w1.heap.size,0,none⟩) 4 4 [75,78,87,76] (zcn _ _ _ _ _ _ _ rfl rfl rfl (by decide) (by omega)) (by have:=Hn0.out;omega) (by have:=HG1.out.gr.size;simp only[World.size_alloc];omega);have Ho2:=hid ho2;have HG2:=hid ((HG1.out.below ((Below.refl w1.heap.size w1).alloc (Nat.le_refl _) _)).trans hg2);clear ho2 hg2;obtain⟨v3,w3,hr3,ho3,hg3⟩:=GrA.append (Ho2.out.alloc (.cells #[.int .u8 1] 5)) (some ⟨w2.heap.size,0,none⟩) 1 1 [1] (zcn _ _ _ _ _ _ _ rfl rfl rfl (by decide) (by omega)) (by have:=Hn0.out;omega) (by have:=HG2.out.gr.size;simp only[World.size_alloc];omega);have Ho3:=hid ho3;have HG3:=hid ((HG2.out.below ((Below.refl w2.heap.size w2).alloc (Nat.le_refl _) _)).trans hg3);clear ho3 hg3
 go_wp2_with (at_builtin;first
  | refine qf _ _ 22 rfl rfl v (.slice (some ⟨w1.heap.size,0,none⟩) 4 4) rfl rfl _ _ hr2 ?_
  | refine qf _ _ 22 rfl rfl v2 (.slice (some ⟨w2.heap.size,0,none⟩) 1 1) rfl rfl _ _ hr3 ?_)
 clear hr2 hr3;refine(Hv.out v3 _ _ _ Ho3.out (by have:=HG3.out.gr.size;omega) (by have:=Hn0.out;omega)).mono ?_;rintro e w4 ⟨v4,rfl,ho4,hg4⟩;have Ho4:=hid ho4;have HG4:=hid (HG3.out.trans hg4);clear ho4 hg4;obtain⟨v5,w5,hr5,ho5,hg5⟩:=GrA.append Ho4.out a n cap l (HB.out _ _ HG4.out) (by have:=Hn.out;have:=Hn0.out;omega) (by have:=HG4.out.gr.size;omega);have Ho5:=hid ho5;have HG5:=hid (HG4.out.trans hg5);clear ho5 hg5;go_wp2_with (at_builtin;refine qf _ _ 22 rfl rfl v4 (.slice a n cap) rfl rfl _ _ hr5 ?_);clear hr5;refine(zoy a n cap l _ (HB.out _ _ HG5.out)).mono ?_;rintro e w6 ⟨rfl,hb6⟩;have Ho6:=hid (zm Ho5.out hb6);have HG6:=hid (HG5.out.below hb6);clear hb6;go_wp2_with fail;refine(ycp v5 _ base _ (sum l) _ (zgx Hll.out) Ho6.out (by have:=HG6.out.gr.size;omega) (by have:=Hn.out;have:=Hn0.out;omega)).mono ?_;rintro e w7 ⟨v7,rfl,ho7,hg7⟩;have Ho7:=hid ho7;have HG7:=hid (HG6.out.trans hg7);clear ho7 hg7;go_wp2_with fail;go_ret;refine⟨⟨v7,rfl,?_⟩,HG7.out.bel Ho.out hbase⟩;have:=Ho7.out;rw[Hlen.out,He.out];simp only[zds,show qw=[75,78,87,76]++[1] from rfl,←List.append_assoc] at this ⊢;rw[show n0+(5+L2.length+n+4)=n0+4+1+L2.length+n+4 by omega];exact this
def kp (pay:Nat→List Nat) (n:Nat):List Nat:=(List.range n).flatMap fun i=>zaa (pay i)
theorem zi3 (pay:Nat→List Nat) (n:Nat):kp pay (n+1)=kp pay n++zaa (pay n):=by
 unfold kp;rw[List.range_succ,List.flatMap_append];simp
set_option maxRecDepth 20000 in
theorem zoz (b o n cap:Nat) (E:Nat→Value) (pay:Nat→List Nat) (w:World) (hc:∀i,i<n→w.cell? ⟨b,o+i,none⟩=some (E i)) (hr:n≤cap) (hcm:cap≤9223372036854775807)
 (hE:∀i,i<n→∀W,Below w.heap.size w W→Calls Tryz.prog 72 #[E i] W fun x w'=>(∃v,x=.returned (.tuple #[v,.nilIface])∧w'.ownsRow W.heap.size 5 1 v (pay i).length (u8s (pay i)))∧Below W.heap.size W w')
 (hlt:∀i,i<n→∀x∈pay i,x<256) (hlen:∀i,i≤n→(kp pay i).length≤1000000000000):
 Calls Tryz.prog 27 #[.slice (some ⟨b,o,none⟩) n cap] w fun e w'=>(∃v,e=.returned (.tuple #[v,.nilIface])∧w'.ownsRow w.heap.size 5 1 v (kp pay n).length (u8s (kp pay n)))∧Below w.heap.size w w':=by
 have HE:=hid hE;have Hlt:=hid hlt;have Hlen:=hid hlen;have Hc:=hid (fun W (h:Below w.heap.size w W) i (hi:i<n)=>(h.cell (p:=⟨b,o+i,none⟩) (zf (hc i hi))).trans (hc i hi));have hm:n≤9223372036854775807:=by omega
 clear hE hlt hlen hc;go_enter Tryz.func27,Tryz.ntmps27;go_wp2_with fail;go_loopw [4,11] (fun v i wr=>∃k:Nat,k≤n∧i=.int .i64 k∧Hid (Below w.heap.size w wr)∧Hid (wr.ownsRow w.heap.size 5 1 v (kp pay k).length (u8s (kp pay k)))) (fun _ i _=>n - (intOf i).toNat)
 case atStart=>exact⟨0,Nat.zero_le _,rfl,hid (Below.refl _ _),hid (World.ownsRow_nil _ _ _ _)⟩
 case round=>
  obtain⟨k,hkn,rfl,hb,ho⟩:=hrel;have Hsz:=hid hb.out.size;by_cases hlt:k<n
  · have e1:=Hc.out _ hb.out k hlt;have hd:decide ((k:Int)<(n:Int))=true:=by rw[decide_eq_true_iff];omega
    have hk1:IntKind.i64.wrap ((k:Int)+1)=((k+1:Nat):Int):=by rw[IntKind.wrap_i64];omega
    have h0:(0:Int)≤(k:Int):=by omega
    have h0n:(k:Int)<(n:Int):=by omega
    have HEn:=hid (HE.out k hlt wr hb.out);have Hsu:=hid (zi3 pay k);have hl1:=Hlen.out k (by omega);have hl2:=Hlen.out (k+1) (by omega);rw[Hsu.out,List.length_append] at hl2
    have Hfl:=hid (show (pay k).length≤1000000000000 from by
     have:(pay k).length≤(zaa (pay k)).length:=by unfold zaa;simp only[List.length_append];omega
     omega)
    have Hfl0:=hid hl1;have Hpl:=hid (Hlt.out k hlt);clear hl1 hl2;generalize E k=ek at*;go_wp2_with fail;refine HEn.out.mono ?_;rintro e w2 ⟨⟨pv,rfl,hpo⟩,hb2⟩;have Ho2:=hid (zm ho.out hb2);have Hb2:=hid (hb.out.trans (hb2.mono Hsz.out));obtain⟨bb,cc,rfl,hB2⟩:=zbk hpo Hpl.out
    have hne:∀b' o' k',bb=some ⟨b',o',k'⟩→Value.ownBlock _≠some b':=fun b' o' k' e h=>by
     have h1:=(ho.out.lt b' h).2;rcases zk9 hpo with ⟨e2,-⟩ | ⟨g,e2,h2,-⟩
     · rw[e2] at e;cases e
     · rw[e2] at e;injection e with e;injection e with e;omega
    have HAp:=hid (fun hx hy=>z0j _ _ w.heap.size _ bb _ cc _ w2 hB2 hne Ho2.out (Nat.le_trans Hsz.out hb2.size) hx hy);have Hs2:=hid (Nat.le_trans Hsz.out hb2.size);clear hb2 hB2 hpo hne;go_wp2_with fail;refine(HAp.out Hfl.out Hfl0.out).mono ?_;rintro e w3 ⟨⟨v3,rfl,ho3⟩,hb3⟩;have Hb3:=hid (Hb2.out.trans hb3)
    have Ho3:=hid (show w3.ownsRow w.heap.size 5 1 v3 (kp pay (k+1)).length (u8s (kp pay (k+1))) from by
     rw[Hsu.out,List.length_append,zds];exact ho3)
    clear ho3 hb3;go_wp2_with fail;go_roundw
    case rel=>exact⟨k+1,hlt,rfl,Hb3,Ho3⟩
    case measure=>simp[intOf];omega
  · obtain rfl:k=n:=by omega
    have hd:decide ((k:Int)<(k:Int))=false:=by rw[decide_eq_false_iff_not];omega
    go_wp2_with fail;go_ret2;exact⟨⟨_,rfl,ho.out⟩,hb.out⟩
theorem I64s.zs {w:World} {a:Option Addr} {n cap:Nat} {l:List Nat} (h:I64s w a n cap l) (hl:∀x∈l,x≤9223372036854775807):Zs w a n cap (l.map fun x:Nat=>(x:Int)):=by
 refine⟨by rw[List.length_map];exact h.len,h.room,h.most,h.nilc,fun x hx=>?_,fun hn=>?_⟩
 · obtain⟨y,hy,rfl⟩:=List.mem_map.1 hx;have:=hl y hy;omega
 · obtain⟨b,o,ha,hc⟩:=h.cells hn;refine⟨b,o,ha,fun i hi=>?_⟩
   have e:ze6 (l.map fun x:Nat=>(x:Int)) i=((nth l i:Nat):Int):=by
    have hi':i<l.length:=by rw[h.len];exact hi
    rw[zn8 (by simpa using hi')];simp[nth,hi']
   rw[e];exact hc i hi
end
section
def jy (l:List Nat) (p:Nat) (most:Int):Except (Nat×Nat) (Nat×Nat):=
 match zar l p with
 | some e=>.error e
 | none=>match yf (l.drop (p+5)) 0 0 with
   | (1,x,j)=>if max most 0<(x:Int) then .error (7,p+5) else .ok (p+5+j,x)
   | (2,_,_)=>.error (6,p+5)
   | _=>.error (5,p)
def qo (l:List Nat) (L:zc) (p:Nat):RR Kno:=
 match jy l p L.1 with
 | .error e=>if e.1=5 then .error (0,p) else .error e
 | .ok y=>match jc (ze l (y.1+y.2)) (y.1+y.2) L y.1 with
   | .error e=>if e.1=0 then .error (0,p) else .error e
   | .ok k=>if l.length<y.1+y.2+4 then .error (0,p)
     else if jo (sum ((l.drop y.1).take y.2))=(l.drop (y.1+y.2)).take 4 then .ok (k.1,y.1+y.2+4) else .error (14,y.1+y.2)
def zbv (l:List Nat) (L:zc):List Kno→List Nat→Nat→Nat→Prop
 | [],[],p,q=>p=q
 | k :: ks,e :: es,p,q=>qo l L p=.ok (k,e)∧zbv l L ks es e q
 | _,_,_,_=>False
def kq (l:List Nat) (L:zc) (ks:List Kno) (es:List Nat) (e:Nat×Nat):Prop:=∃q,zbv l L ks es 0 q∧qo l L q=.error e
theorem zo0 {l:List Nat} {L:zc} {k:Kno} {r:Nat}:∀{ks:List Kno} {es:List Nat} {p q:Nat},zbv l L ks es p q→qo l L q=.ok (k,r)→zbv l L (ks++[k]) (es++[r]) p r
 | [],[],p,q,h,h1=>by
   have h:p=q:=h;subst h
   exact⟨h1,rfl⟩
 | k' :: ks,e :: es,p,q,h,h1=>⟨h.1,zo0 h.2 h1⟩
 | [],_ :: _,_,_,h,_=>h.elim
 | _ :: _,[],_,_,h,_=>h.elim
theorem zfd {l:List Nat} (hl:∀c∈l,c<256) {p s n:Nat} {most:Int} (h:jy l p most=.ok (s,n)):p+6≤s∧s≤l.length∧s≤p+15∧(n:Int)≤max most 0∧zar l p=none∧s=p+5+(yp n).length∧yp n=(l.drop (p+5)).take (yp n).length:=by
 unfold jy at h
 cases hb:zar l p with
 | some e=>rw[hb] at h;cases h
 | none=>
  rw[hb] at h;simp only at h;obtain⟨a,x,j,hs⟩:∃a x j,yf (l.drop (p+5)) 0 0=(a,x,j):=⟨_,_,_,rfl⟩;rw[hs] at h;rcases a with _ | _ | _ | a
  · cases h
  · simp only at h;split at h
    · cases h
    · injection h with h;injection h with h1 h2;subst h1 h2;obtain⟨b1,b2,b3,b4⟩:=zya (fun c hc=>hl c (List.mem_of_mem_drop hc)) hs;have b5:(yp x).length≤9+1:=zdc 9 x;have b6:(yp x).length=j:=by rw[b4,List.length_take];omega
      rw[List.length_drop] at b3;exact⟨by omega,by omega,by omega,by omega,rfl,by rw[b6],by rw[b6];exact b4⟩
  · cases h
  · cases h
theorem ycq {l:List Nat} (hl:∀c∈l,c<256) (E:Nat):T64 (ze l E):=fun p x q h=>(zap hl h).2.2.2.1
theorem z0k {T T':ye} (h:∀p y,T p=.ok y→T' p=.ok y):∀{ns:List Nat} {p q:Nat},jq T p ns q→jq T' p ns q
 | [],p,q,r=>r
 | x :: ns,p,q,r=>by
   obtain⟨y,r1,r2⟩:=r;exact⟨y,h _ _ r1,z0k h r2⟩
theorem zsv {T:ye} {E:Nat} (h:∀p x q,T p=.ok (x,q)→q≤E):∀{ns:List Nat} {p q:Nat},jq T p ns q→ns≠[]→q≤E
 | [],p,q,r,hn=>absurd rfl hn
 | x :: ns,p,q,r,hn=>by
   obtain⟨y,r1,r2⟩:=r
   cases ns with
   | nil=>have r2:y=q:=r2;rw[←r2];exact h _ _ _ r1
   | cons z ns=>exact zsv h r2 (by simp)
theorem z0l (c:Kno):zn c≠[]:=by
 intro h;have:=congrArg List.length h;unfold zn at this;rw[List.length_append] at this
 have h1:∀d,1≤(qv c d).length:=by
  intro d
  induction d with
  | zero=>simp[qv]
  | succ d ih=>rw[qv,List.length_append];omega
 have h2:=h1 c.length;rw[List.length_nil] at this;omega
theorem zo1 {l:List Nat} (hl:∀c∈l,c<256) {E s q:Nat} {L:zc} {k:Kno} (h:jc (ze l E) E L s=.ok (k,q)):q=E∧E≤l.length∧CanK k∧LtK k∧okK L k∧zq (zn k)=(l.drop s).take (E - s):=by
 obtain⟨h1,h2,h3,h4,h5⟩:=zzs (ycq hl E) h;have h6:=zsv (E:=E) (fun p x q h=>(zap hl h).2.2.1) h4 (z0l k);have h7:=zsv (E:=l.length) (fun p x q h=>(zap hl h).2.1) h4 (z0l k);obtain rfl:q=E:=Nat.le_antisymm h6 h5;have h8:=zsb (l:=l.take q) (fun c hc=>hl c (List.mem_of_mem_take hc)) (z0k (fun p y h=>zyd h) h4);rw[show (l.take q).drop q=[] from List.drop_eq_nil_of_le (by rw[List.length_take];omega),List.append_nil,List.drop_take] at h8;exact⟨rfl,h7,h1,h2,h3,h8.symm⟩
theorem zsw {f g:Nat→Option (Nat×Nat)} {z:Nat×Nat} (h:∀i,f i=some z∨g i=f i):∀is:List Nat,is.findSome? f=some z∨is.findSome? g=is.findSome? f
 | []=>.inr rfl
 | i :: is=>by
   rw[List.findSome?_cons,List.findSome?_cons];rcases h i with e | e
   · rw[e];exact .inl rfl
   · rw[e]
     cases f i with
     | some x=>exact .inr rfl
     | none=>exact zsw h is
theorem zsx {l u:List Nat} {i:Nat} (h:i<l.length):nth (l++u) i=nth l i:=by simp[nth,List.getElem?_append_left h]
theorem z0m (l u:List Nat) (p i:Nat):za0 l p i=some (5,p)∨za0 (l++u) p i=za0 l p i:=by
 by_cases h:l.length≤p+i
 · exact .inl (zgw h)
 · refine .inr ?_;unfold za0;rw[if_neg h,if_neg (by rw[List.length_append];omega),zsx (by omega)]
theorem ycr (l u:List Nat) (p:Nat):((l++u).drop p).take (l.length - p)=l.drop p:=by
 rw[←List.drop_take,List.take_left]
theorem z0n (l u:List Nat) (p:Nat) (most:Int):jy l p most=.error (5,p)∨jy (l++u) p most=jy l p most:=by
 rcases zsw (z0m l u p) [0,1,2,3,4] with h | h
 · refine .inl ?_;unfold jy zar;rw[h]
 · have h:zar (l++u) p=zar l p:=h;unfold jy;rw[h]
   cases zar l p with
   | some e=>exact .inr rfl
   | none=>
    simp only;have hs:=zos ((l++u).drop (p+5)) (l.length - (p+5)) 0 0;rw[ycr] at hs;rcases hs with hs | hs
    · rw[hs];exact .inr rfl
    · refine .inl ?_;generalize yf (l.drop (p+5)) 0 0=s at hs;obtain⟨a,x,j⟩:=s;simp only at hs;subst hs
      rfl
theorem ycs (l u:List Nat) (E:Nat):Cut 0 (ze (l++u) E) (ze l E) E E:=by
 refine⟨fun p=>?_,.inl rfl⟩;by_cases hE:E≤l.length
 · refine .inl ?_;unfold ze;rw[List.take_append_of_le_length hE,if_pos hE,if_pos (by rw[List.length_append];omega)]
 · have hs:=zos (((l++u).take E).drop p) (l.length - p) 0 0;rw[←List.drop_take,List.take_take,Nat.min_eq_left (by omega),List.take_left] at hs;unfold ze;rw[List.take_of_length_le (show l.length≤E by omega),if_neg hE];generalize yf (l.drop p) 0 0=s at*;obtain⟨a,x,j⟩:=s;rcases hs with hs | hs
   · rw[←hs];rcases a with _ | _ | _ | a
     · exact .inr rfl
     · exact .inl rfl
     · exact .inl rfl
     · exact .inr rfl
   · simp only at hs;subst hs;exact .inr rfl
theorem z0o (l u:List Nat) (L:zc) (p:Nat):qo l L p=.error (0,p)∨qo (l++u) L p=qo l L p:=by
 unfold qo;rcases z0n l u p L.1 with h | h
 · rw[h];exact .inl rfl
 · rw[h]
   cases hh:jy l p L.1 with
   | error e=>exact .inr rfl
   | ok y=>
    obtain⟨s,n⟩:=y;simp only;rcases ybi (ycs l u (s+n)) L s with hd | ⟨w,hd⟩
    · rw[hd]
      cases jc (ze (l++u) (s+n)) (s+n) L s with
      | error e=>exact .inr rfl
      | ok k=>
       simp only;by_cases hlen:l.length<s+n+4
       · rw[if_pos hlen];exact .inl rfl
       · rw[if_neg hlen,if_neg (show ¬(l++u).length<s+n+4 by rw[List.length_append];omega)];refine .inr ?_
         have e1:((l++u).drop s).take n=(l.drop s).take n:=by
          rw[List.drop_append_of_le_length (by omega),List.take_append_of_le_length (by rw[List.length_drop];omega)]
         have e2:((l++u).drop (s+n)).take 4=(l.drop (s+n)).take 4:=by
          rw[List.drop_append_of_le_length (by omega),List.take_append_of_le_length (by rw[List.length_drop];omega)]
         rw[e1,e2]
    · rw[hd];exact .inl rfl
theorem zl4 {l:List Nat} (u:List Nat) {L:zc}:∀{ks:List Kno} {es:List Nat} {p q:Nat},zbv l L ks es p q→zbv (l++u) L ks es p q
 | [],[],p,q,h=>h
 | k :: ks,e :: es,p,q,h=>by
   refine⟨?_,zl4 u h.2⟩;rcases z0o l u L p with h1 | h1
   · have:=h.1;rw[h1] at this;cases this
   · rw[h1];exact h.1
 | [],_ :: _,_,_,h=>h.elim
 | _ :: _,[],_,_,h=>h.elim
