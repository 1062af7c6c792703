/- Walks and laws, joined: Wb02. -/
import Derived.Sort.LotD5
import Derived.Sort.Walk7a
import Derived.Test.YtdnjfnofjaoajaaGreatDoorWb01
set_option linter.unusedVariables false
set_option maxHeartbeats 16000000
namespace Go.Proofs.YtdnjfnofjaoajaaGreatDoor
open Lib (hid)
section
open Go.RowKit
def zb (l:List Iv) (k:Nat):Iv:=l.getD k (0,0)
theorem qf {l:List Iv} {k:Nat} (h:k<l.length):zb l k=l[k]:=by simp[zb,h]
theorem zaa {l:List Iv} {k:Nat} (h:k<l.length):zb l k∈l:=by rw[qf h];exact List.getElem_mem h
structure Ivs (w:World) (a:Option Addr) (n cap:Nat) (l:List Iv):Prop where
 len:l.length=n
 lt:∀s∈l,s.1<18446744073709551616∧s.2<18446744073709551616
 room:n≤cap
 most:cap≤9223372036854775807
 nilc:a=none→cap=0
 cells:0<n→∃b o,a=some ⟨b,o,none⟩∧∀i,i<n→w.cell? ⟨b,o+i*2,none⟩=some (.int .u64 (((zb l i).1:Nat):Int))∧w.cell? ⟨b,o+i*2+1,none⟩=some (.int .u64 (((zb l i).2:Nat):Int))
theorem Ivs.below {w w':World} {a:Option Addr} {n cap:Nat} {l:List Iv} (h:Ivs w a n cap l) (hb:Below w.heap.size w w'):Ivs w' a n cap l:=by
 refine⟨h.len,h.lt,h.room,h.most,h.nilc,fun hn=>?_⟩;obtain⟨b,o,ha,hc⟩:=h.cells hn;refine⟨b,o,ha,fun i hi=>?_⟩;obtain⟨h1,h2⟩:=hc i hi;exact⟨(hb.cell (p:=⟨b,o+i*2,none⟩) (ze h1)).trans h1,(hb.cell (p:=⟨b,o+i*2+1,none⟩) (ze h2)).trans h2⟩
abbrev ivV (s:Iv):Value:=.agg #[.int .u64 ((s.1:Nat):Int),.int .u64 ((s.2:Nat):Int)]
def ivC (l:List Iv):List Value:=l.flatMap fun s=>[.int .u64 ((s.1:Nat):Int),.int .u64 ((s.2:Nat):Int)]
theorem zjt (s:Iv) (l:List Iv):ivC (s :: l)=.int .u64 ((s.1:Nat):Int) :: .int .u64 ((s.2:Nat):Int) :: ivC l:=rfl
theorem zju (a b:List Iv):ivC (a++b)=ivC a++ivC b:=by simp[ivC]
theorem zd1 (l:List Iv):(ivC l).length=l.length*2:=by
 induction l with
 | nil=>rfl
 | cons s l ih=>rw[zjt];simp[ih];omega
theorem zd2:∀(l:List Iv) (i:Nat),i<l.length→(ivC l)[i*2]?=some (.int .u64 (((zb l i).1:Nat):Int))∧(ivC l)[i*2+1]?=some (.int .u64 (((zb l i).2:Nat):Int))
 | [],i,h=>by simp at h
 | s :: l,0,_=>⟨rfl,rfl⟩
 | s :: l,i+1,h=>by
   have:=zd2 l i (by simpa using h);rw[zjt,show (i+1)*2=i*2+1+1 by omega];simpa [zb] using this
theorem zqd (l:List Iv):∀u∈ivC l,u.oneCell'=true:=by
 intro u hu;simp only[ivC,List.mem_flatMap] at hu;obtain⟨s,_,hs⟩:=hu;simp at hs;rcases hs with rfl | rfl <;> rfl
theorem zmn:∀(l:List Iv) (i x:Nat),i<l.length→(ivC l).set (i*2+1) (.int .u64 ((x:Nat):Int))=ivC (l.set i ((zb l i).1,x))
 | [],i,x,h=>by simp at h
 | s :: l,0,x,_=>rfl
 | s :: l,i+1,x,h=>by
   have:=zmn l i x (by simpa using h);rw[zjt,show (i+1)*2+1=(i*2+1)+1+1 by omega,List.set_cons_succ,List.set_cons_succ,this,List.set_cons_succ,zjt];simp[zb]
theorem zgd (w:World):Ivs w none 0 0 []:=⟨rfl,by simp,by omega,by omega,fun _=>rfl,fun h=>by omega⟩
theorem zah {w:World} {base n:Nat} {T:TypeId} {v:Value} {l:List Iv} (h:w.ownsRow base T 2 v n (ivC l)) (hl:∀s∈l,s.1<18446744073709551616∧s.2<18446744073709551616):∃a cap,v=.slice a n cap∧Ivs w a n cap l:=by
 have hlen:l.length=n:=by have:=h.1;rw[zd1] at this;omega
 rcases h.2 with ⟨rfl,rfl⟩ | ⟨g,cap,cur,rfl,hg,hh,hnc,hcm,_⟩
 · exact⟨none,0,rfl,hlen,hl,by omega,by omega,fun _=>rfl,fun h=>by omega⟩
 · refine⟨_,_,rfl,hlen,hl,hnc,by unfold maxLen at hcm;omega,(by intro h;cases h),fun hn=>⟨g,0,rfl,fun i hi=>?_⟩⟩;obtain⟨e1,e2⟩:=zd2 l i (by omega);have h1:=h.cells (g:=g) rfl _ _ e1;have h2:=h.cells (g:=g) rfl _ _ e2;rw[yp] at h1 h2;rw[Nat.add_assoc];exact⟨h1,h2⟩
theorem kp {P:Program} {f:FuncId} {args:Array Value} {w w':World} {v:Value} (hw:Below w.heap.size w w') (h:Calls P f args w' fun e w''=>e=.returned v∧Below w'.heap.size w' w''):
 Calls P f args w' fun e w''=>e=.returned v∧Below w.heap.size w w'':=h.mono fun e w'' ⟨he,hb⟩=>⟨he,hw.trans (hb.mono hw.size)⟩
theorem ye {B:Nat} {a w:World} (h:Below B a w) (n:Nat):Below B a (w.drewN n):=⟨h.os,h.tape,h.output,h.size,h.block⟩
theorem qi {P:Program} {id:Nat} {Q:Exit→Act→World→Prop} {a:Act} {w:World} {l:List Oper} (hm:P.follows .mixedOrders=true) (hB:Region.lexB .any l.toArray=true)
 (h:wpQuiet P l.toArray (fun w'=>Below w.heap.size w w') (fun a'=>∀w',Below w.heap.size w w'→Q .normal a' w') l a):(Code.region id l.toArray true).wp P Q a w:=
 wp_region_quiet (C:=fun w'=>Below w.heap.size w w') hm hB ((Below.refl _ _).drew) (by simpa using h)
theorem zge {w:World} (base:Nat) (v:Value) (n:Nat) (xs:List Value) (hown:w.ownsRow base 5 1 v n xs) (a:Option Addr) (m c:Nat) (l:List Nat) (hB:Byts w a m c l)
 (hbytes:n+m≤140737488355328) (hbase:base≤w.heap.size):
 ∃v' w',(Builtin.append_ #[27,27] 27 #[v,.slice a m c]).run Tryz.prog w=.ok v' w'∧w'.ownsRow base 5 1 v' (n+m) (xs++u8s l)∧w.grownBy w' v.ownBlock:=by
 obtain⟨i0,hi,hz0,hz1,hz2⟩:=info_parts Tryz.info_u8
 cases a with
 | none=>
  have hc:=hB.nilc rfl;have hm:=hB.room;obtain rfl:m=0:=by omega
  subst hc;have hl:l=[]:=List.length_eq_zero_iff.1 hB.len;subst hl
  refine⟨v,w,run_append_owned_none _ base _ _ _ i0 1 Tryz.underlying27 hi v n xs hown,by simpa [u8s] using hown,⟨rfl,rfl,rfl,Nat.le_refl _,fun _ _ _=>rfl⟩⟩
 | some x=>
  obtain⟨v',w',hr,ho,hg,_⟩:=run_append_own (P:=Tryz.prog) w base 27 27 5 i0 (.int .u8 0) 1 1 Tryz.underlying27 hi hz0 hz1 hz2 rfl (by decide) v n xs hown x m c (u8s l)
   (by rw[zp3,hB.len];omega) hB.news (by intro u hu;simp[u8s] at hu;obtain⟨y,_,rfl⟩:=hu;rfl) (by unfold maxLen;omega) (by omega) hbase
  exact⟨v',w',hr,ho,hg⟩
end
section
open Go.RowKit Go.Sort
theorem zy3 (rb ro X:Nat) (hX:X<18446744073709551616) (w:World) (hc:w.cell? ⟨rb,ro,none⟩=some (.int .u64 X)) (hf:w.frozen? ⟨rb,ro,none⟩=false):
 Calls Tryz.prog 250 #[.pointer (some ⟨rb,ro,none⟩)] w fun e w'=>e=.returned (.int .u64 (xorNextN X:Nat))∧w'=(w.setCell ⟨rb,ro,none⟩ (.int .u64 (xorNextN X:Nat))).drewN 3:=by
 obtain⟨A,hA⟩:∃A:Nat,A=X ^^^ (X*8192 % 18446744073709551616):=⟨_,rfl⟩;obtain⟨B,hB⟩:∃B:Nat,B=A ^^^ (A / 128):=⟨_,rfl⟩;obtain⟨C,hC⟩:∃C:Nat,C=B ^^^ (B*131072 % 18446744073709551616):=⟨_,rfl⟩;have lA:A<18446744073709551616:=by rw[hA];exact Nat.xor_lt_two_pow (n:=64) (by omega) (by omega)
 have lB:B<18446744073709551616:=by rw[hB];exact Nat.xor_lt_two_pow (n:=64) (by omega) (by omega)
 have e1:bits .xor .u64 (X:Int) (IntKind.u64.wrap ((X:Int)*8192))=(A:Int):=by
  rw[IntKind.wrap_u64,show ((X:Int)*8192 % 18446744073709551616)=((X*8192 % 18446744073709551616:Nat):Int) by omega,bits_xor_u64_nat _ _ hX (by omega),hA]
 have e2:bits .xor .u64 (A:Int) ((A:Int) / 128)=(B:Int):=by
  rw[show ((A:Int) / 128)=((A / 128:Nat):Int) by omega,bits_xor_u64_nat _ _ lA (by omega),hB]
 have e3:bits .xor .u64 (B:Int) (IntKind.u64.wrap ((B:Int)*131072))=(C:Int):=by
  rw[IntKind.wrap_u64,show ((B:Int)*131072 % 18446744073709551616)=((B*131072 % 18446744073709551616:Nat):Int) by omega,bits_xor_u64_nat _ _ lB (by omega),hC]
 have hv:xorNextN X=C:=by unfold xorNextN;simp only[];rw[←hA,←hB,←hC]
 rw[hv];clear hA hB hC hv;have hss:∀v v',(w.setCell ⟨rb,ro,none⟩ v).setCell ⟨rb,ro,none⟩ v'=w.setCell ⟨rb,ro,none⟩ v':=setCell_setCell w rb ro;go_enter Tryz.func250,Tryz.ntmps250;go_wp2;go_region
 all_goals go_wp2
 all_goals go_region
 all_goals go_wp2
 all_goals go_region
 all_goals go_wp2
 go_ret;exact⟨rfl,rfl⟩
theorem zy4 (n:Nat) (hn:n<4611686018427387904) (w:World):
 Calls Tryz.prog 249 #[.int .i64 n] w fun e w'=>e=.returned (.int .u64 ((1 <<< bitsLen n:Nat):Int))∧w'=w:=by
 have hLen:∀w,Calls Tryz.prog 162 #[.int .u64 (n:Int)] w fun e w'=>e=.returned (.int .i64 (bitsLen n:Nat))∧w'=w:=fun w=>by
  have h:=Tryz.bits_Len (n:Int) w (by omega) (by omega);rwa [Int.toNat_natCast,bitLen_eq _ (by omega)] at h
 have hk:bitsLen n≤62:=(bitsLen_le_iff n 62).2 (by omega);have hp:=wrap_two_pow (bitsLen n) hk;go_enter Tryz.func249,Tryz.ntmps249;go_wp2_with (first | (go_at_call 162;refine(hLen _).mono ?_;rintro e w' ⟨rfl,rfl⟩));go_ret;exact⟨rfl,rfl⟩
end
section
open Go.RowKit
set_option maxRecDepth 20000 in
theorem zy5 (g o c a b:Nat) (d:Array Nat) (w:World) (hH:Sort.Holds zf w g o d) (hab:a≤b) (hb:b≤d.size) (hsz:d.size<4611686018427387904):
 Calls Tryz.prog 273 #[.slice (some ⟨g,o,none⟩) d.size c,.int .i64 a,.int .i64 b] w fun e w'=>
  e=.returned (.tuple #[])∧∃n,w'=Sort.putRow zf (Sort.ahead w n) g o (Sort.insertionSort ltU d a b):=by
 have HH:=hid hH;have H0:=hid (Sort.putRow_self zf w g o d hH).symm;clear hH;go_enter Tryz.func273,Tryz.ntmps273;go_wp2
 go_loopw [6] (fun vi wr=>∃(i n:Nat) (dk:Array Nat),vi=.int .i64 i∧a<i∧i≤b+1∧dk.size=d.size∧Hid (wr=Sort.putRow zf (Sort.ahead w n) g o dk)∧
  Hid (Sort.insOuter ltU a b i dk=Sort.insOuter ltU a b (a+1) d)) (fun vi _=>b+1 - (intOf vi).toNat)
 case atStart=>exact⟨a+1,0,d,by go_num,by omega,by omega,rfl,H0,rfl⟩
 case round=>
  obtain⟨i,n,dk,rfl,hai,hib,hsk,HW,HO⟩:=hrel;by_cases hlt:i<b
  · go_wp2
    go_loopw [7] (fun vj wr2=>∃(j m:Nat) (dj:Array Nat),vj=.int .i64 j∧a≤j∧j≤i∧dj.size=d.size∧Hid (wr2=Sort.putRow zf (Sort.ahead w m) g o dj)∧
     Hid (Sort.insInner ltU a j dj=Sort.insInner ltU a i dk)) (fun vj _=>(intOf vj).toNat)
    case atStart=>exact⟨i,n,dk,rfl,by omega,Nat.le_refl _,hsk,HW,rfl⟩
    case round=>
     obtain⟨j,m,dj,rfl,haj,hji,hsj,HW2,HI⟩:=hrel;obtain⟨G,⟨hcw,hfw,hG⟩⟩:=zjo (zhj HH.out hsj HW2.out) hsj;have HG:=hid hG
     have OUT:=hid (fun (hs:j≤a∨ltU dj[j]! dj[j - 1]! =false) q=>show ∃(i' n':Nat) (dk':Array Nat),Value.int .i64 ((i:Int)+1)=.int .i64 (i':Nat)∧a<i'∧i'≤b+1∧dk'.size=d.size∧
      Hid (wr.drewN q=Sort.putRow zf (Sort.ahead w n') g o dk')∧Hid (Sort.insOuter ltU a b i' dk'=Sort.insOuter ltU a b (a+1) d) from
      ⟨i+1,m+q,dj,by go_num,by omega,by omega,hsj,(by rw[HW2.out];exact putRow_drewN _ _ _ _ _ _ _),
       (by show _=_;rw[←HO.out,insOuter_go _ _ _ _ _ hlt,←HI.out,insInner_stop _ _ _ _ hs])⟩)
     clear hG;go_wp2;by_cases hja:a<j
     · go_quiet (first | (go_at_call 279;refine Calls.quiet_of_same (jk _ _ _)));go_wp2
       · have hl:ltU (G j) (G (j - 1))=true:=by assumption
         go_region
         all_goals go_wp2
         go_roundw
         case rel=>
          refine⟨j - 1,m+(nq+1),Sort.swp dj j (j - 1),by congr 1;omega,by omega,by omega,by rw[Sort.size_swp];exact hsj,?_,?_⟩
          · show _=_;rw[HG.out,HG.out];exact zjp HW2.out (nq+1) j (j - 1) (by omega) (by omega)
          · show _=_;rw[←HI.out,insInner_go ltU a j dj hja (by rw[←HG.out,←HG.out];exact hl)]
         case measure=>simp[intOf];omega
       · have hl:ltU (G j) (G (j - 1))=false:=by assumption
         go_roundw
         case rel=>exact OUT.out (Or.inr (by rw[←HG.out,←HG.out];exact hl)) nq
         case measure=>simp[intOf];omega
     · go_quiet (first | (go_at_call 279;refine Calls.quiet_of_same (jk _ _ _)));go_wp2;go_roundw
       case rel=>exact OUT.out (Or.inl (by omega)) nq
       case measure=>simp[intOf];omega
  · go_wp2;go_end0
    exact⟨rfl,n,by rw[HW.out];unfold Sort.insertionSort;rw[←HO.out,insOuter_stop _ _ _ _ _ hlt]⟩
end
section
open Go.RowKit Go.Sort
set_option maxRecDepth 100000 in
theorem zy6 (blk off cap a b:Nat) (d:Array Nat) (w:World) (hH:Holds zf w blk off d) (hab:a<b) (hb:b≤d.size) (hsz:d.size<4611686018427387904):
 Calls Tryz.prog 278 #[.slice (some ⟨blk,off,none⟩) d.size cap,.int .i64 a,.int .i64 b] w fun e w'=>
  e=.returned (.bool (Sort.partialInsertionSort ltU d a b).2)∧∃n,w'=putRow zf (Sort.ahead w n) blk off (Sort.partialInsertionSort ltU d a b).1:=by
 have HH:Hid (Holds zf w blk off d):=hH;have HST:Hid (w=putRow zf (Sort.ahead w 0) blk off d):=(putRow_self _ _ _ _ _ hH).symm;clear hH;go_enter Tryz.func278,Tryz.ntmps278;go_wp2
 go_loopw [7,8] (fun vi vs wr=>∃(i s n:Nat) (dk:Array Nat),vi=.int .i64 i∧vs=.int .i64 s∧s≤5∧a<i∧i≤b∧dk.size=d.size∧wr=putRow zf (Sort.ahead w n) blk off dk∧
  partialIns ltU a b (5 - s) i dk=partialIns ltU a b 5 (a+1) d) (fun _ vs _=>5 - (intOf vs).toNat)
 case atStart=>exact⟨a+1,0,0,d,by go_num,rfl,by omega,by omega,by omega,rfl,HST.out,rfl⟩
 case round=>
  obtain⟨i,s,n,dk,rfl,rfl,hs5,hai,hib,hsk,hwr,hO⟩:=hrel;have HO:Hid (partialIns ltU a b (5 - s) i dk=partialIns ltU a b 5 (a+1) d):=hO;clear hO;go_wp2
  ·
   have hs:s<5:=by omega
   go_loopw [7] (fun vi wr2=>∃(k m:Nat),vi=.int .i64 k∧i≤k∧k≤b∧wr2=putRow zf (Sort.ahead w m) blk off dk∧scanSorted ltU dk b k=scanSorted ltU dk b i) (fun vi _=>b - (intOf vi).toNat)
   case atStart=>exact⟨i,n,rfl,Nat.le_refl _,hib,rfl,rfl⟩
   case round=>
    obtain⟨k,m,rfl,hik,hkb,hw2,hS⟩:=hrel;obtain⟨G,hG⟩:∃G:Nat→Nat,∀t,G t=dk[t]! :=⟨fun t=>dk[t]!,fun _=>rfl⟩
    have hcw:∀t,t<d.size→wr.cell? ⟨blk,off+t,none⟩=some (.int .u64 (G t)):=fun t ht=>by
     rw[hw2,hG];exact cell?_putRow _ _ _ _ d dk (holds_ahead _ _ _ _ _ _ HH.out) hsk t (by omega)
    have hfw:∀t,t<d.size→wr.frozen? ⟨blk,off+t,none⟩=false:=fun t ht=>by
     rw[hw2,frozen?_putRow];exact((holds_ahead _ _ m _ _ _ HH.out) t ht).2
    have HW:Hid (wr=putRow zf (Sort.ahead w m) blk off dk):=hw2;have HG:Hid (∀t,G t=dk[t]!):=hG;have HS:Hid (scanSorted ltU dk b k=scanSorted ltU dk b i):=hS;clear hw2 hG hS;go_wp2;by_cases hkb':k<b
    · go_quiet (first | (go_at_call 279;refine Calls.quiet_of_same (jk _ _ _)));go_wp2
      all_goals first
       | (at_end
          have hl:ltU (G k) (G (k - 1))=false:=by
           have h:(!ltU (G k) (G (k - 1)))=true:=by assumption
           simpa using h
          go_roundw
          case rel=>exact⟨k+1,m+nq,by go_num,by omega,by omega,by rw[HW.out];exact putRow_drewN _ _ _ _ _ _ _,by rw[←HS.out,scanSorted_go ltU dk b k hkb' (by rw[←HG.out,←HG.out];exact hl)]⟩
          case measure=>simp[intOf];omega)
       | (have hl:ltU (G k) (G (k - 1))=true:=by
           have h:(!ltU (G k) (G (k - 1)))=false:=by assumption
           simpa using h
          have HK:Hid (scanSorted ltU dk b i=k):=by
           show scanSorted ltU dk b i=k;rw[←HS.out,scanSorted_stop ltU dk b k (Or.inr (by rw[←HG.out,←HG.out];exact hl))]
          first
           | (at_ret
              have hv:Sort.partialInsertionSort ltU d a b=(dk,false):=by
               unfold Sort.partialInsertionSort;rw[←HO.out,pi_short ltU a b s i dk hs (by rw[HK.out];omega) (by omega)]
              rw[hv];go_ret
              exact⟨rfl,m+nq,by rw[HW.out];exact putRow_drewN _ _ _ _ _ _ _⟩)
           | (at_region 11
              have h50:¬b - a<50:=by omega
              go_region
              have hsw:((wr.drewN (nq+1)).setCell ⟨blk,off+k,none⟩ (.int .u64 (G (k - 1)))).setCell ⟨blk,off+(k - 1),none⟩ (.int .u64 (G k))=putRow zf (Sort.ahead w (m+(nq+1))) blk off (swp dk k (k - 1)):=by
               rw[HW.out,HG.out,HG.out];exact swap_worldA _ w m (nq+1) blk off dk k (k - 1) (by omega) (by omega)
              have hs1:(swp dk k (k - 1)).size=d.size:=by rw[size_swp];exact hsk
              go_wp2
              all_goals first
               | (at_loop
                  have hka:k - a≥2:=by omega
                  go_loopw [9] (fun vj wr2=>∃(j m2:Nat) (dj:Array Nat),vj=.int .i64 j∧j≤k - 1∧dj.size=d.size∧wr2=putRow zf (Sort.ahead w m2) blk off dj∧
                   shiftDown ltU j dj=shiftDown ltU (k - 1) (swp dk k (k - 1))) (fun vj _=>(intOf vj).toNat)
                  case atStart=>exact⟨k - 1,_,(swp dk k (k - 1)),by congr 1;omega,Nat.le_refl _,hs1,rfl,rfl⟩
                  case round=>
                   obtain⟨j,m2,dj,rfl,hjk,hsj,hw2,hDn⟩:=hrel;obtain⟨G,hG⟩:∃G:Nat→Nat,∀t,G t=dj[t]! :=⟨fun t=>dj[t]!,fun _=>rfl⟩
                   have hcw:∀t,t<d.size→wr.cell? ⟨blk,off+t,none⟩=some (.int .u64 (G t)):=fun t ht=>by
                    rw[hw2,hG];exact cell?_putRow _ _ _ _ d dj (holds_ahead _ _ _ _ _ _ HH.out) hsj t (by omega)
                   have hfw:∀t,t<d.size→wr.frozen? ⟨blk,off+t,none⟩=false:=fun t ht=>by
                    rw[hw2,frozen?_putRow];exact((holds_ahead _ _ m2 _ _ _ HH.out) t ht).2
                   have HW:Hid (wr=putRow zf (Sort.ahead w m2) blk off dj):=hw2;have HG:Hid (∀t,G t=dj[t]!):=hG;have HDn:Hid (shiftDown ltU j dj=shiftDown ltU (k - 1) (swp dk k (k - 1))):=hDn;clear hw2 hG hDn hsw;go_wp2
                   all_goals first
                    | (at_region 16
                       go_quiet (first | (go_at_call 279;refine Calls.quiet_of_same (jk _ _ _)));go_wp2
                       all_goals first
                        | (at_region 17
                           have hl:ltU (G j) (G (j - 1))=true:=by
                            have h:(!ltU (G j) (G (j - 1)))=false:=by assumption
                            simpa using h
                           go_region
                           all_goals go_wp2
                           go_roundw
                           case rel=>
                            refine⟨j - 1,m2+(nq+1),swp dj j (j - 1),by congr 1;omega,by omega,by rw[size_swp];exact hsj,?_,?_⟩
                            · rw[HW.out,HG.out,HG.out];exact swap_worldA _ w m2 (nq+1) blk off dj j (j - 1) (by omega) (by omega)
                            · rw[←HDn.out,shiftDown_go ltU j dj (by omega) (by rw[←HG.out,←HG.out];exact hl)]
                           case measure=>simp[intOf];omega)
                        | (
                         have hl:ltU (G j) (G (j - 1))=false:=by
                          have h:(!ltU (G j) (G (j - 1)))=true:=by assumption
                          simpa using h
                         have HD:Hid (fixDown ltU a k (swp dk k (k - 1))=dj):=by
                          show fixDown ltU a k (swp dk k (k - 1))=dj;unfold fixDown;rw[if_pos hka,←HDn.out,shiftDown_stop ltU j dj (Or.inr (by rw[←HG.out,←HG.out];exact hl))]
                         first
                          | (at_end
                             go_roundw
                             case rel=>
                              refine⟨k,s+1,_,dj,rfl,by go_num,by omega,by omega,by omega,hsj,(by first | rfl | exact HW.out | (rw[HW.out];exact putRow_drewN _ _ _ _ _ _ _)),?_⟩;rw[←HO.out,pi_go ltU a b s i k dk hs HK.out (by omega) (by omega),HD.out,show fixUp ltU b k dj=dj from by unfold fixUp;rw[if_neg (by omega)]]
                             case measure=>simp[intOf];omega)
                          | (at_loop
                             go_loopw [10] (fun vj wr2=>∃(j m3:Nat) (du:Array Nat),vj=.int .i64 j∧k+1≤j∧j≤b∧du.size=d.size∧wr2=putRow zf (Sort.ahead w m3) blk off du∧
                              shiftUp ltU b j du=shiftUp ltU b (k+1) dj) (fun vj _=>b - (intOf vj).toNat)
                             case atStart=>exact⟨k+1,_,dj,by go_num,Nat.le_refl _,by omega,hsj,(by first | rfl | exact HW.out | (rw[HW.out];exact putRow_drewN _ _ _ _ _ _ _)),rfl⟩
                             case round=>
                              obtain⟨j,m3,du,rfl,hkj,hjb,hsu,hw3,hU⟩:=hrel;obtain⟨G,hG⟩:∃G:Nat→Nat,∀t,G t=du[t]! :=⟨fun t=>du[t]!,fun _=>rfl⟩
                              have hcw:∀t,t<d.size→wr.cell? ⟨blk,off+t,none⟩=some (.int .u64 (G t)):=fun t ht=>by
                               rw[hw3,hG];exact cell?_putRow _ _ _ _ d du (holds_ahead _ _ _ _ _ _ HH.out) hsu t (by omega)
                              have hfw:∀t,t<d.size→wr.frozen? ⟨blk,off+t,none⟩=false:=fun t ht=>by
                               rw[hw3,frozen?_putRow];exact((holds_ahead _ _ m3 _ _ _ HH.out) t ht).2
                              have HW:Hid (wr=putRow zf (Sort.ahead w m3) blk off du):=hw3;have HG:Hid (∀t,G t=du[t]!):=hG;have HU:Hid (shiftUp ltU b j du=shiftUp ltU b (k+1) dj):=hU;clear hw3 hG hU;go_wp2
                              all_goals first
                               | (at_region 22
                                  go_quiet (first | (go_at_call 279;refine Calls.quiet_of_same (jk _ _ _)));go_wp2
                                  all_goals first
                                   | (at_region 23
                                      have hl:ltU (G j) (G (j - 1))=true:=by
                                       have h:(!ltU (G j) (G (j - 1)))=false:=by assumption
                                       simpa using h
                                      go_region
                                      all_goals go_wp2
                                      go_roundw
                                      case rel=>
                                       refine⟨j+1,m3+(nq+1),swp du j (j - 1),by go_num,by omega,by omega,by rw[size_swp];exact hsu,?_,?_⟩
                                       · rw[HW.out,HG.out,HG.out];exact swap_worldA _ w m3 (nq+1) blk off du j (j - 1) (by omega) (by omega)
                                       · rw[←HU.out,shiftUp_go ltU b j du (by omega) (by rw[←HG.out,←HG.out];exact hl)]
                                      case measure=>simp[intOf];omega)
                                   | (at_end
                                      have hl:ltU (G j) (G (j - 1))=false:=by
                                       have h:(!ltU (G j) (G (j - 1)))=true:=by assumption
                                       simpa using h
                                      go_roundw
                                      case rel=>
                                       refine⟨k,s+1,_,du,rfl,by go_num,by omega,by omega,by omega,hsu,(by first | rfl | exact HW.out | (rw[HW.out];exact putRow_drewN _ _ _ _ _ _ _)),?_⟩;rw[←HO.out,pi_go ltU a b s i k dk hs HK.out (by omega) (by omega),HD.out,show fixUp ltU b k dj=du from by unfold fixUp;rw[if_pos (by omega),←HU.out,shiftUp_stop ltU b j du (Or.inr (by rw[←HG.out,←HG.out];exact hl))]]
                                      case measure=>simp[intOf];omega))
                               | (at_end
                                  go_roundw
                                  case rel=>
                                   refine⟨k,s+1,_,du,rfl,by go_num,by omega,by omega,by omega,hsu,(by first | rfl | exact HW.out | (rw[HW.out];exact putRow_drewN _ _ _ _ _ _ _)),?_⟩;rw[←HO.out,pi_go ltU a b s i k dk hs HK.out (by omega) (by omega),HD.out,show fixUp ltU b k dj=du from by unfold fixUp;rw[if_pos (by omega),←HU.out,shiftUp_stop ltU b j du (Or.inl (by omega))]]
                                  case measure=>simp[intOf];omega))))
                    | (
                     have HD:Hid (fixDown ltU a k (swp dk k (k - 1))=dj):=by
                      show fixDown ltU a k (swp dk k (k - 1))=dj;unfold fixDown;rw[if_pos hka,←HDn.out,shiftDown_stop ltU j dj (Or.inl (by omega))]
                     first
                      | (at_end
                         go_roundw
                         case rel=>
                          refine⟨k,s+1,_,dj,rfl,by go_num,by omega,by omega,by omega,hsj,(by first | rfl | exact HW.out | (rw[HW.out];exact putRow_drewN _ _ _ _ _ _ _)),?_⟩;rw[←HO.out,pi_go ltU a b s i k dk hs HK.out (by omega) (by omega),HD.out,show fixUp ltU b k dj=dj from by unfold fixUp;rw[if_neg (by omega)]]
                         case measure=>simp[intOf];omega)
                      | (at_loop
                         go_loopw [10] (fun vj wr2=>∃(j m3:Nat) (du:Array Nat),vj=.int .i64 j∧k+1≤j∧j≤b∧du.size=d.size∧wr2=putRow zf (Sort.ahead w m3) blk off du∧
                          shiftUp ltU b j du=shiftUp ltU b (k+1) dj) (fun vj _=>b - (intOf vj).toNat)
                         case atStart=>exact⟨k+1,_,dj,by go_num,Nat.le_refl _,by omega,hsj,(by first | rfl | exact HW.out | (rw[HW.out];exact putRow_drewN _ _ _ _ _ _ _)),rfl⟩
                         case round=>
                          obtain⟨j,m3,du,rfl,hkj,hjb,hsu,hw3,hU⟩:=hrel;obtain⟨G,hG⟩:∃G:Nat→Nat,∀t,G t=du[t]! :=⟨fun t=>du[t]!,fun _=>rfl⟩
                          have hcw:∀t,t<d.size→wr.cell? ⟨blk,off+t,none⟩=some (.int .u64 (G t)):=fun t ht=>by
                           rw[hw3,hG];exact cell?_putRow _ _ _ _ d du (holds_ahead _ _ _ _ _ _ HH.out) hsu t (by omega)
                          have hfw:∀t,t<d.size→wr.frozen? ⟨blk,off+t,none⟩=false:=fun t ht=>by
                           rw[hw3,frozen?_putRow];exact((holds_ahead _ _ m3 _ _ _ HH.out) t ht).2
                          have HW:Hid (wr=putRow zf (Sort.ahead w m3) blk off du):=hw3;have HG:Hid (∀t,G t=du[t]!):=hG;have HU:Hid (shiftUp ltU b j du=shiftUp ltU b (k+1) dj):=hU;clear hw3 hG hU;go_wp2
                          all_goals first
                           | (at_region 22
                              go_quiet (first | (go_at_call 279;refine Calls.quiet_of_same (jk _ _ _)));go_wp2
                              all_goals first
                               | (at_region 23
                                  have hl:ltU (G j) (G (j - 1))=true:=by
                                   have h:(!ltU (G j) (G (j - 1)))=false:=by assumption
                                   simpa using h
                                  go_region
                                  all_goals go_wp2
                                  go_roundw
                                  case rel=>
                                   refine⟨j+1,m3+(nq+1),swp du j (j - 1),by go_num,by omega,by omega,by rw[size_swp];exact hsu,?_,?_⟩
                                   · rw[HW.out,HG.out,HG.out];exact swap_worldA _ w m3 (nq+1) blk off du j (j - 1) (by omega) (by omega)
                                   · rw[←HU.out,shiftUp_go ltU b j du (by omega) (by rw[←HG.out,←HG.out];exact hl)]
                                  case measure=>simp[intOf];omega)
                               | (at_end
                                  have hl:ltU (G j) (G (j - 1))=false:=by
                                   have h:(!ltU (G j) (G (j - 1)))=true:=by assumption
                                   simpa using h
                                  go_roundw
                                  case rel=>
                                   refine⟨k,s+1,_,du,rfl,by go_num,by omega,by omega,by omega,hsu,(by first | rfl | exact HW.out | (rw[HW.out];exact putRow_drewN _ _ _ _ _ _ _)),?_⟩;rw[←HO.out,pi_go ltU a b s i k dk hs HK.out (by omega) (by omega),HD.out,show fixUp ltU b k dj=du from by unfold fixUp;rw[if_pos (by omega),←HU.out,shiftUp_stop ltU b j du (Or.inr (by rw[←HG.out,←HG.out];exact hl))]]
                                  case measure=>simp[intOf];omega))
                           | (at_end
                              go_roundw
                              case rel=>
                               refine⟨k,s+1,_,du,rfl,by go_num,by omega,by omega,by omega,hsu,(by first | rfl | exact HW.out | (rw[HW.out];exact putRow_drewN _ _ _ _ _ _ _)),?_⟩;rw[←HO.out,pi_go ltU a b s i k dk hs HK.out (by omega) (by omega),HD.out,show fixUp ltU b k dj=du from by unfold fixUp;rw[if_pos (by omega),←HU.out,shiftUp_stop ltU b j du (Or.inl (by omega))]]
                              case measure=>simp[intOf];omega))))
               | (
                have HD:Hid (fixDown ltU a k (swp dk k (k - 1))=(swp dk k (k - 1))):=by
                 show fixDown ltU a k (swp dk k (k - 1))=(swp dk k (k - 1));unfold fixDown;rw[if_neg (by omega)]
                first
                 | (at_end
                    go_roundw
                    case rel=>
                     refine⟨k,s+1,_,(swp dk k (k - 1)),rfl,by go_num,by omega,by omega,by omega,hs1,(by first | rfl | exact HW.out | (rw[HW.out];exact putRow_drewN _ _ _ _ _ _ _)),?_⟩;rw[←HO.out,pi_go ltU a b s i k dk hs HK.out (by omega) (by omega),HD.out,show fixUp ltU b k (swp dk k (k - 1))=(swp dk k (k - 1)) from by unfold fixUp;rw[if_neg (by omega)]]
                    case measure=>simp[intOf];omega)
                 | (at_loop
                    go_loopw [10] (fun vj wr2=>∃(j m3:Nat) (du:Array Nat),vj=.int .i64 j∧k+1≤j∧j≤b∧du.size=d.size∧wr2=putRow zf (Sort.ahead w m3) blk off du∧
                     shiftUp ltU b j du=shiftUp ltU b (k+1) (swp dk k (k - 1))) (fun vj _=>b - (intOf vj).toNat)
                    case atStart=>exact⟨k+1,_,(swp dk k (k - 1)),by go_num,Nat.le_refl _,by omega,hs1,(by first | rfl | exact HW.out | (rw[HW.out];exact putRow_drewN _ _ _ _ _ _ _)),rfl⟩
                    case round=>
                     obtain⟨j,m3,du,rfl,hkj,hjb,hsu,hw3,hU⟩:=hrel;obtain⟨G,hG⟩:∃G:Nat→Nat,∀t,G t=du[t]! :=⟨fun t=>du[t]!,fun _=>rfl⟩
                     have hcw:∀t,t<d.size→wr.cell? ⟨blk,off+t,none⟩=some (.int .u64 (G t)):=fun t ht=>by
                      rw[hw3,hG];exact cell?_putRow _ _ _ _ d du (holds_ahead _ _ _ _ _ _ HH.out) hsu t (by omega)
                     have hfw:∀t,t<d.size→wr.frozen? ⟨blk,off+t,none⟩=false:=fun t ht=>by
                      rw[hw3,frozen?_putRow];exact((holds_ahead _ _ m3 _ _ _ HH.out) t ht).2
                     have HW:Hid (wr=putRow zf (Sort.ahead w m3) blk off du):=hw3;have HG:Hid (∀t,G t=du[t]!):=hG;have HU:Hid (shiftUp ltU b j du=shiftUp ltU b (k+1) (swp dk k (k - 1))):=hU;clear hw3 hG hU;go_wp2
                     all_goals first
                      | (at_region 22
                         go_quiet (first | (go_at_call 279;refine Calls.quiet_of_same (jk _ _ _)));go_wp2
                         all_goals first
                          | (at_region 23
                             have hl:ltU (G j) (G (j - 1))=true:=by
                              have h:(!ltU (G j) (G (j - 1)))=false:=by assumption
                              simpa using h
                             go_region
                             all_goals go_wp2
                             go_roundw
                             case rel=>
                              refine⟨j+1,m3+(nq+1),swp du j (j - 1),by go_num,by omega,by omega,by rw[size_swp];exact hsu,?_,?_⟩
                              · rw[HW.out,HG.out,HG.out];exact swap_worldA _ w m3 (nq+1) blk off du j (j - 1) (by omega) (by omega)
                              · rw[←HU.out,shiftUp_go ltU b j du (by omega) (by rw[←HG.out,←HG.out];exact hl)]
                             case measure=>simp[intOf];omega)
                          | (at_end
                             have hl:ltU (G j) (G (j - 1))=false:=by
                              have h:(!ltU (G j) (G (j - 1)))=true:=by assumption
                              simpa using h
                             go_roundw
                             case rel=>
                              refine⟨k,s+1,_,du,rfl,by go_num,by omega,by omega,by omega,hsu,(by first | rfl | exact HW.out | (rw[HW.out];exact putRow_drewN _ _ _ _ _ _ _)),?_⟩;rw[←HO.out,pi_go ltU a b s i k dk hs HK.out (by omega) (by omega),HD.out,show fixUp ltU b k (swp dk k (k - 1))=du from by unfold fixUp;rw[if_pos (by omega),←HU.out,shiftUp_stop ltU b j du (Or.inr (by rw[←HG.out,←HG.out];exact hl))]]
                             case measure=>simp[intOf];omega))
                      | (at_end
                         go_roundw
                         case rel=>
                          refine⟨k,s+1,_,du,rfl,by go_num,by omega,by omega,by omega,hsu,(by first | rfl | exact HW.out | (rw[HW.out];exact putRow_drewN _ _ _ _ _ _ _)),?_⟩;rw[←HO.out,pi_go ltU a b s i k dk hs HK.out (by omega) (by omega),HD.out,show fixUp ltU b k (swp dk k (k - 1))=du from by unfold fixUp;rw[if_pos (by omega),←HU.out,shiftUp_stop ltU b j du (Or.inl (by omega))]]
                         case measure=>simp[intOf];omega)))))
    ·
     go_quiet (first | (go_at_call 279;refine Calls.quiet_of_same (jk _ _ _)));go_wp2;obtain rfl:k=b:=by omega
     have hv:Sort.partialInsertionSort ltU d a k=(dk,true):=by
      unfold Sort.partialInsertionSort;rw[←HO.out,pi_true ltU a k s i dk hs (by rw[←HS.out,scanSorted_stop ltU dk k k (Or.inl (by omega))])]
     rw[hv];go_ret;exact⟨rfl,m+nq,by rw[HW.out];exact putRow_drewN _ _ _ _ _ _ _⟩
  ·
   obtain rfl:s=5:=by omega
   have hv:Sort.partialInsertionSort ltU d a b=(dk,false):=by
    unfold Sort.partialInsertionSort;rw[←HO.out,pi_end]
   rw[hv];go_ret;exact⟨rfl,n,rfl⟩
end
end Go.Proofs.YtdnjfnofjaoajaaGreatDoor
