/- Part 02. -/
import Derived.Sort.LotD5
import Derived.Sort.Walk7a
import Derived.Test.YtdnipikdddfhfaaGreatDoorWd01
set_option linter.unusedVariables false
set_option maxHeartbeats 16000000
namespace Go.Proofs.YtdnipikdddfhfaaGreatDoor
open Lib (hid)
section
open Go.RowKit
structure Byts (w:World) (a:Option Addr) (n cap:Nat) (l:List Nat):Prop where
 len:l.length=n
 lt:∀x∈l,x<256
 room:n≤cap
 most:cap≤9223372036854775807
 nilc:a=none→cap=0
 cells:0<n→∃b o,a=some ⟨b,o,none⟩∧∀i,i<n→w.cell? ⟨b,o+i,none⟩=some (.int .u8 ((nth l i:Nat):Int))
theorem zh {w:World} {p:Addr} {v:Value} (h:w.cell? p=some v):p.block<w.heap.size:=by
 rcases Nat.lt_or_ge p.block w.heap.size with h' | h'
 · exact h'
 · simp[World.cell?,Array.getElem?_eq_none h'] at h
theorem Byts.below {w w':World} {a:Option Addr} {n cap:Nat} {l:List Nat} (h:Byts w a n cap l) (hb:Below w.heap.size w w'):Byts w' a n cap l:=by
 refine⟨h.len,h.lt,h.room,h.most,h.nilc,fun hn=>?_⟩;obtain⟨b,o,ha,hc⟩:=h.cells hn;refine⟨b,o,ha,fun i hi=>?_⟩;have:=hc i hi;rw[←this];exact hb.cell (p:=⟨b,o+i,none⟩) (zh this)
theorem zbc {k:IntKind} {a b:Int} (h:a=b):Ending.returned (.int k a)=.returned (.int k b):=by rw[h]
theorem zdq {a b:Bool} (h:a=b):Ending.returned (.bool a)=.returned (.bool b):=by rw[h]
theorem yk (b o i:Nat):((⟨b,o,none⟩:Addr).add i)=⟨b,o+i,none⟩:=by
 unfold Addr.add;split
 · subst_vars;rfl
 · simp
theorem yr {w w1 w2:World} {row:Option Nat} (h:w.grownBy w1 row) (k:w1.grownBy w2 row):w.grownBy w2 row:=
 ⟨k.os.trans h.os,k.tape.trans h.tape,k.output.trans h.output,Nat.le_trans h.size k.size,fun i hi hne=>(k.block i (Nat.lt_of_lt_of_le hi h.size) hne).trans (h.block i hi hne)⟩
theorem zi5 (w:World) (b n:Nat) (C:Array Value) (l:List Nat) (T:TypeId) (fr:Nat×Nat) (hb:b=w.heap.size) (hn:l.length=n) (hC:C=(u8s l).toArray) (hl:∀x∈l,x<256) (hm:n≤9223372036854775807):
 Byts (w.alloc (.cells C T fr)) (some ⟨b,0,none⟩) n n l:=by
 subst hb hC;refine⟨hn,hl,Nat.le_refl _,hm,(by intro h;cases h),fun _=>⟨_,_,rfl,fun i hi=>?_⟩⟩;rw[World.cell?_alloc_mark];have hi':i<l.length:=by omega
 simp[u8s,nth,hi']
theorem zt3 (w:World):Byts w none 0 0 []:=⟨rfl,by simp,by omega,by omega,fun _=>rfl,fun h=>by omega⟩
theorem zmb {w:World} {base n:Nat} {T:TypeId} {v:Value} {l:List Nat} (h:w.ownsRow base T 1 v n (u8s l)) (hl:∀x∈l,x<256):∃a cap,v=.slice a n cap∧Byts w a n cap l:=by
 have hlen:l.length=n:=by have:=h.1;simpa [u8s] using this
 rcases h.2 with ⟨rfl,rfl⟩ | ⟨g,cap,cur,rfl,hg,hh,hnc,hcm,_⟩
 · exact⟨none,0,rfl,hlen,hl,by omega,by omega,fun _=>rfl,fun h=>by omega⟩
 · refine⟨_,_,rfl,hlen,hl,hnc,by unfold maxLen at hcm;omega,(by intro h;cases h),fun hn=>⟨g,0,rfl,fun i hi=>?_⟩⟩;have hc:=h.cells (g:=g) rfl i (.int .u8 ((nth l i:Nat):Int)) (zl9 l i (by omega));rw[yk] at hc;exact hc
theorem qc {w w':World} {base size n:Nat} {e:TypeId} {v:Value} {xs:List Value} (h:w.ownsRow base e size v n xs) (hb:Below w.heap.size w w'):w'.ownsRow base e size v n xs:=by
 refine⟨h.1,?_⟩;rcases h.2 with h | ⟨g,cap,cur,hv,hg,hh,r⟩
 · exact .inl h
 · exact .inr ⟨g,cap,cur,hv,hg,by rw[hb.block g (Array.getElem?_eq_some_iff.1 hh).1];exact hh,r⟩
theorem Byts.news {w:World} {x:Addr} {n cap:Nat} {l:List Nat} (h:Byts w (some x) n cap l):∀j u,(u8s l)[j]?=some u→w.cell? (x.add j)=some u:=by
 intro j u hu
 have hj:j<l.length:=by
  rcases Nat.lt_or_ge j l.length with h' | h'
  · exact h'
  · rw[List.getElem?_eq_none (by rw[zl8];exact h')] at hu;cases hu
 rw[zl9 l j hj] at hu;cases hu;obtain⟨b,o,ha,hc⟩:=h.cells (by rw[←h.len];omega);cases ha;rw[yk];exact hc j (by rw[←h.len];omega)
theorem Tryz.info_u8:(Tryz.prog.info? 5).map (fun i=>(i.zero,i.size,i.bytes))=some (some (.int .u8 0),1,1):=by kernel_rfl
theorem jh {P:Program} {w:World} {ops:Array Oper} {rest:List Oper} {o:Oper} {a:Act} {Q:Exit→Act→World→Prop} (s x:Operand) (t:TypeId)
 (ho:o.op=.call { callee:=.builtin .append,args:= #[s,x],argTypes:= #[t,t] }) (hw:Region.wanted o (yielded ops a.tmps)=true)
 (v u:Value) (hs:a.eval s=v) (hx:a.eval x=u) (v':Value) (w':World) (hrun:(Builtin.append_ #[t,t] o.type #[v,u]).run P w=.ok v' w')
 (h:wpList P ops Q rest (a.put o.dst v') w'):wpList P ops Q (o :: rest) a w:=by
 refine wpList_step fun K hK=>?_
 rw[if_pos hw];unfold Oper.wp;simp[execOp,ho,resolve,invoke,builtin,hs,hx,hrun,Result.andThen];exact hK _ _ h
def zt4 (k:IntKind) (w:World) (a:Option Addr) (len cap:Nat) (zs:List Int):Prop:=
 (a=none∧len=0∧cap=0∧zs=[])∨
 ∃x,a=some x∧len≤cap∧cap≤maxLen∧zs.length=cap∧(∀i,i<zs.length→w.cell? (x.add i)=some (.int k (zs.getD i 0)))∧∀n∈zs,(Lit.int k n).wf=true
theorem zmc {n:Int} (h:(Lit.int .u8 n).wf=true):0≤n∧n<256:=by
 simp[Lit.wf,IntKind.min,IntKind.max,IntKind.signed,IntKind.bits] at h;omega
theorem zmd {w:World} {a:Option Addr} {len cap:Nat} {zs:List Int} (h:zt4 .u8 w a len cap zs):Byts w a len cap ((zs.take len).map Int.toNat):=by
 rcases h with ⟨rfl,rfl,rfl,rfl⟩ | ⟨x,rfl,hl,hm,hz,hc,hw⟩
 · exact zt3 w
 · refine⟨by simp;omega,?_,hl,by unfold maxLen at hm;omega,(by intro h;cases h),fun hn=>?_⟩
   · intro y hy;simp only[List.mem_map] at hy;obtain⟨z,hzm,rfl⟩:=hy;have:=zmc (hw z (List.mem_of_mem_take hzm));omega
   · have h0:=hc 0 (by omega);have hx:x.add 0=x:=rfl;rw[hx] at h0;obtain⟨b,o,sp⟩:=x
     have hsp:sp=none:=by
      cases sp with
      | none=>rfl
      | some k=>
       unfold World.cell? at h0;split at h0 <;> simp at h0
     subst hsp;refine⟨b,o,rfl,fun i hi=>?_⟩;have h1:=hc i (by omega);rw[yk] at h1;rw[h1];have hlt:i<zs.length:=by omega
     have hb:=zmc (hw zs[i] (List.getElem_mem hlt))
     have:nth ((zs.take len).map Int.toNat) i=(zs.getD i 0).toNat:=by
      simp[nth,hi,hlt]
     rw[this];congr 2;rw[List.getD_eq_getElem?_getD,List.getElem?_eq_getElem hlt];simp;omega
end
section
open Go.RowKit Go.Sort
theorem zt5 (rb ro X:Nat) (hX:X<18446744073709551616) (w:World) (hc:w.cell? ⟨rb,ro,none⟩=some (.int .u64 X)) (hf:w.frozen? ⟨rb,ro,none⟩=false):
 Calls Tryz.prog 255 #[.pointer (some ⟨rb,ro,none⟩)] w fun e w'=>e=.returned (.int .u64 (xorNextN X:Nat))∧w'=(w.setCell ⟨rb,ro,none⟩ (.int .u64 (xorNextN X:Nat))).drewN 3:=by
 obtain⟨A,hA⟩:∃A:Nat,A=X ^^^ (X*8192 % 18446744073709551616):=⟨_,rfl⟩;obtain⟨B,hB⟩:∃B:Nat,B=A ^^^ (A / 128):=⟨_,rfl⟩;obtain⟨C,hC⟩:∃C:Nat,C=B ^^^ (B*131072 % 18446744073709551616):=⟨_,rfl⟩;have lA:A<18446744073709551616:=by rw[hA];exact Nat.xor_lt_two_pow (n:=64) (by omega) (by omega)
 have lB:B<18446744073709551616:=by rw[hB];exact Nat.xor_lt_two_pow (n:=64) (by omega) (by omega)
 have e1:bits .xor .u64 (X:Int) (IntKind.u64.wrap ((X:Int)*8192))=(A:Int):=by
  rw[IntKind.wrap_u64,show ((X:Int)*8192 % 18446744073709551616)=((X*8192 % 18446744073709551616:Nat):Int) by omega,bits_xor_u64_nat _ _ hX (by omega),hA]
 have e2:bits .xor .u64 (A:Int) ((A:Int) / 128)=(B:Int):=by
  rw[show ((A:Int) / 128)=((A / 128:Nat):Int) by omega,bits_xor_u64_nat _ _ lA (by omega),hB]
 have e3:bits .xor .u64 (B:Int) (IntKind.u64.wrap ((B:Int)*131072))=(C:Int):=by
  rw[IntKind.wrap_u64,show ((B:Int)*131072 % 18446744073709551616)=((B*131072 % 18446744073709551616:Nat):Int) by omega,bits_xor_u64_nat _ _ lB (by omega),hC]
 have hv:xorNextN X=C:=by unfold xorNextN;simp only[];rw[←hA,←hB,←hC]
 rw[hv];clear hA hB hC hv;have hss:∀v v',(w.setCell ⟨rb,ro,none⟩ v).setCell ⟨rb,ro,none⟩ v'=w.setCell ⟨rb,ro,none⟩ v':=setCell_setCell w rb ro;go_enter Tryz.func255,Tryz.ntmps255;go_wp2;go_region
 all_goals go_wp2
 all_goals go_region
 all_goals go_wp2
 all_goals go_region
 all_goals go_wp2
 go_ret;exact⟨rfl,rfl⟩
theorem zt6 (n:Nat) (hn:n<4611686018427387904) (w:World):
 Calls Tryz.prog 254 #[.int .i64 n] w fun e w'=>e=.returned (.int .u64 ((1 <<< bitsLen n:Nat):Int))∧w'=w:=by
 have hLen:∀w,Calls Tryz.prog 177 #[.int .u64 (n:Int)] w fun e w'=>e=.returned (.int .i64 (bitsLen n:Nat))∧w'=w:=fun w=>by
  have h:=Tryz.bits_Len (n:Int) w (by omega) (by omega);rwa [Int.toNat_natCast,bitLen_eq _ (by omega)] at h
 have hk:bitsLen n≤62:=(bitsLen_le_iff n 62).2 (by omega);have hp:=wrap_two_pow (bitsLen n) hk;go_enter Tryz.func254,Tryz.ntmps254;go_wp2_with (first | (go_at_call 177;refine(hLen _).mono ?_;rintro e w' ⟨rfl,rfl⟩));go_ret;exact⟨rfl,rfl⟩
end
section
open Go.RowKit
set_option maxRecDepth 20000 in
theorem zt7 (g o c a b:Nat) (d:Array Nat) (w:World) (hH:Sort.Holds zc w g o d) (hab:a≤b) (hb:b≤d.size) (hsz:d.size<4611686018427387904):
 Calls Tryz.prog 277 #[.slice (some ⟨g,o,none⟩) d.size c,.int .i64 a,.int .i64 b] w fun e w'=>
  e=.returned (.tuple #[])∧∃n,w'=Sort.putRow zc (Sort.ahead w n) g o (Sort.insertionSort ltU d a b):=by
 have HH:=hid hH;have H0:=hid (Sort.putRow_self zc w g o d hH).symm;clear hH;go_enter Tryz.func277,Tryz.ntmps277;go_wp2
 go_loopw [6] (fun vi wr=>∃(i n:Nat) (dk:Array Nat),vi=.int .i64 i∧a<i∧i≤b+1∧dk.size=d.size∧Hid (wr=Sort.putRow zc (Sort.ahead w n) g o dk)∧
  Hid (Sort.insOuter ltU a b i dk=Sort.insOuter ltU a b (a+1) d)) (fun vi _=>b+1 - (intOf vi).toNat)
 case atStart=>exact⟨a+1,0,d,by go_num,by omega,by omega,rfl,H0,rfl⟩
 case round=>
  obtain⟨i,n,dk,rfl,hai,hib,hsk,HW,HO⟩:=hrel;by_cases hlt:i<b
  · go_wp2
    go_loopw [7] (fun vj wr2=>∃(j m:Nat) (dj:Array Nat),vj=.int .i64 j∧a≤j∧j≤i∧dj.size=d.size∧Hid (wr2=Sort.putRow zc (Sort.ahead w m) g o dj)∧
     Hid (Sort.insInner ltU a j dj=Sort.insInner ltU a i dk)) (fun vj _=>(intOf vj).toNat)
    case atStart=>exact⟨i,n,dk,rfl,by omega,Nat.le_refl _,hsk,HW,rfl⟩
    case round=>
     obtain⟨j,m,dj,rfl,haj,hji,hsj,HW2,HI⟩:=hrel;obtain⟨G,⟨hcw,hfw,hG⟩⟩:=zgm (zfg HH.out hsj HW2.out) hsj;have HG:=hid hG
     have OUT:=hid (fun (hs:j≤a∨ltU dj[j]! dj[j - 1]! =false) q=>show ∃(i' n':Nat) (dk':Array Nat),Value.int .i64 ((i:Int)+1)=.int .i64 (i':Nat)∧a<i'∧i'≤b+1∧dk'.size=d.size∧
      Hid (wr.drewN q=Sort.putRow zc (Sort.ahead w n') g o dk')∧Hid (Sort.insOuter ltU a b i' dk'=Sort.insOuter ltU a b (a+1) d) from
      ⟨i+1,m+q,dj,by go_num,by omega,by omega,hsj,(by rw[HW2.out];exact putRow_drewN _ _ _ _ _ _ _),
       (by show _=_;rw[←HO.out,insOuter_go _ _ _ _ _ hlt,←HI.out,insInner_stop _ _ _ _ hs])⟩)
     clear hG;go_wp2;by_cases hja:a<j
     · go_quiet (first | (go_at_call 283;refine Calls.quiet_of_same (qw _ _ _)));go_wp2
       · have hl:ltU (G j) (G (j - 1))=true:=by assumption
         go_region
         all_goals go_wp2
         go_roundw
         case rel=>
          refine⟨j - 1,m+(nq+1),Sort.swp dj j (j - 1),by congr 1;omega,by omega,by omega,by rw[Sort.size_swp];exact hsj,?_,?_⟩
          · show _=_;rw[HG.out,HG.out];exact zgn HW2.out (nq+1) j (j - 1) (by omega) (by omega)
          · show _=_;rw[←HI.out,insInner_go ltU a j dj hja (by rw[←HG.out,←HG.out];exact hl)]
         case measure=>simp[intOf];omega
       · have hl:ltU (G j) (G (j - 1))=false:=by assumption
         go_roundw
         case rel=>exact OUT.out (Or.inr (by rw[←HG.out,←HG.out];exact hl)) nq
         case measure=>simp[intOf];omega
     · go_quiet (first | (go_at_call 283;refine Calls.quiet_of_same (qw _ _ _)));go_wp2;go_roundw
       case rel=>exact OUT.out (Or.inl (by omega)) nq
       case measure=>simp[intOf];omega
  · go_wp2;go_end0
    exact⟨rfl,n,by rw[HW.out];unfold Sort.insertionSort;rw[←HO.out,insOuter_stop _ _ _ _ _ hlt]⟩
end
section
open Go.RowKit Go.Sort
set_option maxRecDepth 100000 in
theorem zt8 (blk off cap a b:Nat) (d:Array Nat) (w:World) (hH:Holds zc w blk off d) (hab:a<b) (hb:b≤d.size) (hsz:d.size<4611686018427387904):
 Calls Tryz.prog 282 #[.slice (some ⟨blk,off,none⟩) d.size cap,.int .i64 a,.int .i64 b] w fun e w'=>
  e=.returned (.bool (Sort.partialInsertionSort ltU d a b).2)∧∃n,w'=putRow zc (Sort.ahead w n) blk off (Sort.partialInsertionSort ltU d a b).1:=by
 have HH:Hid (Holds zc w blk off d):=hH;have HST:Hid (w=putRow zc (Sort.ahead w 0) blk off d):=(putRow_self _ _ _ _ _ hH).symm;clear hH;go_enter Tryz.func282,Tryz.ntmps282;go_wp2
 go_loopw [7,8] (fun vi vs wr=>∃(i s n:Nat) (dk:Array Nat),vi=.int .i64 i∧vs=.int .i64 s∧s≤5∧a<i∧i≤b∧dk.size=d.size∧wr=putRow zc (Sort.ahead w n) blk off dk∧
  partialIns ltU a b (5 - s) i dk=partialIns ltU a b 5 (a+1) d) (fun _ vs _=>5 - (intOf vs).toNat)
 case atStart=>exact⟨a+1,0,0,d,by go_num,rfl,by omega,by omega,by omega,rfl,HST.out,rfl⟩
 case round=>
  obtain⟨i,s,n,dk,rfl,rfl,hs5,hai,hib,hsk,hwr,hO⟩:=hrel;have HO:Hid (partialIns ltU a b (5 - s) i dk=partialIns ltU a b 5 (a+1) d):=hO;clear hO;go_wp2
  ·
   have hs:s<5:=by omega
   go_loopw [7] (fun vi wr2=>∃(k m:Nat),vi=.int .i64 k∧i≤k∧k≤b∧wr2=putRow zc (Sort.ahead w m) blk off dk∧scanSorted ltU dk b k=scanSorted ltU dk b i) (fun vi _=>b - (intOf vi).toNat)
   case atStart=>exact⟨i,n,rfl,Nat.le_refl _,hib,rfl,rfl⟩
   case round=>
    obtain⟨k,m,rfl,hik,hkb,hw2,hS⟩:=hrel;obtain⟨G,hG⟩:∃G:Nat→Nat,∀t,G t=dk[t]! :=⟨fun t=>dk[t]!,fun _=>rfl⟩
    have hcw:∀t,t<d.size→wr.cell? ⟨blk,off+t,none⟩=some (.int .u64 (G t)):=fun t ht=>by
     rw[hw2,hG];exact cell?_putRow _ _ _ _ d dk (holds_ahead _ _ _ _ _ _ HH.out) hsk t (by omega)
    have hfw:∀t,t<d.size→wr.frozen? ⟨blk,off+t,none⟩=false:=fun t ht=>by
     rw[hw2,frozen?_putRow];exact((holds_ahead _ _ m _ _ _ HH.out) t ht).2
    have HW:Hid (wr=putRow zc (Sort.ahead w m) blk off dk):=hw2;have HG:Hid (∀t,G t=dk[t]!):=hG;have HS:Hid (scanSorted ltU dk b k=scanSorted ltU dk b i):=hS;clear hw2 hG hS;go_wp2;by_cases hkb':k<b
    · go_quiet (first | (go_at_call 283;refine Calls.quiet_of_same (qw _ _ _)));go_wp2
      all_goals first
       | (at_end
          have hl:ltU (G k) (G (k - 1))=false:=by
           have h:(!ltU (G k) (G (k - 1)))=true:=by assumption
           simpa using h
          go_roundw
          case rel=>exact⟨k+1,m+nq,by go_num,by omega,by omega,by rw[HW.out];exact putRow_drewN _ _ _ _ _ _ _,by rw[←HS.out,scanSorted_go ltU dk b k hkb' (by rw[←HG.out,←HG.out];exact hl)]⟩
          case measure=>simp[intOf];omega)
       | (have hl:ltU (G k) (G (k - 1))=true:=by
           have h:(!ltU (G k) (G (k - 1)))=false:=by assumption
           simpa using h
          have HK:Hid (scanSorted ltU dk b i=k):=by
           show scanSorted ltU dk b i=k;rw[←HS.out,scanSorted_stop ltU dk b k (Or.inr (by rw[←HG.out,←HG.out];exact hl))]
          first
           | (at_ret
              have hv:Sort.partialInsertionSort ltU d a b=(dk,false):=by
               unfold Sort.partialInsertionSort;rw[←HO.out,pi_short ltU a b s i dk hs (by rw[HK.out];omega) (by omega)]
              rw[hv];go_ret
              exact⟨rfl,m+nq,by rw[HW.out];exact putRow_drewN _ _ _ _ _ _ _⟩)
           | (at_region 11
              have h50:¬b - a<50:=by omega
              go_region
              have hsw:((wr.drewN (nq+1)).setCell ⟨blk,off+k,none⟩ (.int .u64 (G (k - 1)))).setCell ⟨blk,off+(k - 1),none⟩ (.int .u64 (G k))=putRow zc (Sort.ahead w (m+(nq+1))) blk off (swp dk k (k - 1)):=by
               rw[HW.out,HG.out,HG.out];exact swap_worldA _ w m (nq+1) blk off dk k (k - 1) (by omega) (by omega)
              have hs1:(swp dk k (k - 1)).size=d.size:=by rw[size_swp];exact hsk
              go_wp2
              all_goals first
               | (at_loop
                  have hka:k - a≥2:=by omega
                  go_loopw [9] (fun vj wr2=>∃(j m2:Nat) (dj:Array Nat),vj=.int .i64 j∧j≤k - 1∧dj.size=d.size∧wr2=putRow zc (Sort.ahead w m2) blk off dj∧
                   shiftDown ltU j dj=shiftDown ltU (k - 1) (swp dk k (k - 1))) (fun vj _=>(intOf vj).toNat)
                  case atStart=>exact⟨k - 1,_,(swp dk k (k - 1)),by congr 1;omega,Nat.le_refl _,hs1,rfl,rfl⟩
                  case round=>
                   obtain⟨j,m2,dj,rfl,hjk,hsj,hw2,hDn⟩:=hrel;obtain⟨G,hG⟩:∃G:Nat→Nat,∀t,G t=dj[t]! :=⟨fun t=>dj[t]!,fun _=>rfl⟩
                   have hcw:∀t,t<d.size→wr.cell? ⟨blk,off+t,none⟩=some (.int .u64 (G t)):=fun t ht=>by
                    rw[hw2,hG];exact cell?_putRow _ _ _ _ d dj (holds_ahead _ _ _ _ _ _ HH.out) hsj t (by omega)
                   have hfw:∀t,t<d.size→wr.frozen? ⟨blk,off+t,none⟩=false:=fun t ht=>by
                    rw[hw2,frozen?_putRow];exact((holds_ahead _ _ m2 _ _ _ HH.out) t ht).2
                   have HW:Hid (wr=putRow zc (Sort.ahead w m2) blk off dj):=hw2;have HG:Hid (∀t,G t=dj[t]!):=hG;have HDn:Hid (shiftDown ltU j dj=shiftDown ltU (k - 1) (swp dk k (k - 1))):=hDn;clear hw2 hG hDn hsw;go_wp2
                   all_goals first
                    | (at_region 16
                       go_quiet (first | (go_at_call 283;refine Calls.quiet_of_same (qw _ _ _)));go_wp2
                       all_goals first
                        | (at_region 17
                           have hl:ltU (G j) (G (j - 1))=true:=by
                            have h:(!ltU (G j) (G (j - 1)))=false:=by assumption
                            simpa using h
                           go_region
                           all_goals go_wp2
                           go_roundw
                           case rel=>
                            refine⟨j - 1,m2+(nq+1),swp dj j (j - 1),by congr 1;omega,by omega,by rw[size_swp];exact hsj,?_,?_⟩
                            · rw[HW.out,HG.out,HG.out];exact swap_worldA _ w m2 (nq+1) blk off dj j (j - 1) (by omega) (by omega)
                            · rw[←HDn.out,shiftDown_go ltU j dj (by omega) (by rw[←HG.out,←HG.out];exact hl)]
                           case measure=>simp[intOf];omega)
                        | (
                         have hl:ltU (G j) (G (j - 1))=false:=by
                          have h:(!ltU (G j) (G (j - 1)))=true:=by assumption
                          simpa using h
                         have HD:Hid (fixDown ltU a k (swp dk k (k - 1))=dj):=by
                          show fixDown ltU a k (swp dk k (k - 1))=dj;unfold fixDown;rw[if_pos hka,←HDn.out,shiftDown_stop ltU j dj (Or.inr (by rw[←HG.out,←HG.out];exact hl))]
                         first
                          | (at_end
                             go_roundw
                             case rel=>
                              refine⟨k,s+1,_,dj,rfl,by go_num,by omega,by omega,by omega,hsj,(by first | rfl | exact HW.out | (rw[HW.out];exact putRow_drewN _ _ _ _ _ _ _)),?_⟩;rw[←HO.out,pi_go ltU a b s i k dk hs HK.out (by omega) (by omega),HD.out,show fixUp ltU b k dj=dj from by unfold fixUp;rw[if_neg (by omega)]]
                             case measure=>simp[intOf];omega)
                          | (at_loop
                             go_loopw [10] (fun vj wr2=>∃(j m3:Nat) (du:Array Nat),vj=.int .i64 j∧k+1≤j∧j≤b∧du.size=d.size∧wr2=putRow zc (Sort.ahead w m3) blk off du∧
                              shiftUp ltU b j du=shiftUp ltU b (k+1) dj) (fun vj _=>b - (intOf vj).toNat)
                             case atStart=>exact⟨k+1,_,dj,by go_num,Nat.le_refl _,by omega,hsj,(by first | rfl | exact HW.out | (rw[HW.out];exact putRow_drewN _ _ _ _ _ _ _)),rfl⟩
                             case round=>
                              obtain⟨j,m3,du,rfl,hkj,hjb,hsu,hw3,hU⟩:=hrel;obtain⟨G,hG⟩:∃G:Nat→Nat,∀t,G t=du[t]! :=⟨fun t=>du[t]!,fun _=>rfl⟩
                              have hcw:∀t,t<d.size→wr.cell? ⟨blk,off+t,none⟩=some (.int .u64 (G t)):=fun t ht=>by
                               rw[hw3,hG];exact cell?_putRow _ _ _ _ d du (holds_ahead _ _ _ _ _ _ HH.out) hsu t (by omega)
                              have hfw:∀t,t<d.size→wr.frozen? ⟨blk,off+t,none⟩=false:=fun t ht=>by
                               rw[hw3,frozen?_putRow];exact((holds_ahead _ _ m3 _ _ _ HH.out) t ht).2
                              have HW:Hid (wr=putRow zc (Sort.ahead w m3) blk off du):=hw3;have HG:Hid (∀t,G t=du[t]!):=hG;have HU:Hid (shiftUp ltU b j du=shiftUp ltU b (k+1) dj):=hU;clear hw3 hG hU;go_wp2
                              all_goals first
                               | (at_region 22
                                  go_quiet (first | (go_at_call 283;refine Calls.quiet_of_same (qw _ _ _)));go_wp2
                                  all_goals first
                                   | (at_region 23
                                      have hl:ltU (G j) (G (j - 1))=true:=by
                                       have h:(!ltU (G j) (G (j - 1)))=false:=by assumption
                                       simpa using h
                                      go_region
                                      all_goals go_wp2
                                      go_roundw
                                      case rel=>
                                       refine⟨j+1,m3+(nq+1),swp du j (j - 1),by go_num,by omega,by omega,by rw[size_swp];exact hsu,?_,?_⟩
                                       · rw[HW.out,HG.out,HG.out];exact swap_worldA _ w m3 (nq+1) blk off du j (j - 1) (by omega) (by omega)
                                       · rw[←HU.out,shiftUp_go ltU b j du (by omega) (by rw[←HG.out,←HG.out];exact hl)]
                                      case measure=>simp[intOf];omega)
                                   | (at_end
                                      have hl:ltU (G j) (G (j - 1))=false:=by
                                       have h:(!ltU (G j) (G (j - 1)))=true:=by assumption
                                       simpa using h
                                      go_roundw
                                      case rel=>
                                       refine⟨k,s+1,_,du,rfl,by go_num,by omega,by omega,by omega,hsu,(by first | rfl | exact HW.out | (rw[HW.out];exact putRow_drewN _ _ _ _ _ _ _)),?_⟩;rw[←HO.out,pi_go ltU a b s i k dk hs HK.out (by omega) (by omega),HD.out,show fixUp ltU b k dj=du from by unfold fixUp;rw[if_pos (by omega),←HU.out,shiftUp_stop ltU b j du (Or.inr (by rw[←HG.out,←HG.out];exact hl))]]
                                      case measure=>simp[intOf];omega))
                               | (at_end
                                  go_roundw
                                  case rel=>
                                   refine⟨k,s+1,_,du,rfl,by go_num,by omega,by omega,by omega,hsu,(by first | rfl | exact HW.out | (rw[HW.out];exact putRow_drewN _ _ _ _ _ _ _)),?_⟩;rw[←HO.out,pi_go ltU a b s i k dk hs HK.out (by omega) (by omega),HD.out,show fixUp ltU b k dj=du from by unfold fixUp;rw[if_pos (by omega),←HU.out,shiftUp_stop ltU b j du (Or.inl (by omega))]]
                                  case measure=>simp[intOf];omega))))
                    | (
                     have HD:Hid (fixDown ltU a k (swp dk k (k - 1))=dj):=by
                      show fixDown ltU a k (swp dk k (k - 1))=dj;unfold fixDown;rw[if_pos hka,←HDn.out,shiftDown_stop ltU j dj (Or.inl (by omega))]
                     first
                      | (at_end
                         go_roundw
                         case rel=>
                          refine⟨k,s+1,_,dj,rfl,by go_num,by omega,by omega,by omega,hsj,(by first | rfl | exact HW.out | (rw[HW.out];exact putRow_drewN _ _ _ _ _ _ _)),?_⟩;rw[←HO.out,pi_go ltU a b s i k dk hs HK.out (by omega) (by omega),HD.out,show fixUp ltU b k dj=dj from by unfold fixUp;rw[if_neg (by omega)]]
                         case measure=>simp[intOf];omega)
                      | (at_loop
                         go_loopw [10] (fun vj wr2=>∃(j m3:Nat) (du:Array Nat),vj=.int .i64 j∧k+1≤j∧j≤b∧du.size=d.size∧wr2=putRow zc (Sort.ahead w m3) blk off du∧
                          shiftUp ltU b j du=shiftUp ltU b (k+1) dj) (fun vj _=>b - (intOf vj).toNat)
                         case atStart=>exact⟨k+1,_,dj,by go_num,Nat.le_refl _,by omega,hsj,(by first | rfl | exact HW.out | (rw[HW.out];exact putRow_drewN _ _ _ _ _ _ _)),rfl⟩
                         case round=>
                          obtain⟨j,m3,du,rfl,hkj,hjb,hsu,hw3,hU⟩:=hrel;obtain⟨G,hG⟩:∃G:Nat→Nat,∀t,G t=du[t]! :=⟨fun t=>du[t]!,fun _=>rfl⟩
                          have hcw:∀t,t<d.size→wr.cell? ⟨blk,off+t,none⟩=some (.int .u64 (G t)):=fun t ht=>by
                           rw[hw3,hG];exact cell?_putRow _ _ _ _ d du (holds_ahead _ _ _ _ _ _ HH.out) hsu t (by omega)
                          have hfw:∀t,t<d.size→wr.frozen? ⟨blk,off+t,none⟩=false:=fun t ht=>by
                           rw[hw3,frozen?_putRow];exact((holds_ahead _ _ m3 _ _ _ HH.out) t ht).2
                          have HW:Hid (wr=putRow zc (Sort.ahead w m3) blk off du):=hw3;have HG:Hid (∀t,G t=du[t]!):=hG;have HU:Hid (shiftUp ltU b j du=shiftUp ltU b (k+1) dj):=hU;clear hw3 hG hU;go_wp2
                          all_goals first
                           | (at_region 22
                              go_quiet (first | (go_at_call 283;refine Calls.quiet_of_same (qw _ _ _)));go_wp2
                              all_goals first
                               | (at_region 23
                                  have hl:ltU (G j) (G (j - 1))=true:=by
                                   have h:(!ltU (G j) (G (j - 1)))=false:=by assumption
                                   simpa using h
                                  go_region
                                  all_goals go_wp2
                                  go_roundw
                                  case rel=>
                                   refine⟨j+1,m3+(nq+1),swp du j (j - 1),by go_num,by omega,by omega,by rw[size_swp];exact hsu,?_,?_⟩
                                   · rw[HW.out,HG.out,HG.out];exact swap_worldA _ w m3 (nq+1) blk off du j (j - 1) (by omega) (by omega)
                                   · rw[←HU.out,shiftUp_go ltU b j du (by omega) (by rw[←HG.out,←HG.out];exact hl)]
                                  case measure=>simp[intOf];omega)
                               | (at_end
                                  have hl:ltU (G j) (G (j - 1))=false:=by
                                   have h:(!ltU (G j) (G (j - 1)))=true:=by assumption
                                   simpa using h
                                  go_roundw
                                  case rel=>
                                   refine⟨k,s+1,_,du,rfl,by go_num,by omega,by omega,by omega,hsu,(by first | rfl | exact HW.out | (rw[HW.out];exact putRow_drewN _ _ _ _ _ _ _)),?_⟩;rw[←HO.out,pi_go ltU a b s i k dk hs HK.out (by omega) (by omega),HD.out,show fixUp ltU b k dj=du from by unfold fixUp;rw[if_pos (by omega),←HU.out,shiftUp_stop ltU b j du (Or.inr (by rw[←HG.out,←HG.out];exact hl))]]
                                  case measure=>simp[intOf];omega))
                           | (at_end
                              go_roundw
                              case rel=>
                               refine⟨k,s+1,_,du,rfl,by go_num,by omega,by omega,by omega,hsu,(by first | rfl | exact HW.out | (rw[HW.out];exact putRow_drewN _ _ _ _ _ _ _)),?_⟩;rw[←HO.out,pi_go ltU a b s i k dk hs HK.out (by omega) (by omega),HD.out,show fixUp ltU b k dj=du from by unfold fixUp;rw[if_pos (by omega),←HU.out,shiftUp_stop ltU b j du (Or.inl (by omega))]]
                              case measure=>simp[intOf];omega))))
               | (
                have HD:Hid (fixDown ltU a k (swp dk k (k - 1))=(swp dk k (k - 1))):=by
                 show fixDown ltU a k (swp dk k (k - 1))=(swp dk k (k - 1));unfold fixDown;rw[if_neg (by omega)]
                first
                 | (at_end
                    go_roundw
                    case rel=>
                     refine⟨k,s+1,_,(swp dk k (k - 1)),rfl,by go_num,by omega,by omega,by omega,hs1,(by first | rfl | exact HW.out | (rw[HW.out];exact putRow_drewN _ _ _ _ _ _ _)),?_⟩;rw[←HO.out,pi_go ltU a b s i k dk hs HK.out (by omega) (by omega),HD.out,show fixUp ltU b k (swp dk k (k - 1))=(swp dk k (k - 1)) from by unfold fixUp;rw[if_neg (by omega)]]
                    case measure=>simp[intOf];omega)
                 | (at_loop
                    go_loopw [10] (fun vj wr2=>∃(j m3:Nat) (du:Array Nat),vj=.int .i64 j∧k+1≤j∧j≤b∧du.size=d.size∧wr2=putRow zc (Sort.ahead w m3) blk off du∧
                     shiftUp ltU b j du=shiftUp ltU b (k+1) (swp dk k (k - 1))) (fun vj _=>b - (intOf vj).toNat)
                    case atStart=>exact⟨k+1,_,(swp dk k (k - 1)),by go_num,Nat.le_refl _,by omega,hs1,(by first | rfl | exact HW.out | (rw[HW.out];exact putRow_drewN _ _ _ _ _ _ _)),rfl⟩
                    case round=>
                     obtain⟨j,m3,du,rfl,hkj,hjb,hsu,hw3,hU⟩:=hrel;obtain⟨G,hG⟩:∃G:Nat→Nat,∀t,G t=du[t]! :=⟨fun t=>du[t]!,fun _=>rfl⟩
                     have hcw:∀t,t<d.size→wr.cell? ⟨blk,off+t,none⟩=some (.int .u64 (G t)):=fun t ht=>by
                      rw[hw3,hG];exact cell?_putRow _ _ _ _ d du (holds_ahead _ _ _ _ _ _ HH.out) hsu t (by omega)
                     have hfw:∀t,t<d.size→wr.frozen? ⟨blk,off+t,none⟩=false:=fun t ht=>by
                      rw[hw3,frozen?_putRow];exact((holds_ahead _ _ m3 _ _ _ HH.out) t ht).2
                     have HW:Hid (wr=putRow zc (Sort.ahead w m3) blk off du):=hw3;have HG:Hid (∀t,G t=du[t]!):=hG;have HU:Hid (shiftUp ltU b j du=shiftUp ltU b (k+1) (swp dk k (k - 1))):=hU;clear hw3 hG hU;go_wp2
                     all_goals first
                      | (at_region 22
                         go_quiet (first | (go_at_call 283;refine Calls.quiet_of_same (qw _ _ _)));go_wp2
                         all_goals first
                          | (at_region 23
                             have hl:ltU (G j) (G (j - 1))=true:=by
                              have h:(!ltU (G j) (G (j - 1)))=false:=by assumption
                              simpa using h
                             go_region
                             all_goals go_wp2
                             go_roundw
                             case rel=>
                              refine⟨j+1,m3+(nq+1),swp du j (j - 1),by go_num,by omega,by omega,by rw[size_swp];exact hsu,?_,?_⟩
                              · rw[HW.out,HG.out,HG.out];exact swap_worldA _ w m3 (nq+1) blk off du j (j - 1) (by omega) (by omega)
                              · rw[←HU.out,shiftUp_go ltU b j du (by omega) (by rw[←HG.out,←HG.out];exact hl)]
                             case measure=>simp[intOf];omega)
                          | (at_end
                             have hl:ltU (G j) (G (j - 1))=false:=by
                              have h:(!ltU (G j) (G (j - 1)))=true:=by assumption
                              simpa using h
                             go_roundw
                             case rel=>
                              refine⟨k,s+1,_,du,rfl,by go_num,by omega,by omega,by omega,hsu,(by first | rfl | exact HW.out | (rw[HW.out];exact putRow_drewN _ _ _ _ _ _ _)),?_⟩;rw[←HO.out,pi_go ltU a b s i k dk hs HK.out (by omega) (by omega),HD.out,show fixUp ltU b k (swp dk k (k - 1))=du from by unfold fixUp;rw[if_pos (by omega),←HU.out,shiftUp_stop ltU b j du (Or.inr (by rw[←HG.out,←HG.out];exact hl))]]
                             case measure=>simp[intOf];omega))
                      | (at_end
                         go_roundw
                         case rel=>
                          refine⟨k,s+1,_,du,rfl,by go_num,by omega,by omega,by omega,hsu,(by first | rfl | exact HW.out | (rw[HW.out];exact putRow_drewN _ _ _ _ _ _ _)),?_⟩;rw[←HO.out,pi_go ltU a b s i k dk hs HK.out (by omega) (by omega),HD.out,show fixUp ltU b k (swp dk k (k - 1))=du from by unfold fixUp;rw[if_pos (by omega),←HU.out,shiftUp_stop ltU b j du (Or.inl (by omega))]]
                         case measure=>simp[intOf];omega)))))
    ·
     go_quiet (first | (go_at_call 283;refine Calls.quiet_of_same (qw _ _ _)));go_wp2;obtain rfl:k=b:=by omega
     have hv:Sort.partialInsertionSort ltU d a k=(dk,true):=by
      unfold Sort.partialInsertionSort;rw[←HO.out,pi_true ltU a k s i dk hs (by rw[←HS.out,scanSorted_stop ltU dk k k (Or.inl (by omega))])]
     rw[hv];go_ret;exact⟨rfl,m+nq,by rw[HW.out];exact putRow_drewN _ _ _ _ _ _ _⟩
  ·
   obtain rfl:s=5:=by omega
   have hv:Sort.partialInsertionSort ltU d a b=(dk,false):=by
    unfold Sort.partialInsertionSort;rw[←HO.out,pi_end]
   rw[hv];go_ret;exact⟨rfl,n,rfl⟩
