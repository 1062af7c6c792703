/- Walks and laws, joined: Wb38. -/
import Derived.Test.YtdnjfnofjaoajaaGreatDoorWb37
set_option linter.unusedVariables false
set_option maxHeartbeats 16000000
namespace Go.Proofs.YtdnjfnofjaoajaaGreatDoor
open Lib (hid)
section
open Go.RowKit
theorem z8w {α:Type} (l:List α) (d:α) (k:Nat) (h:k<l.length):l.take (k+1)=l.take k++[l.getD k d]:=by
 rw[List.take_succ_eq_append_getElem h];simp[h]
theorem z8x (l:List Iv) (s:Iv):yh (l++[s])=yh l++bnd s:=by simp[yh]
theorem z8y {s:Iv} (h:s.1<18446744073709551616∧s.2<18446744073709551616):∀x∈bnd s,x<18446744073709551616:=by
 intro x hx;unfold bnd at hx;split at hx <;> simp at hx <;> omega
theorem zxc {α:Type} (f:α→List Nat) (l:List α) (k:Nat):((l.take k).flatMap f).length≤(l.flatMap f).length:=by
 have:l=l.take k++l.drop k:=(List.take_append_drop k l).symm;rw[show l.flatMap f=(l.take k++l.drop k).flatMap f by rw[←this],List.flatMap_append,List.length_append];omega
theorem Rls.all_lt {w:World} {a:Option Addr} {n cap:Nat} {ls:List (List Iv)} (h:Rls w a n cap ls):∀x∈qd ls,x<18446744073709551616:=by
 intro x hx;simp only[qd,List.mem_cons,List.mem_flatMap] at hx;rcases hx with rfl | ⟨l,hl,hx⟩
 · omega
 · obtain⟨i,hi,rfl⟩:=List.getElem_of_mem hl;rw[h.len] at hi;obtain⟨b,o,_,hc⟩:=h.cells (by omega);obtain⟨A,c,_,hI⟩:=hc i hi;have e:ls.getD i []=ls[i]:=by simp[show i<ls.length by rw[h.len];exact hi]
   rw[e] at hI;obtain⟨s,hs,hx⟩:=List.mem_flatMap.1 hx;exact z8y (hI.lt s hs) x hx
theorem z8z (l:List Nat) (j:Nat) (h:j<l.length) (y:Nat):y∈l.take (j+1)↔y∈l.take j∨y=nth l j:=by
 rw[List.take_succ_eq_append_getElem h,List.mem_append,List.mem_singleton];simp[nth,h]
theorem zxd {w:World} {base g n c:Nat} {T:TypeId} {l:List Nat} (h:w.ownsRow base T 1 (.slice (some ⟨g,0,none⟩) n c) n (zi l)) (k:Nat) (hk:k≤n):Rd w 1 (some ⟨g,k,none⟩) (n - k) (zi (l.drop k)):=by
 have hlen:l.length=n:=by have:=h.1;rw[zd3] at this;omega
 refine⟨by rw[zd3,List.length_drop];omega,fun hn=>⟨g,k,rfl,fun j u hu=>?_⟩⟩;rw[←z8r,List.getElem?_drop] at hu;have hc:=h.cells (g:=g) rfl (k+j) u hu;rwa [yp,Nat.zero_add] at hc
theorem zxe {w:World} {base n c:Nat} {T:TypeId} {a:Option Addr} {l:List Nat} (h:w.ownsRow base T 1 (.slice a n c) n (zi l)) (hn:0<n):∃g,a=some ⟨g,0,none⟩∧base≤g∧n≤c∧∀i,i<n→w.cell? ⟨g,i,none⟩=some (.int .u64 ((nth l i:Nat):Int)):=by
 have hlen:l.length=n:=by have:=h.1;rw[zd3] at this;omega
 rcases h.2 with ⟨_,h0⟩ | ⟨g,cap,cur,hv,hg,hh,hnc,hcm,_⟩
 · omega
 · obtain⟨rfl,rfl⟩:a=some ⟨g,0,none⟩∧c=cap:=by simpa using hv
   refine⟨g,rfl,hg,hnc,fun i hi=>?_⟩;have hc:=h.cells (g:=g) rfl i (.int .u64 ((nth l i:Nat):Int)) (zen l i (by omega));rw[yp,Nat.zero_add] at hc;exact hc
theorem zpc {w:World} {base n c:Nat} {T:TypeId} {a:Option Addr} {xs:List Value} {sz:Nat} (h:w.ownsRow base T sz (.slice a n c) n xs):(a=none∧n=0∧c=0)∨∃g,a=some ⟨g,0,none⟩∧base≤g∧n≤c∧g<w.heap.size:=by
 rcases h.2 with ⟨hv,h0⟩ | ⟨g,cap,cur,hv,hg,hh,hnc,hcm,_⟩
 · obtain⟨rfl,rfl,rfl⟩:a=none∧n=0∧c=0:=by simpa using hv
   exact .inl ⟨rfl,rfl,rfl⟩
 · obtain⟨rfl,rfl⟩:a=some ⟨g,0,none⟩∧c=cap:=by simpa using hv
   exact .inr ⟨g,rfl,hg,hnc,(Array.getElem?_eq_some_iff.1 hh).1⟩
theorem zpd {w:World} {base g sz n:Nat} {e:TypeId} {C:Array Value} {xs:List Value} (h:w.heap[g]?=some (.cells C e (0,0))) (hb:base≤g) (hC:C=xs.toArray) (hx:xs.length=n*sz) (hn:n≤maxLen):w.ownsRow base e sz (.slice (some ⟨g,0,none⟩) n n) n xs:=by
 subst hC;refine⟨hx,.inr ⟨g,n,xs.toArray,rfl,hb,h,Nat.le_refl _,hn,by simpa using hx,?_⟩⟩;rw[←hx];simp
theorem zbd {w:World} {ops:Array Oper} {o:Oper} {a:Act} {K:Act→World→Prop} {Q:Exit→Act→World→Prop} {E:Prop} (hgd:o.guard=none) (s x:Operand)
 (ho:o.op=.call { callee:=.builtin .append,args:= #[s,x],argTypes:= #[50,50] }) (hty:o.type=50)
 (base:Nat) (v:Value) (n:Nat) (xs:List Nat) (hs:a.eval s=v) (hown:w.ownsRow base 52 1 v n (zi xs)) (A:Option Addr) (m c:Nat) (l:List Nat) (hx:a.eval x=.slice A m c) (hr:Rd w 1 A m (zi l)) (hb:n+m≤1000000) (hbase:base≤w.heap.size)
 (h:∀v' w',w'.ownsRow base 52 1 v' (n+m) (zi (xs++l))→w.grownBy w' v.ownBlock→K (a.put o.dst v') w'):
 if Region.wanted o (yielded ops a.tmps)=true then Oper.wp Tryz.prog o a w K Q else E:=by
 obtain⟨v',w',hrun,h1,h2⟩:=zeo base v n xs hown A m c l hr hb hbase;exact zem hgd s x _ ho _ _ hs hx v' w' (by rw[hty];exact hrun) (h v' w' h1 h2)
set_option maxRecDepth 20000 in
theorem zxf (a:Option Addr) (n cap:Nat) (ls:List (List Iv)) (w:World) (hR:Rls w a n cap ls) (hn:n≤1000) (hm:(qd ls).length≤100000):
 Calls Tryz.prog 220 #[.slice a n cap] w fun e w'=>
  (∃v L,e=.returned v∧w'.ownsRow w.heap.size 52 1 v L.length (zi L)∧Asc L∧∀y,y∈L↔y∈qd ls)∧Below w.heap.size w w':=by
 have HR:=hid hR;have Hl:=hid hR.len;have Hm:=hid hm;have ho0:=World.ownsRow_lit (e:=52) (size:=1) (base:=w.heap.size) w (zi [0]).toArray 1 (Nat.le_refl _) (by unfold maxLen;omega) rfl;have Ho0:=hid ho0;have hb0:Below w.heap.size w (w.alloc (.cells (zi [0]).toArray 52)):=(Below.refl _ _).alloc (Nat.le_refl _) _;clear hR hm ho0;go_enter Tryz.func220,Tryz.ntmps220;go_wp2;go_loopw [3,4,5] (fun v i _ wr=>∃k:Nat,k≤n∧i=.int .i64 k∧Below w.heap.size w wr∧Hid (∃m,m=(0 :: (ls.take k).flatMap yh).length∧wr.ownsRow w.heap.size 52 1 v m (zi (0 :: (ls.take k).flatMap yh)))) (fun _ i _ _=>n - (intOf i).toNat)
 case atStart=>exact⟨0,by omega,rfl,hb0,1,rfl,Ho0.out⟩
 case round=>
  obtain⟨k,hk,rfl,hb,ho⟩:=hrel;have Hb:=hid hb;clear hb;by_cases hkn:k<n
  · go_wp2;obtain⟨wo,hwo⟩:∃wo:World,wo=wr:=⟨_,rfl⟩;go_loopw [3,5] (fun v j wi=>∃m:Nat,m≤(ls.getD k []).length∧j=.int .i64 m∧Below w.heap.size w wi∧Hid (∃q,q=(0 :: (ls.take k).flatMap yh++yh ((ls.getD k []).take m)).length∧wi.ownsRow w.heap.size 52 1 v q (zi (0 :: (ls.take k).flatMap yh++yh ((ls.getD k []).take m))))) (fun _ j _=>(ls.getD k []).length - (intOf j).toNat)
    case atStart=>exact⟨0,by omega,rfl,Hb.out,by
     obtain⟨m,h1,h2⟩:=ho.out;simp only[List.take_zero];exact⟨m,by rw[h1];simp[yh],by simpa [yh] using h2⟩⟩
    case round=>
     obtain⟨m,hm',rfl,hb,hoi⟩:=hrel;have Hbi:=hid hb;clear hb;obtain⟨bb,oo,rfl,hcell⟩:=HR.out.cells (by omega);obtain⟨A,c,hc0,hI⟩:=hcell k hkn;clear hcell;have hmx:(ls.getD k []).length≤9223372036854775807:=Nat.le_trans hI.room hI.most;have HC0:=hid (fun w' (h:Below w.heap.size w w')=>(h.cell (p:=⟨bb,oo+k,none⟩) (ze hc0)).trans hc0);have HI:=hid hI;have hkl:k<ls.length:=by rw[Hl.out];exact hkn
     have Htk:=hid (z8w ls [] k hkl)
     have Hsum:=hid (show (0 :: (ls.take k).flatMap yh).length+(yh (ls.getD k [])).length≤100000 from by
      have h1:=zxc yh ls (k+1);rw[Htk.out,List.flatMap_append,List.length_append] at h1;have h2:=Hm.out;simp[qd] at h2;simp at h1 ⊢;omega)
     clear hc0 hI hkl;generalize ls.getD k []=l at*;by_cases hml:m<l.length
     · obtain⟨ib,io,rfl,hcell⟩:=HI.out.cells (by omega);obtain⟨i1,i2⟩:=hcell m hml;have HI1:=hid (fun w' (h:Below w.heap.size w w')=>(h.cell (p:=⟨ib,io+m*2,none⟩) (ze i1)).trans i1);have HI2:=hid (fun w' (h:Below w.heap.size w w')=>(h.cell (p:=⟨ib,io+m*2+1,none⟩) (ze i2)).trans i2);have Hlc:=hid HI.out.room;have Hslt:=hid (HI.out.lt (zb l m) (zaa hml));have Htm:=hid (show l.take (m+1)=l.take m++[zb l m] from by rw[List.take_succ_eq_append_getElem hml,qf hml]);have Hbl:=hid (show (yh (l.take m)).length+2≤(yh l).length+2 from by have:=zxc bnd l m;unfold yh;omega);clear hcell i1 i2;generalize zb l m=s at*;obtain⟨x,y⟩:=s;simp only at HI1 HI2 Hslt;obtain⟨q,hq,hov⟩:=hoi.out;generalize hX:0 :: (ls.take k).flatMap yh++yh (l.take m)=X at*;have HX:=hid hX;clear hX
       have hq2:q≤100000:=by
        have h1:=Hsum.out;have h2:=Hbl.out;rw[hq,←HX.out,List.length_append];omega
       have Hq:=hid hq;clear hq;obtain⟨v1,w1,hr1,ho1,hg1⟩:=zeo w.heap.size u3 q X (hov.alloc (.cells #[.int .u64 x] 52)) (some ⟨wr.heap.size,0,none⟩) 1 1 [x] (yg (zg _ _ _ rfl) rfl rfl) (by omega) (by have:=Hbi.out.size;simp;omega);have Hov:=hid hov;clear hov;have Ho1:=hid ho1;clear ho1;have Hb1:=hid (Hbi.out.alloc Hbi.out.size (.cells #[.int .u64 x] 52) |>.grown hg1 (by have:=Hbi.out.size;simp;omega) (fun k hk=>(Hov.out.lt k hk).1));clear hg1;have c0:=HC0.out _ Hbi.out;have c1:=HI1.out _ Hbi.out;go_wp2_with (at_builtin;refine jf _ _ 50 rfl rfl _ _ rfl rfl _ _ hr1 ?_);clear hr1 c0 c1;have hmi:(m:Int)<(l.length:Int):=by omega
       have hki:(k:Int)<(n:Int):=by omega
       have hm0:(0:Int)≤m:=by omega
       have hk0:(0:Int)≤k:=by omega
       have HXm:=hid (show 0 :: (ls.take k).flatMap yh++yh (l.take (m+1))=X++bnd (x,y) from by rw[Htm.out,z8x,←HX.out,List.append_assoc]);by_cases hy:y<18446744073709551615
       · have hd:decide ((y:Int)<18446744073709551615)=true:=by rw[decide_eq_true_iff];omega
         have hw:IntKind.u64.wrap ((y:Int)+1)=(y:Int)+1:=by rw[IntKind.wrap_u64];omega
         have Hbd:=hid (show bnd (x,y)=[x,y+1] from by simp[bnd,hy]);clear hy;refine qi (by kernel_rfl) (by kernel_rfl) ?_
         repeat (go_big_quiet_step ((intro hw;first
          | rfl
          | (go_at_call 187;exact zw6 hw (zpb _))
          | (have q0:=HC0.out _ (Hb1.out.trans (hw.mono Hb1.out.size))
             have q2:=HI2.out _ (Hb1.out.trans (hw.mono Hb1.out.size));go_simp;first | rfl | exact⟨rfl,hw⟩ | (trace_state;fail)))))
         refine wpQuiet_nil ?_;intro w3 hb3;have Hb3:=hid (Hb1.out.trans (hb3.mono Hb1.out.size));have Ho3:=hid (zm Ho1.out hb3);clear hb3;have c0:=HC0.out _ Hb3.out;have c2:=HI2.out _ Hb3.out;obtain⟨v2,w4,hr2,ho2,hg2⟩:=zeo w.heap.size v1 (q+1) (X++[x]) (Ho3.out.alloc (.cells #[.int .u64 ((y:Int)+1)] 52)) (some ⟨w3.heap.size,0,none⟩) 1 1 [y+1] (yg (zg _ _ _ rfl) rfl rfl) (by omega) (by have:=Hb3.out.size;simp;omega);have Ho2:=hid ho2;clear ho2;have Hb2:=hid (Hb3.out.alloc Hb3.out.size (.cells #[.int .u64 ((y:Int)+1)] 52) |>.grown hg2 (by have:=Hb3.out.size;simp;omega) (fun k hk=>(Ho3.out.lt k hk).1));clear hg2;go_wp2_with (at_builtin;refine jf _ _ 50 rfl rfl _ _ rfl rfl _ _ hr2 ?_);clear hr2 c0 c2;go_roundw
         case rel=>exact⟨m+1,by omega,by go_num,Hb2.out,by
          rw[HXm.out,Hbd.out];exact⟨q+1+1,by have:=Hq.out;simp;omega,by simpa using Ho2.out⟩⟩
         case measure=>simp[intOf];omega
       · have hd:decide ((y:Int)<18446744073709551615)=false:=by rw[decide_eq_false_iff_not];omega
         have Hbd:=hid (show bnd (x,y)=[x] from by simp[bnd,hy]);clear hy;refine qi (by kernel_rfl) (by kernel_rfl) ?_
         repeat (go_big_quiet_step ((intro hw;first
          | rfl
          | (go_at_call 187;exact zw6 hw (zpb _))
          | (have q0:=HC0.out _ (Hb1.out.trans (hw.mono Hb1.out.size))
             have q2:=HI2.out _ (Hb1.out.trans (hw.mono Hb1.out.size));go_simp;first | rfl | exact⟨rfl,hw⟩ | (trace_state;fail)))))
         refine wpQuiet_nil ?_;intro w3 hb3;have Hb3:=hid (Hb1.out.trans (hb3.mono Hb1.out.size));have Ho3:=hid (zm Ho1.out hb3);clear hb3;go_wp2;go_roundw
         case rel=>exact⟨m+1,by omega,by go_num,Hb3.out,by
          rw[HXm.out,Hbd.out];exact⟨q+1,by have:=Hq.out;simp;omega,Ho3.out⟩⟩
         case measure=>simp[intOf];omega
     · obtain rfl:m=l.length:=by omega
       have c0:=HC0.out _ Hbi.out;go_wp2;go_roundw
       case rel=>exact⟨k+1,by omega,by go_num,Hbi.out,by
        obtain⟨q,h1,h2⟩:=hoi.out;rw[List.take_length] at h1 h2;rw[Htk.out,List.flatMap_append];have e:0 :: ((ls.take k).flatMap yh++[l].flatMap yh)=0 :: (ls.take k).flatMap yh++yh l:=by simp
        rw[e];exact⟨q,h1,h2⟩⟩
       case measure=>simp[intOf];omega
  · obtain rfl:k=n:=by omega
    obtain⟨N,hN,ho⟩:=ho.out;have hL:0 :: (ls.take k).flatMap yh=qd ls:=by rw[List.take_of_length_le (by rw[Hl.out];exact Nat.le_refl _)];rfl
    rw[hL] at hN ho;clear hL;have hmL:=Hm.out;have hlt:=HR.out.all_lt;generalize hLL:qd ls=L at*;have HLL:=hid hLL;clear hLL;obtain⟨A,C,rfl,hU⟩:=zbf ho hlt;have HU:=hid hU;have HL:=hid hN;have hNb:N≤100000:=by rw[hN];exact hmL
    have Hlt:=hid hlt;clear hU hN ho hlt;have Hbs:=hid Hb.out.size;obtain⟨w2,rfl⟩:∃w2:World,w2=wr:=⟨_,rfl⟩;go_wp2;go_loopw [6,7,8] (fun o i t wi=>∃(j:Nat) (R:List Nat),j≤N∧i=.int .i64 j∧Below w2.heap.size w2 wi∧Hid (wi.ownsRow w2.heap.size 52 1 o R.length (zi R)∧Asc R∧R.length≤j∧∀y,y∈R↔y∈L.take j)) (fun _ i _ _=>N - (intOf i).toNat)
    case atStart=>exact⟨0,[],by omega,rfl,Below.refl _ _,World.ownsRow_nil _ _ _ _,trivial,Nat.le_refl _,by simp⟩
    case round=>
     obtain⟨j,R,hj,rfl,hb,hR⟩:=hrel;have Hbj:=hid hb;clear hb;by_cases hjN:j<N
     · obtain⟨ho,hA,hRj,hRm⟩:=hR.out;have hRlt:∀y∈R,y<18446744073709551616:=fun y hy=>Hlt.out y (List.mem_of_mem_take ((hRm y).1 hy))
       obtain⟨a1,c1,rfl,hU1⟩:=zbf ho hRlt;have HU1:=hid hU1;have Hrl:=hid hRlt;have Ho:=hid ho;have HA:=hid hA;obtain⟨x,hx⟩:∃x,x=nth L j:=⟨_,rfl⟩;have Hx:=hid hx
       have HRm:=hid (show ∀y,y∈L.take (j+1)↔y∈R∨y=x from fun y=>by
        rw[z8z L j (by rw[HU.out.len];exact hjN),←hRm,←hx])
       have hRmN:R.length≤100001:=by have:=HL.out;omega
       have HRj:=hid hRj;clear hx hR hU1 ho hA hRm hRlt hRj;generalize hm:R.length=m at*;have Hm1:=hid hm;clear hm;have Hbo:=hid Hbj.out.size;obtain⟨w5,rfl⟩:∃w5:World,w5=wr:=⟨_,rfl⟩;obtain⟨bL,oL,rfl,hcL⟩:=HU.out.cells (by omega);have hcl:=hcL j hjN;rw[←Hx.out] at hcl;have HcL:=hid (fun w' (h:Below w2.heap.size w2 w')=>(h.cell (p:=⟨bL,oL+j,none⟩) (ze hcl)).trans hcl);clear hcL hcl;go_wp2;go_loopw [8] (fun t wi=>∃k:Nat,k≤m∧t=.int .i64 k∧Below w5.heap.size w5 wi∧Hid (∀t,k≤t→t<m→x<nth R t)) (fun t _=>(intOf t).toNat)
       case atStart=>exact⟨m,by omega,rfl,Below.refl _ _,fun t h1 h2=>by omega⟩
       case round=>
        obtain⟨k,hk,rfl,hb,ht⟩:=hrel;have Hbk:=hid hb;have Hbk2:=hid (Hbj.out.trans (hb.mono Hbo.out));clear hb;have hjNi:(j:Int)<(N:Int):=by omega
        have hj0:(0:Int)≤j:=by omega
        by_cases hk0:0<k
        · obtain⟨g,rfl,hgb,hgc,hcR⟩:=zxe Ho.out (by omega);have hcr:=hcR (k - 1) (by omega);have HcR:=hid (fun w' (h:Below w5.heap.size w5 w')=>(h.cell (p:=⟨g,k - 1,none⟩) (ze hcr)).trans hcr);clear hcR hcr;obtain⟨z,hz⟩:∃z,z=nth R (k - 1):=⟨_,rfl⟩;rw[←hz] at HcR;have Hz:=hid hz;clear hz;have hg0:decide (0<(k:Int))=true:=by rw[decide_eq_true_iff];omega
          have hsub:IntKind.i64.wrap ((k:Int) - 1)=(k:Int) - 1:=by rw[IntKind.wrap_i64];omega
          have h01:0≤(k:Int) - 1:=by omega
          have h02:((k:Int) - 1).toNat=k - 1:=by omega
          have h03:(k:Int) - 1<(m:Int):=by omega
          by_cases hzx:x<z
          · have hd:decide ((x:Int)<(z:Int))=true:=by rw[decide_eq_true_iff];omega
            have hdn:decide (x<z)=true:=by rw[decide_eq_true_iff];exact hzx
            have Hzx:=hid hzx;clear hzx;go_wp2_with fail;refine qi (by kernel_rfl) (by kernel_rfl) ?_
            repeat (go_big_quiet_step ((intro hw;first
             | rfl
             | (have q0:=HcL.out _ (Hbk2.out.trans (hw.mono Hbk2.out.size))
                have q2:=HcR.out _ (Hbk.out.trans (hw.mono Hbk.out.size));go_simp;first | rfl | exact⟨rfl,hw⟩ | (trace_state;fail)))))
            refine wpQuiet_nil ?_;intro w3 hb3;have Hb3:=hid (Hbk.out.trans (hb3.mono Hbk.out.size));clear hb3;go_wp2;go_roundw
            case rel=>exact⟨k - 1,by omega,by go_num,Hb3.out,fun t h1 h2=>by
             rcases Nat.lt_or_ge t k with h | h
             · rw[show t=k - 1 by omega,←Hz.out];exact Hzx.out
             · exact ht.out t h h2⟩
            case measure=>simp[intOf];omega
          · have hd:decide ((x:Int)<(z:Int))=false:=by rw[decide_eq_false_iff_not];omega
            have Hzx:=hid (Nat.le_of_not_lt hzx);have hdn:decide (x<z)=false:=by rw[decide_eq_false_iff_not];exact hzx
            clear hzx;go_wp2_with fail;refine qi (by kernel_rfl) (by kernel_rfl) ?_
            repeat (go_big_quiet_step ((intro hw;first
             | rfl
             | (have q0:=HcL.out _ (Hbk2.out.trans (hw.mono Hbk2.out.size))
                have q2:=HcR.out _ (Hbk.out.trans (hw.mono Hbk.out.size));go_simp;first | rfl | exact⟨rfl,hw⟩ | (trace_state;fail)))))
            refine wpQuiet_nil ?_;intro w3 hb3;have Hb3:=hid (Hbk.out.trans (hb3.mono Hbk.out.size));have Hc3:=hid (Hbj.out.trans (Hb3.out.mono Hbo.out));clear hb3;have he0:((k:Int) == 0)=false:=by rw[beq_eq_false_iff_ne];omega
            by_cases hzx:z=x
            · obtain rfl:=hzx;have Hzm:=hid (show z∈R from by rw[Hz.out];exact za5 (by rw[Hm1.out];omega));go_wp2_with fail;refine qi (by kernel_rfl) (by kernel_rfl) ?_
              repeat (go_big_quiet_step ((intro hw;first
               | rfl
               | (have q0:=HcL.out _ (Hc3.out.trans (hw.mono Hc3.out.size))
                  have q2:=HcR.out _ (Hb3.out.trans (hw.mono Hb3.out.size));go_simp;first | rfl | exact⟨rfl,hw⟩ | (trace_state;fail)))))
              refine wpQuiet_nil ?_;intro w4 hb4;have Hb4:=hid (Hb3.out.trans (hb4.mono Hb3.out.size));have Hc4:=hid (Hbj.out.trans (Hb4.out.mono Hbo.out));clear hb4;go_wp2;go_roundw
              case rel=>exact⟨j+1,R,by omega,by go_num,Hc4.out,by
               rw[Hm1.out];exact⟨zm Ho.out Hb4.out,HA.out,by have:=HRj.out;omega,fun y=>by rw[HRm.out y];exact⟨.inl,fun h=>h.elim id fun h=>by rw[h];exact Hzm.out⟩⟩⟩
              case measure=>simp[intOf];omega
            · have hne:((z:Int) != (x:Int))=true:=by rw[bne_iff_ne];omega
              have Hins:=hid (show 0<k→nth R (k - 1)<x from fun _=>by rw[←Hz.out];have:=Hzx.out;omega);clear hzx;go_wp2_with fail;refine qi (by kernel_rfl) (by kernel_rfl) ?_
              repeat (go_big_quiet_step ((intro hw;first
               | rfl
               | (have q0:=HcL.out _ (Hc3.out.trans (hw.mono Hc3.out.size))
                  have q2:=HcR.out _ (Hb3.out.trans (hw.mono Hb3.out.size));go_simp;first | rfl | exact⟨rfl,hw⟩ | (trace_state;fail)))))
              refine wpQuiet_nil ?_;intro w4 hb4;have Hb4:=hid (Hb3.out.trans (hb4.mono Hb3.out.size));have Hc4:=hid (Hbj.out.trans (Hb4.out.mono Hbo.out));clear hb4;clear h01 h02 h03 hsub hg0 hne he0;have r0:=fun w' (h:Below w4.heap.size w4 w')=>HcL.out w' (Hc4.out.trans (h.mono Hc4.out.size))
              have Ho4:=hid (zm Ho.out Hb4.out)
              have Hrd:=hid (show ∀w',Below w4.heap.size w4 w'→Rd w' 1 (if c1=k then some ⟨g,0,none⟩ else some ⟨g,k,none⟩) (m - k) (zi (R.drop k)) from fun w' h=>by
               have h1:=(zxd Ho4.out k hk).below h;split
               · exact⟨h1.1,fun h0=>by omega⟩
               · exact h1)
              have Htk:=hid (show ∀w',Below w4.heap.size w4 w'→w'.ownsRow w2.heap.size 52 1 (.slice (some ⟨g,0,none⟩) k c1) k (zi (R.take k)) from fun w' h=>by
               have:=zdh (zm Ho4.out h) k hk;rwa [Nat.mul_one,zpa] at this)
              have Hfin:=hid (zl4 HA.out (x:=x) (k:=k) (by rw[Hm1.out];exact hk) Hins.out (by rw[Hm1.out];exact ht.out));have Hz4:=hid Hc4.out.size;have hkc:k≤c1:=by omega
              have hgl:g<w4.heap.size:=by
               rcases zpc Ho4.out with ⟨h,_⟩ | ⟨g',h,_,_,h4⟩
               · cases h
               · cases h;exact h4
              go_wp2_with fail;have q0:=r0 w4 (Below.refl _ _)
              go_region_law (first
               | (refine zbd rfl (.tmp 103) (.tmp 106) rfl rfl w4.heap.size _ 1 [x] rfl (zpd (by first | exact zg _ _ _ (by simp) | exact yy _ _ _ _ (zg _ _ _ (by simp))) (by simp <;> omega) rfl rfl (by unfold maxLen;omega)) _ (m - k) _ (R.drop k) rfl (Hrd.out _ (by first | exact((Below.refl _ _).alloc (Nat.le_refl _) _).drew | exact((Below.refl _ _).drew).alloc (by simp) _)) (by omega) (by simp <;> omega) ?_
                  intro v1 w1 ho1 hg1;obtain⟨g1,cc1,rfl,-,-⟩:=ho1.form (by omega)
                  have hS1:Below w4.heap.size w4 w1:=by
                   refine Below.grown (by first | exact((Below.refl _ _).alloc (Nat.le_refl _) _).drew | exact((Below.refl _ _).drew).alloc (by simp) _) hg1 ?_ ?_
                   · simp <;> omega
                   · intro j hj;simp[Value.ownBlock,Act.eval] at hj
                     omega)
               | (refine zbd rfl (.tmp 98) (.tmp 107) rfl rfl w2.heap.size _ k _ rfl (Htk.out _ hS1) _ (1+(m - k)) _ ([x]++R.drop k) rfl (Rd.own ho1) (by omega) (by have:=hS1.size;have:=Hz4.out;simp <;> omega) ?_
                  intro v2 w6 ho2 hg2
                  have hS2:Below w2.heap.size w2 w6:=by
                   refine Below.grown ((Hc4.out).trans (hS1.mono Hc4.out.size)) hg2 (by have:=hS1.size;have:=Hz4.out;omega) ?_;intro j hj;exact((Htk.out _ hS1).lt j hj).1))
              all_goals
               go_wp2;go_roundw
               case rel=>exact⟨j+1,_,by omega,by go_num,hS2,by
                have e:(R.take k++x :: R.drop k).length=k+(1+(m - k)):=by simp[Hm1.out];omega
                exact⟨by rw[e];exact ho2,Hfin.out.1,by rw[e];have:=HRj.out;omega,fun y=>(Hfin.out.2 y).trans (HRm.out y).symm⟩⟩
               case measure=>simp[intOf];omega
        · obtain rfl:k=0:=by omega
          rw[show ((0:Nat):Int)=0 from rfl];rcases zpc Ho.out with ⟨rfl,rfl,rfl⟩ | ⟨g,rfl,hgb,hgc,-⟩
          · obtain rfl:R=[]:=List.eq_nil_of_length_eq_zero Hm1.out;rw[show ((0:Nat):Int)=0 from rfl];go_wp2_with fail;refine qi (by kernel_rfl) (by kernel_rfl) ?_
            repeat (go_big_quiet_step ((intro hw;first
             | rfl
             | (have q0:=HcL.out _ (Hbk2.out.trans (hw.mono Hbk2.out.size))
                go_simp;first | rfl | exact⟨rfl,hw⟩ | (trace_state;fail)))))
            refine wpQuiet_nil ?_;intro w3 hb3;have Hb3:=hid (Hbk.out.trans (hb3.mono Hbk.out.size));have Hc3:=hid (Hbj.out.trans (Hb3.out.mono Hbo.out));clear hb3;go_wp2_with fail;refine qi (by kernel_rfl) (by kernel_rfl) ?_
            repeat (go_big_quiet_step ((intro hw;first
             | rfl
             | (have q0:=HcL.out _ (Hc3.out.trans (hw.mono Hc3.out.size))
                go_simp;first | rfl | exact⟨rfl,hw⟩ | (trace_state;fail)))))
            refine wpQuiet_nil ?_;intro w4 hb4;have Hb4:=hid (Hb3.out.trans (hb4.mono Hb3.out.size));have Hc4:=hid (Hbj.out.trans (Hb4.out.mono Hbo.out));clear hb4;go_wp2_with fail;have r0:=fun w' (h:Below w4.heap.size w4 w')=>HcL.out w' (Hc4.out.trans (h.mono Hc4.out.size))
            have Ho4:=hid (zm Ho.out Hb4.out);have Hrd:=hid (show ∀w',Below w4.heap.size w4 w'→Rd w' 1 none 0 (zi []) from fun w' h=>⟨rfl,fun h=>by omega⟩);have Htk:=hid (show ∀w',Below w4.heap.size w4 w'→w'.ownsRow w2.heap.size 52 1 (.slice none 0 0) 0 (zi []) from fun w' h=>World.ownsRow_nil _ _ _ _);have Hfin:=hid (zl4 HA.out (x:=x) (k:=0) (Nat.zero_le _) (fun h=>by omega) (by rw[Hm1.out];exact ht.out));have Hz4:=hid Hc4.out.size;have q0:=r0 w4 (Below.refl _ _)
            go_region_law (first
             | (refine zbd rfl (.tmp 103) (.tmp 106) rfl rfl w4.heap.size _ 1 [x] rfl (zpd (by first | exact zg _ _ _ (by simp) | exact yy _ _ _ _ (zg _ _ _ (by simp))) (by simp <;> omega) rfl rfl (by unfold maxLen;omega)) _ 0 _ [] rfl (Hrd.out _ (by first | exact((Below.refl _ _).alloc (Nat.le_refl _) _).drew | exact((Below.refl _ _).drew).alloc (by simp) _)) (by omega) (by simp <;> omega) ?_
                intro v1 w1 ho1 hg1;obtain⟨g1,cc1,rfl,-,-⟩:=ho1.form (by omega)
                have hS1:Below w4.heap.size w4 w1:=by
                 refine Below.grown (by first | exact((Below.refl _ _).alloc (Nat.le_refl _) _).drew | exact((Below.refl _ _).drew).alloc (by simp) _) hg1 ?_ ?_
                 · simp <;> omega
                 · intro j hj;simp[Value.ownBlock,Act.eval] at hj
                   omega)
             | (refine zbd rfl (.tmp 98) (.tmp 107) rfl rfl w2.heap.size _ 0 [] rfl (Htk.out _ hS1) _ (1+0) _ ([x]++[]) rfl (Rd.own ho1) (by omega) (by have:=hS1.size;have:=Hz4.out;simp <;> omega) ?_
                intro v2 w6 ho2 hg2
                have hS2:Below w2.heap.size w2 w6:=by
                 refine Below.grown ((Hc4.out).trans (hS1.mono Hc4.out.size)) hg2 (by have:=hS1.size;have:=Hz4.out;omega) ?_;intro j hj;exact((Htk.out _ hS1).lt j hj).1))
            all_goals
             go_wp2;go_roundw
             case rel=>exact⟨j+1,x :: [],by omega,by go_num,hS2,by
              have e:(x :: []).length=0+(1+0):=by rfl
              exact⟨by rw[e];exact ho2,Hfin.out.1,by rw[e];have:=HRj.out;omega,fun y=>(Hfin.out.2 y).trans (HRm.out y).symm⟩⟩
             case measure=>simp[intOf];omega
          · go_wp2_with fail;refine qi (by kernel_rfl) (by kernel_rfl) ?_
            repeat (go_big_quiet_step ((intro hw;first
             | rfl
             | (have q0:=HcL.out _ (Hbk2.out.trans (hw.mono Hbk2.out.size))
                go_simp;first | rfl | exact⟨rfl,hw⟩ | (trace_state;fail)))))
            refine wpQuiet_nil ?_;intro w3 hb3;have Hb3:=hid (Hbk.out.trans (hb3.mono Hbk.out.size));have Hc3:=hid (Hbj.out.trans (Hb3.out.mono Hbo.out));clear hb3;go_wp2_with fail;refine qi (by kernel_rfl) (by kernel_rfl) ?_
            repeat (go_big_quiet_step ((intro hw;first
             | rfl
             | (have q0:=HcL.out _ (Hc3.out.trans (hw.mono Hc3.out.size))
                go_simp;first | rfl | exact⟨rfl,hw⟩ | (trace_state;fail)))))
            refine wpQuiet_nil ?_;intro w4 hb4;have Hb4:=hid (Hb3.out.trans (hb4.mono Hb3.out.size));have Hc4:=hid (Hbj.out.trans (Hb4.out.mono Hbo.out));clear hb4;go_wp2_with fail;have r0:=fun w' (h:Below w4.heap.size w4 w')=>HcL.out w' (Hc4.out.trans (h.mono Hc4.out.size))
            have Ho4:=hid (zm Ho.out Hb4.out);have Hrd:=hid (show ∀w',Below w4.heap.size w4 w'→Rd w' 1 (some ⟨g,0,none⟩) m (zi R) from fun w' h=>(Rd.own Ho4.out).below h)
            have Htk:=hid (show ∀w',Below w4.heap.size w4 w'→w'.ownsRow w2.heap.size 52 1 (.slice (some ⟨g,0,none⟩) 0 c1) 0 (zi []) from fun w' h=>by
             have:=zdh (zm Ho4.out h) 0 (Nat.zero_le _);rw[Nat.zero_mul,List.take_zero] at this;exact this)
            have Hfin:=hid (zl4 HA.out (x:=x) (k:=0) (Nat.zero_le _) (fun h=>by omega) (by rw[Hm1.out];exact ht.out));have Hz4:=hid Hc4.out.size;have q0:=r0 w4 (Below.refl _ _)
            go_region_law (first
             | (refine zbd rfl (.tmp 103) (.tmp 106) rfl rfl w4.heap.size _ 1 [x] rfl (zpd (by first | exact zg _ _ _ (by simp) | exact yy _ _ _ _ (zg _ _ _ (by simp))) (by simp <;> omega) rfl rfl (by unfold maxLen;omega)) _ m _ R rfl (Hrd.out _ (by first | exact((Below.refl _ _).alloc (Nat.le_refl _) _).drew | exact((Below.refl _ _).drew).alloc (by simp) _)) (by omega) (by simp <;> omega) ?_
                intro v1 w1 ho1 hg1;obtain⟨g1,cc1,rfl,-,-⟩:=ho1.form (by omega)
                have hS1:Below w4.heap.size w4 w1:=by
                 refine Below.grown (by first | exact((Below.refl _ _).alloc (Nat.le_refl _) _).drew | exact((Below.refl _ _).drew).alloc (by simp) _) hg1 ?_ ?_
                 · simp <;> omega
                 · intro j hj;simp[Value.ownBlock,Act.eval] at hj
                   omega)
             | (refine zbd rfl (.tmp 98) (.tmp 107) rfl rfl w2.heap.size _ 0 [] rfl (Htk.out _ hS1) _ (1+m) _ ([x]++R) rfl (Rd.own ho1) (by omega) (by have:=hS1.size;have:=Hz4.out;simp <;> omega) ?_
                intro v2 w6 ho2 hg2
                have hS2:Below w2.heap.size w2 w6:=by
                 refine Below.grown ((Hc4.out).trans (hS1.mono Hc4.out.size)) hg2 (by have:=hS1.size;have:=Hz4.out;omega) ?_;intro j hj;exact((Htk.out _ hS1).lt j hj).1))
            all_goals
             go_wp2;go_roundw
             case rel=>exact⟨j+1,x :: R,by omega,by go_num,hS2,by
              have e:(x :: R).length=0+(1+m):=by rw[List.length_cons,Hm1.out];omega
              exact⟨by rw[e];exact ho2,Hfin.out.1,by rw[e];have:=HRj.out;omega,fun y=>(Hfin.out.2 y).trans (HRm.out y).symm⟩⟩
             case measure=>simp[intOf];omega
     · obtain rfl:j=N:=by omega
       obtain⟨ho,hA,-,hRm⟩:=hR.out;go_wp2;go_ret;refine⟨⟨_,R,rfl,y9 ho Hbs.out,hA,fun y=>?_⟩,Hb.out.trans (Hbj.out.mono Hbs.out)⟩;rw[hRm,HL.out,List.take_length,HLL.out]
def gOf (op:Nat):Bool→Bool→Bool:=if op=0 then gOr else if op=1 then kq else jl
theorem z80 (x y:Bool) (op:Nat) (hop:op<3) (w:World):Calls Tryz.prog 221 #[.bool x,.bool y,.int .i64 op] w fun e w'=>e=.returned (.bool (gOf op x y))∧Below w.heap.size w w':=by
 obtain rfl | rfl | rfl:op=0∨op=1∨op=2:=by omega
 all_goals
  cases x <;> cases y <;>
  (go_enter Tryz.func221,Tryz.ntmps221
   go_wp2;all_goals go_ret
   all_goals exact⟨rfl,by first | exact Below.refl _ _ | exact ye (Below.refl _ _) _⟩)
set_option maxRecDepth 20000 in
theorem zl5 (aa ab:Option Addr) (na ca nb cb op:Nat) (a b:List Iv) (w:World) (hIa:Ivs w aa na ca a) (hIb:Ivs w ab nb cb b) (hop:op<3) (hn:2*a.length+2*b.length+1≤100000):
 Calls Tryz.prog 168 #[.slice aa na ca,.slice ab nb cb,.int .i64 op] w fun e w'=>zcb w.heap.size (opL (gOf op) a b) e w'∧Below w.heap.size w w':=by
 have HIa:=hid hIa;have HIb:=hid hIb;have Hop:=hid hop;have Hla:=hid (show zq a from hIa.lt);have Hlb:=hid (show zq b from hIb.lt);have hA:Below w.heap.size w (w.alloc (.cells #[.slice aa na ca,.slice ab nb cb] 81)):=(Below.refl _ _).alloc (Nat.le_refl _) _
 have hR:Rls (w.alloc (.cells #[.slice aa na ca,.slice ab nb cb] 81)) (some ⟨w.heap.size,0,none⟩) 2 2 [a,b]:=by
  have hrow:(w.alloc (.cells #[.slice aa na ca,.slice ab nb cb] 81)).heap[w.heap.size]?=some (.cells #[.slice aa na ca,.slice ab nb cb] 81):=z7 rfl;refine⟨rfl,Nat.le_refl _,by omega,(by intro h;cases h),fun _=>⟨w.heap.size,0,rfl,fun i hi=>?_⟩⟩;obtain rfl | rfl:i=0∨i=1:=by omega
  · refine⟨aa,ca,?_,?_⟩
    · rw[show ([a,b].getD 0 []).length=na from hIa.len];exact zu (i:=0) hrow rfl
    · rw[show ([a,b].getD 0 []).length=na from hIa.len];exact hIa.below hA
  · refine⟨ab,cb,?_,?_⟩
    · rw[show ([a,b].getD 1 []).length=nb from hIb.len];exact zu (i:=1) hrow rfl
    · rw[show ([a,b].getD 1 []).length=nb from hIb.len];exact hIb.below hA
 have hal:(qd [a,b]).length≤100000:=by
  have:=zfl a;have:=zfl b;simp[qd];omega
 have hS:=hid (zxf (some ⟨w.heap.size,0,none⟩) 2 2 [a,b] _ hR (by omega) hal);have Hal:=hid hal;have HA:=hid hA;clear hR hal hIa hIb hA hop hn;go_enter Tryz.func168,Tryz.ntmps168;go_wp2_with fail;refine hS.out.mono ?_;rintro e w1 ⟨⟨v,L,rfl,ho,hAs,hmem⟩,hb1⟩;have Hb1:=hid (HA.out.trans (hb1.mono HA.out.size));clear hb1
 have hLlt:∀x∈L,x<18446744073709551616:=fun x hx=>by
  rcases(zhr a b x).1 ((hmem x).1 hx) with rfl | h | h
  · omega
  · exact zfo Hla.out x h
  · exact zfo Hlb.out x h
 have hLen:L.length≤100000:=Nat.le_trans (zcz hAs fun y hy=>(hmem y).1 hy) Hal.out;obtain⟨aS,cS,rfl,hU⟩:=zbf ho hLlt;have HU:=hid hU;obtain⟨f,hf⟩:∃f:Nat→Bool,f=fun x=>gOf op (mem a x) (mem b x):=⟨_,rfl⟩
 have hLs:L=zcs (qd [a,b]):=zxa hAs hmem;have hdo:qu (yx f L) []=opL (gOf op) a b:=by rw[hf,hLs];rfl
 have hfx:∀x,f x=gOf op (mem a x) (mem b x):=fun x=>by rw[hf]
 have Hdo:=hid hdo;have Hfx:=hid hfx;have HAs:=hid hAs;have HLl:=hid hLlt;have HIa1:=hid (HIa.out.below Hb1.out);have HIb1:=hid (HIb.out.below Hb1.out);have Hz1:=hid Hb1.out.size;obtain⟨M,hM⟩:∃M,M=L.length:=⟨_,rfl⟩;rw[←hM] at HU hLen ⊢;have HM:=hid hM;clear hM hdo hAs hLlt hU ho hmem hS HA Hal hf hLs hfx;go_wp2;go_loopw [8,9] (fun v i wr=>∃k:Nat,k≤M∧i=.int .i64 k∧Below w1.heap.size w1 wr∧Hid (wr.ownsRow w1.heap.size 99 2 v (qu ((yx f L).take k) []).length (ivC (qu ((yx f L).take k) [])))) (fun _ i _=>M - (intOf i).toNat)
 case atStart=>exact⟨0,by omega,rfl,Below.refl _ _,World.ownsRow_nil _ _ _ _⟩
 case round=>
  obtain⟨k,hk,rfl,hb,ho⟩:=hrel;have Hb:=hid hb;clear hb;by_cases hkM:k<M
  · have Hst:=hid (z8o f (L:=L) (k:=k) (by rw[←HM.out];exact hkM));have Hpl:=hid (zw8 (L:=L) (k:=k) (by rw[←HM.out];exact hkM) HLl.out);have Htl:=hid (zjv (out:=[]) (z8p f HLl.out k) (by simp))
    have Htn:=hid (show (qu ((yx f L).take k) []).length≤100000 from by
     have h1:=zjw ((yx f L).take k) [];have h2:((yx f L).take k).length≤M:=by rw[List.length_take,zav,←HM.out];omega
     simp only[List.length_nil,Nat.zero_add] at h1;omega)
    have hP:=hid (fun w' (h:Below w1.heap.size w1 w')=>zw9 aS M cS k L w' (HU.out.below h) hkM (by omega) (fun h2=>by
     have:=zco HAs.out (i:=k) (j:=k+1) (by omega) (by rw[←HM.out];exact h2);omega))
    have hcS:=HU.out.cells (by omega);obtain⟨bS,oS,rfl,hcS⟩:=hcS;have hc:=hcS k hkM;have Hc:=hid (fun w' (h:Below w1.heap.size w1 w')=>(h.cell (p:=⟨bS,oS+k,none⟩) (ze hc)).trans hc);clear hcS hc;generalize htk:qu ((yx f L).take k) []=T at*;have HT:=hid htk;clear htk;have hfk:=Hfx.out (nth L k);have Hfk:=hid hfk;clear hfk;generalize za4 L k=p at*;generalize nth L k=x at*;have hT:=hid (fun w=>z80 (mem a x) (mem b x) op Hop.out w);rw[←Hfk.out] at hT;generalize f x=fx at*;have hki:(k:Int)<(M:Int):=by omega
    have hk0:(0:Int)≤k:=by omega
    have hcS2:=HU.out.room;go_wp2_with fail;go_cut [33] (fun v wc=>v=.bool fx∧Hid (Below wr.heap.size wr wc))
    case first=>
     refine qi (by kernel_rfl) (by kernel_rfl) ?_
     iterate 5 (go_big_quiet_step ((intro hw;first
      | rfl
      | (have q0:=Hc.out _ (Hb.out.trans (hw.mono Hb.out.size))
         go_simp;first | rfl | exact⟨rfl,hw⟩ | (trace_state;fail)))))
     go_big_quiet_step ((intro hw;go_at_call 172;exact kp hw (zf5 aa na ca x a _ (HIa1.out.below (Hb.out.trans (hw.mono Hb.out.size))))))
     iterate 5 (go_big_quiet_step ((intro hw;first
      | rfl
      | (have q0:=Hc.out _ (Hb.out.trans (hw.mono Hb.out.size))
         go_simp;first | rfl | exact⟨rfl,hw⟩ | (trace_state;fail)))))
     go_big_quiet_step ((intro hw;go_at_call 172;exact kp hw (zf5 ab nb cb x b _ (HIb1.out.below (Hb.out.trans (hw.mono Hb.out.size))))))
     (go_big_quiet_step ((intro hw;first
       | rfl
       | (have q0:=Hc.out _ (Hb.out.trans (hw.mono Hb.out.size))
          go_simp;first | rfl | exact⟨rfl,hw⟩ | (trace_state;fail)))))
     go_big_quiet_step ((intro hw;go_at_call 221;exact kp hw (hT.out _)));refine wpQuiet_nil ?_;intro w3 hb3;go_wp2;go_meet
     exact⟨rfl,hb3⟩
    case rest=>
     obtain⟨rfl,hb2⟩:=hcut;have Hb2:=hid (Hb.out.trans (hb2.out.mono Hb.out.size));have Ho2:=hid (zm ho.out hb2.out);clear hb2
     cases fx with
     | true=>
      rw[if_pos rfl] at Hst;go_wp2_with fail;refine(hP.out _ Hb2.out).mono ?_;rintro e w3 ⟨rfl,hb3⟩;have Hb3:=hid (Hb2.out.trans (hb3.mono Hb2.out.size));have Ho3:=hid (zm Ho2.out hb3);clear hb3;go_wp2_with fail;refine(z8v _ _ _ p w1 _ Hb3.out Ho3.out Htn.out Htl.out Hpl.out).mono ?_;rintro e w4 ⟨⟨v',rfl,ho4⟩,hb4⟩;have Ho4:=hid ho4;have Hb4:=hid hb4;clear ho4 hb4;go_wp2;go_roundw
      case rel=>exact⟨k+1,by omega,by go_num,Hb4.out,by rw[Hst.out];exact Ho4.out⟩
      case measure=>simp[intOf];omega
     | false=>
      rw[if_neg (by simp)] at Hst;go_wp2;go_roundw
      case rel=>exact⟨k+1,by omega,by go_num,Hb2.out,by rw[Hst.out];exact Ho2.out⟩
      case measure=>simp[intOf];omega
  · obtain rfl:k=M:=by omega
    have Ho:=ho;have Hall:=hid (show qu ((yx f L).take k) []=opL (gOf op) a b from by rw[List.take_of_length_le (by rw[zav,←HM.out];omega)];exact Hdo.out);rw[Hall.out] at Ho;clear ho;go_wp2;go_ret;exact⟨⟨_,rfl,y9 Ho.out Hz1.out⟩,Hb1.out.trans (Hb.out.mono Hz1.out)⟩
end
end Go.Proofs.YtdnjfnofjaoajaaGreatDoor
