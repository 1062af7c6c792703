/- Part 55. -/
import Derived.Test.YtmfhggnlainmiaaGreatDoorPk53
import Derived.Test.YtmfhggnlainmiaaGreatDoorPk24
set_option linter.unusedVariables false
set_option maxHeartbeats 16000000
namespace Go.Proofs.YtmfhggnlainmiaaGreatDoor
open Lib (hid)
section
theorem zpu (l:List Nat) (p i:Nat):nth (l.drop p) i=nth l (p+i):=by
 simp[nth]
end
section
open Go.RowKit
theorem Tryz.arr4:Tryz.prog.underlying 102=some (.array 4 5):=Tryz.underlying102
theorem Tryz.sz8:(Tryz.prog.info? 5).map (·.size)=some 1:=by kernel_rfl
theorem ygk (d:Nat) (a b:Int) (w:World):(Op.equalIn (d+1) 5 (.int .u8 a) (.int .u8 b)).run Tryz.prog w=.ok (a == b) w:=by
 simp[Op.equalIn,run_underlying Tryz.underlying5]
theorem ygl (cs:Array Value) (i:Nat) (v:Value) (h:cs[i]?=some v) (w:World):(part 5 cs i).run Tryz.prog w=.ok v w:=by
 simp[part,isAgg,run_underlying Tryz.underlying5,h]
theorem ygm (d:Nat) (x0 x1 x2 x3 y0 y1 y2 y3:Int) (w:World):(Op.equalIn (d+1+1) 102 (.agg #[.int .u8 x0,.int .u8 x1,.int .u8 x2,.int .u8 x3]) (.agg #[.int .u8 y0,.int .u8 y1,.int .u8 y2,.int .u8 y3])).run Tryz.prog w=.ok (x0 == y0 && (x1 == y1 && (x2 == y2 && x3 == y3))) w:=by
 cases hq:Tryz.prog.info? 5 with
 | none=>have:=Tryz.sz8;simp[hq] at this
 | some i=>
  have hsz:i.size=1:=by have:=Tryz.sz8;simpa [hq] using this
  have e:=fun (a b:Int)=>ygk d a b w
  rw[Op.equalIn];generalize Op.equalIn (d+1)=F at*;simp only[Sem.run_bind,run_underlying Tryz.arr4,Result.andThen,sizeOf,typeInfo];simp[hq,hsz,Std.Legacy.Range.forIn_eq_forIn_range',List.range',ygl,e];by_cases h0:x0=y0 <;> by_cases h1:x1=y1 <;> by_cases h2:x2=y2 <;> by_cases h3:x3=y3 <;> simp[h0,h1,h2,h3]
theorem zkn (x0 x1 x2 x3 y0 y1 y2 y3:Int) (w:World):(Op.equalIn 10000 102 (.agg #[.int .u8 x0,.int .u8 x1,.int .u8 x2,.int .u8 x3]) (.agg #[.int .u8 y0,.int .u8 y1,.int .u8 y2,.int .u8 y3])).run Tryz.prog w=.ok (x0 == y0 && (x1 == y1 && (x2 == y2 && x3 == y3))) w:=
 ygm 9998 x0 x1 x2 x3 y0 y1 y2 y3 w
theorem ygn (L:List Nat):splice [.int .u8 0,.int .u8 0,.int .u8 0,.int .u8 0] 0 (u8s (L.take 4))=[.int .u8 ((nth L 0:Nat):Int),.int .u8 ((nth L 1:Nat):Int),.int .u8 ((nth L 2:Nat):Int),.int .u8 ((nth L 3:Nat):Int)]:=by
 match L with
 | []=>rfl
 | [a]=>rfl
 | [a,b]=>rfl
 | [a,b,c]=>rfl
 | a :: b :: c :: d :: r=>rfl
set_option maxRecDepth 100000 in
theorem ygo (a:Option Addr) (n cap p:Nat) (most:Int) (l:List Nat) (w:World) (hD:Door w) (hB:Byts w a n cap l) (hp:p<n) (hn:n≤1000000000000) (hm0: -9223372036854775808≤most) (hm1:most≤9223372036854775807):
 Calls Tryz.prog 129 #[.slice a n cap,.int .i64 p,.int .i64 most] w fun e w'=>
  e=.returned (.tuple #[.int .i64 ((jj l p most).1:Nat),.int .i64 ((jj l p most).2.1:Nat),zy (jj l p most).2.2])∧Below w.heap.size w w':=by
 have HB:=hid hB;have HD:=hid hD;clear hD;have Hm:=hid (And.intro hm0 hm1);clear hm0 hm1;obtain⟨hl,hlt,hnc,hcm,hnil,hc⟩:=hB;clear hnil hcm;have Hl:=hid hl;clear hl;have Hlt:=hid hlt;clear hlt;obtain⟨b,o,rfl,hcell⟩:=hc (by omega);have Hcell:=hid hcell;clear hcell hc;have hpc:¬cap=p:=by omega
 have hple:p≤n:=by omega
 have h0p:(0:Int)≤(p:Int):=by omega
 have HBs:=hid (fun (w':World) (hb:Below w.heap.size w w')=>show ∀j u,(u8s ((l.drop p).take 4))[j]?=some u→w'.cell? ((⟨b,o+p,none⟩:Addr).add j)=some u from by
  intro j u hu
  have hj:j<((l.drop p).take 4).length:=by
   rcases Nat.lt_or_ge j ((l.drop p).take 4).length with h' | h'
   · exact h'
   · rw[List.getElem?_eq_none (by rw[zk1];exact h')] at hu;cases hu
  rw[zk2 _ j hj] at hu;cases hu;rw[List.length_take,List.length_drop,Hl.out] at hj
  rw[qg,hb.cell (p:=⟨b,o+p+j,none⟩) (by
   have:=zf (Hcell.out p hp);exact this),Nat.add_assoc,Hcell.out (p+j) (by omega)]
  have:nth ((l.drop p).take 4) j=nth l (p+j):=by
   have h4:j<4:=by omega
   simp[nth,h4]
  rw[this])
 have Hlen:=hid (show (u8s ((l.drop p).take 4)).length=Nat.min (n - p) 4 from by rw[zk1,List.length_take,List.length_drop,Hl.out,Nat.min_comm]);have Hone:=hid (show ∀v∈u8s ((l.drop p).take 4),v.oneCell'=true from by intro v hv;unfold u8s at hv;rw[List.mem_map] at hv;obtain⟨x,_,rfl⟩:=hv;rfl);have Hb0:=hid ((Below.refl w.heap.size w).alloc (Nat.le_refl _) (.cells #[.int .u8 0,.int .u8 0,.int .u8 0,.int .u8 0] 102));go_enter Tryz.func129,Tryz.ntmps129;go_wp2_with fail;go_region_law (refine step_copy_splice rfl (.tmp 20) (.tmp 23) 22 22 rfl 5 Tryz.underlying22 (by kernel_rfl) (some ⟨w.heap.size,0,none⟩) (some ⟨b,o+p,none⟩) 4 4 (n - p) (cap - p) rfl rfl w.heap.size 0 [.int .u8 0,.int .u8 0,.int .u8 0,.int .u8 0] 102 (heap_alloc_new _ _) (u8s ((l.drop p).take 4)) Hlen.out (fun _=>⟨rfl,_,rfl,HBs.out _ Hb0.out.drew⟩) (by rw[Hlen.out,Nat.zero_add];exact Nat.min_le_right _ _) Hone.out w.heap.size w Hb0.out.drew (Nat.le_refl _) ?_;intro w4 hg4 hb4)
 rw[ygn,zpu,zpu,zpu,zpu,Nat.add_zero] at hg4;rw[Hlen.out];have Hg4:=hid hg4.out;clear hg4 Hone HBs Hlen;have hmin:((Nat.min (n - p) 4:Nat):Int)=((min (n - p) 4:Nat):Int):=rfl;go_wp2_with fail;refine(zhv _).mono ?_;rintro e w5 ⟨rfl,hb5⟩;have hgl4:w.heap.size<w4.heap.size:=(Array.getElem?_eq_some_iff.1 Hg4.out).1;have hgl:w.heap.size<w5.heap.size:=Nat.lt_of_lt_of_le hgl4 hb5.size;have hg5:=(hb5.block w.heap.size hgl4).trans Hg4.out;have c0:=cell_of_row w5 w.heap.size 0 _ _ _ hg5;have c1:=cell_of_row w5 w.heap.size 1 _ _ _ hg5;have c2:=cell_of_row w5 w.heap.size 2 _ _ _ hg5;have c3:=cell_of_row w5 w.heap.size 3 _ _ _ hg5;simp only[List.getElem?_toArray,List.getElem?_cons_zero,List.getElem?_cons_succ] at c0 c1 c2 c3;have hb:=hb4.trans (hb5.mono hb4.size);clear hg5 hb4 hb5 Hg4 hgl4;generalize hd0:nth l p=d0 at*;generalize hd1:nth l (p+1)=d1 at*;generalize hd2:nth l (p+2)=d2 at*;generalize hd3:nth l (p+3)=d3 at*;have Hd0:=hid hd0;clear hd0;have Hd1:=hid hd1;clear hd1;have Hd2:=hid hd2;clear hd2;have Hd3:=hid hd3;clear hd3;generalize hM:(min (n - p) 4)=m4 at*;have HM:=hid hM;clear hM hmin;have he4:=zkn;have hm4:p+m4≤n:=by have:=HM.out;omega
 have hm44:m4≤4:=by have:=HM.out;omega
 by_cases hE:d0=75∧d1=78∧d2=87∧d3=76
 · obtain⟨rfl,rfl,rfl,rfl⟩:=hE
   have hn4:p+4≤n:=by
    by_cases h:p+3<n
    · omega
    · exfalso;have h3:=Hd3.out;unfold nth at h3;rw[List.getD_eq_getElem?_getD,List.getElem?_eq_none (by rw[Hl.out];omega)] at h3;exact absurd h3 (by decide)
   have Hok:=hid (show ∀j,j<4→za0 l p j=none from by
    intro j hj;refine zhs (by rw[Hl.out];omega) ?_;obtain rfl | rfl | rfl | rfl:j=0∨j=1∨j=2∨j=3:=by omega
    · exact Hd0.out
    · exact Hd1.out
    · exact Hd2.out
    · exact Hd3.out)
   clear he4;have he5:=fun w=>zkn 75 78 87 76 75 78 87 76 w
   have Hb6:=hid (hb.alloc hb.size (.cells #[.int .u8 75,.int .u8 78,.int .u8 87,.int .u8 76] 102));have hrest:((n:Int) - ((p:Int)+4))=((n - (p+4):Nat):Int):=by omega
   by_cases h4:p+4=n
   · have Hbad:=hid (zhz (most:=most) (zfc (show 4<5 by omega) Hok.out (zgw (by rw[Hl.out];omega))));have t4:((n:Int) - ((p:Int)+4) == 0)=true:=by rw[beq_iff_eq];omega
     clear hrest h4;go_wp2_with fail;refine(zaf 5 _ _).mono ?_;rintro e w' ⟨rfl,rfl⟩;go_wp2_with fail;go_ret3
     refine⟨?_,Hb6.out⟩;rw[Hbad.out]
     rfl
   · have t4:((n:Int) - ((p:Int)+4) == 0)=false:=by rw[beq_eq_false_iff_ne];omega
     clear hrest;have hp4:p+4<n:=by omega
     have hc:(w5.alloc (.cells #[.int .u8 75,.int .u8 78,.int .u8 87,.int .u8 76] 102)).cell? ⟨b,o+(p+4),none⟩=some (.int .u8 ((nth l (p+4):Nat):Int)):=by
      rw[Hb6.out.cell (p:=⟨b,o+(p+4),none⟩) (by have:=zf (Hcell.out p hp);exact this)];exact Hcell.out (p+4) hp4
     by_cases hv:nth l (p+4)=1
     · have hnone:=zov (l:=l) (p:=p) (by
        intro j hj;by_cases h:j<4
        · exact Hok.out j h
        · obtain rfl:j=4:=by omega
          exact zhs (by rw[Hl.out];exact hp4) hv)
       rw[hv] at hc;have HR:=hid (z0x l p most hnone _ _ _ rfl);have hst:=zo5 (l.drop (p+5)) 0 0;have hxl:=zsz (l.drop (p+5)) 0 0 (by omega);have hjl:=zo6 (l.drop (p+5)) 0 0;rw[List.length_drop,Hl.out] at hjl;have Hrd:=hid (show zcc l (p+5)=(match yf (l.drop (p+5)) 0 0 with | (1,x,j)=>(x,p+5+j,none) | (2,_,_)=>(0,0,some (6,some ((p+5:Nat):Int))) | _=>(0,0,some (5,some ((p+5:Nat):Int)))) from rfl);have Hread:=hid (zt0 (some ⟨b,o,none⟩) n cap (p+5) l _ (HB.out.below Hb6.out) (by omega));have HDx:=hid (HD.out.below (Nat.le_refl _) Hb6.out);generalize yf (l.drop (p+5)) 0 0=r at*;obtain⟨st,x,j⟩:=r;have hst':st=0∨st=1∨st=2:=hst;have hjl':j≤0+(n - (p+5)):=hjl;have Hxl:=hid (show x<18446744073709551616 from hxl);clear hst hjl hxl hnone hv;go_wp2_with fail;refine Hread.out.mono ?_;rintro e wZ ⟨rfl,hbZ⟩;have HbZ:=hid (Hb6.out.trans (hbZ.mono Hb6.out.size));have HDz:=hid (HDx.out.below (Nat.le_refl _) hbZ);clear hbZ hc c0 c1 c2 c3 hgl hb Hread;rcases hst' with rfl | rfl | rfl
       · rw[show zcc l (p+5)=(0,0,some (5,some ((p+5:Nat):Int))) from Hrd.out];have Hbad:=hid (show jj l p most=(0,0,some (5,some (p:Int))) from HR.out);simp only[zy];go_wp2_with fail;refine(zcy (some (5,some ((p+5:Nat):Int))) _ HDz.out).mono ?_;rintro e wy ⟨rfl,hby⟩;have Hby:=hid (HbZ.out.trans (hby.mono HbZ.out.size));clear hby;simp only[je];go_wp2_with fail;refine(zaf 5 _ _).mono ?_;rintro e w' ⟨rfl,rfl⟩;go_wp2_with fail;go_ret3
         refine⟨?_,Hby.out⟩;rw[Hbad.out]
         rfl
       · rw[show zcc l (p+5)=(x,p+5+j,none) from Hrd.out];simp only[zy];by_cases hneg:most<0
         · have hmax:max most 0=0:=by omega
           have Hmax:=hid hmax;clear hmax;by_cases hlim:0<x
           · have Hbad:=hid (show jj l p most=(0,0,some (7,some ((p+5:Nat):Int))) from by rw[HR.out];exact if_pos (by rw[Hmax.out];omega));go_wp2_with fail;refine(zaf 7 _ _).mono ?_;rintro e w' ⟨rfl,rfl⟩;go_wp2_with fail;go_ret3
             refine⟨?_,HbZ.out⟩;rw[Hbad.out]
             rfl
           · obtain rfl:x=0:=by omega
             have Hgood:=hid (show jj l p most=(p+5+j,0,none) from by rw[HR.out];exact if_neg (by rw[Hmax.out];omega));go_wp2_with fail;go_ret3
             refine⟨?_,HbZ.out⟩;rw[Hgood.out]
             rfl
         · obtain⟨m,rfl⟩:=Int.eq_ofNat_of_zero_le (show 0≤most by omega);have hm63:m<9223372036854775808:=by have:=Hm.out.2;omega
           have hmax:max (m:Int) 0=(m:Int):=by omega
           have Hmax:=hid hmax;clear hmax;by_cases hlim:m<x
           · have Hbad:=hid (show jj l p m=(0,0,some (7,some ((p+5:Nat):Int))) from by rw[HR.out];exact if_pos (by rw[Hmax.out];omega));go_wp2_with fail;refine(zaf 7 _ _).mono ?_;rintro e w' ⟨rfl,rfl⟩;go_wp2_with fail;go_ret3
             refine⟨?_,HbZ.out⟩;rw[Hbad.out]
             rfl
           · have Hgood:=hid (show jj l p m=(p+5+j,x,none) from by rw[HR.out];exact if_neg (by rw[Hmax.out];omega));have hx63:x<9223372036854775808:=by omega
             go_wp2_with fail;go_ret3
             refine⟨?_,HbZ.out⟩;rw[Hgood.out]
             rfl
       · rw[show zcc l (p+5)=(0,0,some (6,some ((p+5:Nat):Int))) from Hrd.out];have Hbad:=hid (show jj l p most=(0,0,some (6,some ((p+5:Nat):Int))) from HR.out);simp only[zy];go_wp2_with fail;refine(zcy (some (6,some ((p+5:Nat):Int))) _ HDz.out).mono ?_;rintro e wy ⟨rfl,hby⟩;have Hby:=hid (HbZ.out.trans (hby.mono HbZ.out.size));clear hby;simp only[je];go_wp2_with fail;refine(zaf 6 _ _).mono ?_;rintro e w' ⟨rfl,rfl⟩;go_wp2_with fail;go_ret3
         refine⟨?_,Hby.out⟩;rw[Hbad.out]
         rfl
     · have Hbad:=hid (zhz (most:=most) (zfc (show 4<5 by omega) Hok.out (zow (by rw[Hl.out];exact hp4) (show nth l (p+4)≠nth qw 4 from hv))));have hne:(((nth l (p+4):Nat):Int) != 1)=true:=by rw[bne_iff_ne];omega
       generalize nth l (p+4)=d at*;clear hv;go_wp2_with fail;refine(zaf 13 _ _).mono ?_;rintro e w' ⟨rfl,rfl⟩;go_wp2_with fail;go_ret3
       refine⟨?_,Hb6.out⟩;rw[Hbad.out]
       rfl
 · have hN:((!((d0:Int) == 75)) || ((!((d1:Int) == 78)) || ((!((d2:Int) == 87)) || (!((d3:Int) == 76)))))=true:=by
    simp only[Bool.or_eq_true,Bool.not_eq_true',beq_eq_false_iff_ne];omega
   have HE:=hid hE;clear hE;have hsm:(p:Int)≤(p:Int)+(m4:Int):=by omega
   go_wp2_with fail;have Hb6:=hid (hb.alloc hb.size (.cells #[.int .u8 75,.int .u8 78,.int .u8 87,.int .u8 76] 102))
   have Hmg:=hid (fun (k:Nat) (hk:k<4)=>show (w5.alloc (.cells #[.int .u8 75,.int .u8 78,.int .u8 87,.int .u8 76] 102)).cell? ⟨w5.heap.size,k,none⟩=some (.int .u8 ((nth qw k:Nat):Int)) from by
    rw[World.cell?_alloc_new];obtain rfl | rfl | rfl | rfl:k=0∨k=1∨k=2∨k=3:=by omega
    all_goals rfl)
   clear c0 c1 c2 c3 hgl hb he4 hN;generalize w5.alloc (.cells #[.int .u8 75,.int .u8 78,.int .u8 87,.int .u8 76] 102)=w6 at*;generalize w5.heap.size=gm at*;go_loop [12,13,36] (fun _ _ i=>∃k:Nat,k≤m4∧i=.int .i64 k∧Hid (∀j,j<k→za0 l p j=none)) (fun _ _ i=>m4 - (intOf i).toNat)
   case atStart=>exact⟨0,by omega,rfl,fun j h=>by omega⟩
   case round=>
    obtain⟨k,hk,rfl,hH⟩:=hrel;by_cases hkm:k<m4
    · have hc:w6.cell? ⟨b,o+p+k,none⟩=some (.int .u8 ((nth l (p+k):Nat):Int)):=by
       rw[Hb6.out.cell (p:=⟨b,o+p+k,none⟩) (by have:=zf (Hcell.out p hp);exact this),Nat.add_assoc];exact Hcell.out (p+k) (by omega)
      have hm:=Hmg.out k (by omega);by_cases he:nth l (p+k)=nth qw k
      · have Hnext:=hid (show ∀j,j<k+1→za0 l p j=none from fun j hj=>by
         by_cases hjk:j<k
         · exact hH.out j hjk
         · obtain rfl:j=k:=by omega
           exact zhs (by rw[Hl.out];omega) he)
        rw[he] at hc;generalize nth qw k=c at*;clear he;go_wp2_with fail;go_round
        case rel=>exact⟨k+1,by omega,by go_num,Hnext.out⟩
        case measure=>simp[intOf];omega
      · have Hbad:=hid (zhz (most:=most) (zfc (by omega) hH.out (zow (by rw[Hl.out];omega) he)));have hne:(((nth l (p+k):Nat):Int) != ((nth qw k:Nat):Int))=true:=by rw[bne_iff_ne];omega
        rw[if_neg (by omega:¬k=4)] at Hbad;generalize nth qw k=c at*;generalize nth l (p+k)=d at*;clear he;go_wp2_with fail;refine(zaf 12 _ _).mono ?_;rintro e w' ⟨rfl,rfl⟩;go_wp2_with fail;go_ret3
        refine⟨?_,Hb6.out⟩;rw[Hbad.out]
        rfl
    · obtain rfl:k=m4:=by omega
      have hlt4:k<4:=by
       rcases Nat.lt_or_ge k 4 with h | h
       · exact h
       · exfalso;have h0:=hH.out 0 (by omega);have h1:=hH.out 1 (by omega);have h2:=hH.out 2 (by omega);have h3:=hH.out 3 (by omega)
         have g:∀j,j<4→za0 l p j=none→nth l (p+j)=nth qw j:=by
          intro j hj hh;unfold za0 at hh;rw[if_neg (by rw[Hl.out];omega)] at hh;by_cases e:nth l (p+j)=nth qw j
          · exact e
          · rw[if_neg e] at hh;cases hh
         have g0:=g 0 (by omega) h0;have g1:=g 1 (by omega) h1;have g2:=g 2 (by omega) h2;have g3:=g 3 (by omega) h3;rw[Nat.add_zero,Hd0.out] at g0;rw[Hd1.out] at g1;rw[Hd2.out] at g2;rw[Hd3.out] at g3;exact HE.out ⟨g0,g1,g2,g3⟩
      have hend:p+k=n:=by have:=HM.out;omega
      have Hbad:=hid (zhz (most:=most) (zfc (show k<5 by omega) hH.out (zgw (by rw[Hl.out];omega))));clear hend;go_wp2_with fail;refine(zaf 5 _ _).mono ?_;rintro e w' ⟨rfl,rfl⟩;go_wp2_with fail;go_ret3
      refine⟨?_,Hb6.out⟩;rw[Hbad.out]
      rfl
set_option maxRecDepth 100000 in
theorem ygp (a:Option Addr) (n cap:Nat) (most:Int) (l:List Nat) (w:World) (hB:Byts w a n cap l) (hn:n≤1000000000000):
 Calls Tryz.prog 129 #[.slice a n cap,.int .i64 n,.int .i64 most] w fun e w'=>
  e=.returned (.tuple #[.int .i64 ((jj l n most).1:Nat),.int .i64 ((jj l n most).2.1:Nat),zy (jj l n most).2.2])∧Below w.heap.size w w':=by
 have HB:=hid hB;have hbad:jj l n most=(0,0,some (5,some (n:Int))):=zhz (zfc (show 0<5 by omega) (fun j hj=>by omega) (zgw (by rw[hB.len];omega)));have Hbad:=hid hbad;clear hbad;obtain⟨hl,hlt,hnc,hcm,hnil,hc⟩:=hB;clear hcm hl hlt hc;have h0p:(0:Int)≤(n:Int):=by omega
 have Hb0:=hid ((Below.refl w.heap.size w).alloc (Nat.le_refl _) (.cells #[.int .u8 0,.int .u8 0,.int .u8 0,.int .u8 0] 102))
 cases a with
 | none=>
  have hc0:=hnil rfl;obtain rfl:n=0:=by omega
  subst hc0;clear hnil;go_enter Tryz.func129,Tryz.ntmps129;go_wp2_with fail;go_region_law (refine step_copy_splice rfl (.tmp 20) (.tmp 23) 22 22 rfl 5 Tryz.underlying22 (by kernel_rfl) (some ⟨w.heap.size,0,none⟩) _ 4 4 _ _ rfl rfl w.heap.size 0 [.int .u8 0,.int .u8 0,.int .u8 0,.int .u8 0] 102 (heap_alloc_new _ _) [] rfl (fun h=>absurd h (Nat.lt_irrefl 0)) (Nat.zero_le _) (by intro v hv;cases hv) w.heap.size w Hb0.out.drew (Nat.le_refl _) ?_;intro w4 hg4 hb4)
  have Hg4:=hid hg4.out;clear hg4;go_wp2_with fail;refine(zhv _).mono ?_;rintro e w5 ⟨rfl,hb5⟩;have hgl4:w.heap.size<w4.heap.size:=(Array.getElem?_eq_some_iff.1 Hg4.out).1;have hgl:w.heap.size<w5.heap.size:=Nat.lt_of_lt_of_le hgl4 hb5.size;have hg5:=(hb5.block w.heap.size hgl4).trans Hg4.out;have c0:=cell_of_row w5 w.heap.size 0 _ _ _ hg5;have c1:=cell_of_row w5 w.heap.size 1 _ _ _ hg5;have c2:=cell_of_row w5 w.heap.size 2 _ _ _ hg5;have c3:=cell_of_row w5 w.heap.size 3 _ _ _ hg5;simp only[splice,List.take_zero,List.nil_append,List.length_nil,Nat.add_zero,List.drop_zero,List.getElem?_toArray,List.getElem?_cons_zero,List.getElem?_cons_succ] at c0 c1 c2 c3;have hb:=hb4.trans (hb5.mono hb4.size);clear hg5 hb4 hb5 Hg4 hgl4;have he4:=zkn;go_wp2_with fail;refine wp_loop_once ?_;go_wp2_with fail;refine(zaf 5 _ _).mono ?_;rintro e w' ⟨rfl,rfl⟩;go_wp2_with fail;go_ret3
  refine⟨?_,hb.alloc hb.size _⟩;rw[Hbad.out]
  rfl
 | some x=>
  clear hnil;by_cases hcn:cap=n
  · subst hcn;go_enter Tryz.func129,Tryz.ntmps129;go_wp2_with fail;go_region_law (refine step_copy_splice rfl (.tmp 20) (.tmp 23) 22 22 rfl 5 Tryz.underlying22 (by kernel_rfl) (some ⟨w.heap.size,0,none⟩) _ 4 4 _ _ rfl rfl w.heap.size 0 [.int .u8 0,.int .u8 0,.int .u8 0,.int .u8 0] 102 (heap_alloc_new _ _) [] (by simp) (fun h=>absurd h (Nat.lt_irrefl 0)) (Nat.zero_le _) (by intro v hv;cases hv) w.heap.size w Hb0.out.drew (Nat.le_refl _) ?_;intro w4 hg4 hb4)
    have Hg4:=hid hg4.out;clear hg4;go_wp2_with fail;refine(zhv _).mono ?_;rintro e w5 ⟨rfl,hb5⟩;have hgl4:w.heap.size<w4.heap.size:=(Array.getElem?_eq_some_iff.1 Hg4.out).1;have hgl:w.heap.size<w5.heap.size:=Nat.lt_of_lt_of_le hgl4 hb5.size;have hg5:=(hb5.block w.heap.size hgl4).trans Hg4.out;have c0:=cell_of_row w5 w.heap.size 0 _ _ _ hg5;have c1:=cell_of_row w5 w.heap.size 1 _ _ _ hg5;have c2:=cell_of_row w5 w.heap.size 2 _ _ _ hg5;have c3:=cell_of_row w5 w.heap.size 3 _ _ _ hg5;simp only[splice,List.take_zero,List.nil_append,List.length_nil,Nat.add_zero,List.drop_zero,List.getElem?_toArray,List.getElem?_cons_zero,List.getElem?_cons_succ] at c0 c1 c2 c3;have hb:=hb4.trans (hb5.mono hb4.size);clear hg5 hb4 hb5 Hg4 hgl4;have he4:=zkn;go_wp2_with fail;refine wp_loop_once ?_;go_wp2_with fail;refine(zaf 5 _ _).mono ?_;rintro e w' ⟨rfl,rfl⟩;go_wp2_with fail;go_ret3
    refine⟨?_,hb.alloc hb.size _⟩;rw[Hbad.out]
    rfl
  · have hcn':¬cap=n:=hcn;go_enter Tryz.func129,Tryz.ntmps129;go_wp2_with fail;go_region_law (refine step_copy_splice rfl (.tmp 20) (.tmp 23) 22 22 rfl 5 Tryz.underlying22 (by kernel_rfl) (some ⟨w.heap.size,0,none⟩) _ 4 4 _ _ rfl rfl w.heap.size 0 [.int .u8 0,.int .u8 0,.int .u8 0,.int .u8 0] 102 (heap_alloc_new _ _) [] (by simp) (fun h=>absurd h (Nat.lt_irrefl 0)) (Nat.zero_le _) (by intro v hv;cases hv) w.heap.size w Hb0.out.drew (Nat.le_refl _) ?_;intro w4 hg4 hb4)
    have Hg4:=hid hg4.out;clear hg4;go_wp2_with fail;refine(zhv _).mono ?_;rintro e w5 ⟨rfl,hb5⟩;have hgl4:w.heap.size<w4.heap.size:=(Array.getElem?_eq_some_iff.1 Hg4.out).1;have hgl:w.heap.size<w5.heap.size:=Nat.lt_of_lt_of_le hgl4 hb5.size;have hg5:=(hb5.block w.heap.size hgl4).trans Hg4.out;have c0:=cell_of_row w5 w.heap.size 0 _ _ _ hg5;have c1:=cell_of_row w5 w.heap.size 1 _ _ _ hg5;have c2:=cell_of_row w5 w.heap.size 2 _ _ _ hg5;have c3:=cell_of_row w5 w.heap.size 3 _ _ _ hg5;simp only[splice,List.take_zero,List.nil_append,List.length_nil,Nat.add_zero,List.drop_zero,List.getElem?_toArray,List.getElem?_cons_zero,List.getElem?_cons_succ] at c0 c1 c2 c3;have hb:=hb4.trans (hb5.mono hb4.size);clear hg5 hb4 hb5 Hg4 hgl4;have he4:=zkn;go_wp2_with fail;refine wp_loop_once ?_;go_wp2_with fail;refine(zaf 5 _ _).mono ?_;rintro e w' ⟨rfl,rfl⟩;go_wp2_with fail;go_ret3
    refine⟨?_,hb.alloc hb.size _⟩;rw[Hbad.out]
    rfl
theorem zpv (a:Option Addr) (n cap p:Nat) (most:Int) (l:List Nat) (w:World) (hD:Door w) (hB:Byts w a n cap l) (hp:p≤n) (hn:n≤1000000000000) (hm0: -9223372036854775808≤most) (hm1:most≤9223372036854775807):
 Calls Tryz.prog 129 #[.slice a n cap,.int .i64 p,.int .i64 most] w fun e w'=>
  e=.returned (.tuple #[.int .i64 ((jj l p most).1:Nat),.int .i64 ((jj l p most).2.1:Nat),zy (jj l p most).2.2])∧Below w.heap.size w w':=by
 by_cases h:p<n
 · exact ygo a n cap p most l w hD hB h hn hm0 hm1
 · obtain rfl:p=n:=by omega
   exact ygp a p cap most l w hB hn
