/- Part 08. -/
import Derived.Test.YtdnipikdddfhfaaGreatDoorOp07
set_option linter.unusedVariables false
set_option maxHeartbeats 16000000
namespace Go.Proofs.YtdnipikdddfhfaaGreatDoor
open Lib (hid)
section
open Go.RowKit
theorem zre (L:List Nat):splice [.int .u8 0,.int .u8 0,.int .u8 0,.int .u8 0] 0 (u8s (L.take 4))=[.int .u8 ((nth L 0:Nat):Int),.int .u8 ((nth L 1:Nat):Int),.int .u8 ((nth L 2:Nat):Int),.int .u8 ((nth L 3:Nat):Int)]:=by
 match L with
 | []=>rfl
 | [a]=>rfl
 | [a,b]=>rfl
 | [a,b,c]=>rfl
 | a :: b :: c :: d :: r=>rfl
set_option maxRecDepth 100000 in
theorem zrf (a:Option Addr) (n cap p:Nat) (most:Int) (l:List Nat) (w:World) (hD:Door w) (hB:Byts w a n cap l) (hp:p<n) (hn:n≤1000000000000) (hm0: -9223372036854775808≤most) (hm1:most≤9223372036854775807):
 Calls Tryz.prog 165 #[.slice a n cap,.int .i64 p,.int .i64 most] w fun e w'=>
  e=.returned (.tuple #[.int .i64 ((yr l p most).1:Nat),.int .i64 ((yr l p most).2.1:Nat),zn (yr l p most).2.2])∧Below w.heap.size w w':=by
 have HB:=hid hB;have HD:=hid hD;clear hD;have Hm:=hid (And.intro hm0 hm1);clear hm0 hm1;obtain⟨hl,hlt,hnc,hcm,hnil,hc⟩:=hB;clear hnil hcm;have Hl:=hid hl;clear hl;have Hlt:=hid hlt;clear hlt;obtain⟨b,o,rfl,hcell⟩:=hc (by omega);have Hcell:=hid hcell;clear hcell hc;have hpc:¬cap=p:=by omega
 have hple:p≤n:=by omega
 have h0p:(0:Int)≤(p:Int):=by omega
 have HBs:=hid (fun (w':World) (hb:Below w.heap.size w w')=>show ∀j u,(u8s ((l.drop p).take 4))[j]?=some u→w'.cell? ((⟨b,o+p,none⟩:Addr).add j)=some u from by
  intro j u hu
  have hj:j<((l.drop p).take 4).length:=by
   rcases Nat.lt_or_ge j ((l.drop p).take 4).length with h' | h'
   · exact h'
   · rw[List.getElem?_eq_none (by rw[zdm];exact h')] at hu;cases hu
  rw[zeq _ j hj] at hu;cases hu;rw[List.length_take,List.length_drop,Hl.out] at hj
  rw[yv,hb.cell (p:=⟨b,o+p+j,none⟩) (by
   have:=ze (Hcell.out p hp);exact this),Nat.add_assoc,Hcell.out (p+j) (by omega)]
  have:nth ((l.drop p).take 4) j=nth l (p+j):=by
   have h4:j<4:=by omega
   simp[nth,h4]
  rw[this])
 have Hlen:=hid (show (u8s ((l.drop p).take 4)).length=Nat.min (n - p) 4 from by rw[zdm,List.length_take,List.length_drop,Hl.out,Nat.min_comm]);have Hone:=hid (show ∀v∈u8s ((l.drop p).take 4),v.oneCell'=true from by intro v hv;unfold u8s at hv;rw[List.mem_map] at hv;obtain⟨x,_,rfl⟩:=hv;rfl);have Hb0:=hid ((Below.refl w.heap.size w).alloc (Nat.le_refl _) (.cells #[.int .u8 0,.int .u8 0,.int .u8 0,.int .u8 0] 139));go_enter Tryz.func165,Tryz.ntmps165;go_wp2_with fail;go_region_law (refine step_copy_splice rfl (.tmp 20) (.tmp 23) 22 22 rfl 5 Tryz.underlying22 (by kernel_rfl) (some ⟨w.heap.size,0,none⟩) (some ⟨b,o+p,none⟩) 4 4 (n - p) (cap - p) rfl rfl w.heap.size 0 [.int .u8 0,.int .u8 0,.int .u8 0,.int .u8 0] 139 (heap_alloc_new _ _) (u8s ((l.drop p).take 4)) Hlen.out (fun _=>⟨rfl,_,rfl,HBs.out _ Hb0.out.drew⟩) (by rw[Hlen.out,Nat.zero_add];exact Nat.min_le_right _ _) Hone.out w.heap.size w Hb0.out.drew (Nat.le_refl _) ?_;intro w4 hg4 hb4)
 rw[zre,ze1,ze1,ze1,ze1,Nat.add_zero] at hg4;rw[Hlen.out];have Hg4:=hid hg4.out;clear hg4 Hone HBs Hlen;have hmin:((Nat.min (n - p) 4:Nat):Int)=((min (n - p) 4:Nat):Int):=rfl;go_wp2_with fail;refine(zdy _).mono ?_;rintro e w5 ⟨rfl,hb5⟩;have hgl4:w.heap.size<w4.heap.size:=(Array.getElem?_eq_some_iff.1 Hg4.out).1;have hgl:w.heap.size<w5.heap.size:=Nat.lt_of_lt_of_le hgl4 hb5.size;have hg5:=(hb5.block w.heap.size hgl4).trans Hg4.out;have c0:=cell_of_row w5 w.heap.size 0 _ _ _ hg5;have c1:=cell_of_row w5 w.heap.size 1 _ _ _ hg5;have c2:=cell_of_row w5 w.heap.size 2 _ _ _ hg5;have c3:=cell_of_row w5 w.heap.size 3 _ _ _ hg5;simp only[List.getElem?_toArray,List.getElem?_cons_zero,List.getElem?_cons_succ] at c0 c1 c2 c3;have hb:=hb4.trans (hb5.mono hb4.size);clear hg5 hb4 hb5 Hg4 hgl4;generalize hd0:nth l p=d0 at*;generalize hd1:nth l (p+1)=d1 at*;generalize hd2:nth l (p+2)=d2 at*;generalize hd3:nth l (p+3)=d3 at*;have Hd0:=hid hd0;clear hd0;have Hd1:=hid hd1;clear hd1;have Hd2:=hid hd2;clear hd2;have Hd3:=hid hd3;clear hd3;generalize hM:(min (n - p) 4)=m4 at*;have HM:=hid hM;clear hM hmin;have he4:=zdl;have hm4:p+m4≤n:=by have:=HM.out;omega
 have hm44:m4≤4:=by have:=HM.out;omega
 by_cases hE:d0=75∧d1=78∧d2=87∧d3=76
 · obtain⟨rfl,rfl,rfl,rfl⟩:=hE
   have hn4:p+4≤n:=by
    by_cases h:p+3<n
    · omega
    · exfalso;have h3:=Hd3.out;unfold nth at h3;rw[List.getD_eq_getElem?_getD,List.getElem?_eq_none (by rw[Hl.out];omega)] at h3;exact absurd h3 (by decide)
   have Hok:=hid (show ∀j,j<4→jd l p j=none from by
    intro j hj;refine zcd (by rw[Hl.out];omega) ?_;obtain rfl | rfl | rfl | rfl:j=0∨j=1∨j=2∨j=3:=by omega
    · exact Hd0.out
    · exact Hd1.out
    · exact Hd2.out
    · exact Hd3.out)
   clear he4;have he5:=fun w=>zdl 75 78 87 76 75 78 87 76 w
   have Hb6:=hid (hb.alloc hb.size (.cells #[.int .u8 75,.int .u8 78,.int .u8 87,.int .u8 76] 139));have hrest:((n:Int) - ((p:Int)+4))=((n - (p+4):Nat):Int):=by omega
   by_cases h4:p+4=n
   · have Hbad:=hid (zce (most:=most) (zba (show 4<5 by omega) Hok.out (zcy (by rw[Hl.out];omega))));have t4:((n:Int) - ((p:Int)+4) == 0)=true:=by rw[beq_iff_eq];omega
     clear hrest h4;go_wp2_with fail;refine(je 5 _ _).mono ?_;rintro e w' ⟨rfl,rfl⟩;go_wp2_with fail;go_ret3
     refine⟨?_,Hb6.out⟩;rw[Hbad.out]
     rfl
   · have t4:((n:Int) - ((p:Int)+4) == 0)=false:=by rw[beq_eq_false_iff_ne];omega
     clear hrest;have hp4:p+4<n:=by omega
     have hc:(w5.alloc (.cells #[.int .u8 75,.int .u8 78,.int .u8 87,.int .u8 76] 139)).cell? ⟨b,o+(p+4),none⟩=some (.int .u8 ((nth l (p+4):Nat):Int)):=by
      rw[Hb6.out.cell (p:=⟨b,o+(p+4),none⟩) (by have:=ze (Hcell.out p hp);exact this)];exact Hcell.out (p+4) hp4
     by_cases hv:nth l (p+4)=1
     · have hnone:=zgm (l:=l) (p:=p) (by
        intro j hj;by_cases h:j<4
        · exact Hok.out j h
        · obtain rfl:j=4:=by omega
          exact zcd (by rw[Hl.out];exact hp4) hv)
       rw[hv] at hc;have HR:=hid (zj1 l p most hnone _ _ _ rfl);have hst:=zgy (l.drop (p+5)) 0 0;have hxl:=zgz (l.drop (p+5)) 0 0 (by omega);have hjl:=zg0 (l.drop (p+5)) 0 0;rw[List.length_drop,Hl.out] at hjl;have Hrd:=hid (show kg l (p+5)=(match zh (l.drop (p+5)) 0 0 with | (1,x,j)=>(x,p+5+j,none) | (2,_,_)=>(0,0,some (6,some ((p+5:Nat):Int))) | _=>(0,0,some (5,some ((p+5:Nat):Int)))) from rfl);have Hread:=hid (zjn (some ⟨b,o,none⟩) n cap (p+5) l _ (HB.out.below Hb6.out) (by omega));have HDx:=hid (HD.out.below (Nat.le_refl _) Hb6.out);generalize zh (l.drop (p+5)) 0 0=r at*;obtain⟨st,x,j⟩:=r;have hst':st=0∨st=1∨st=2:=hst;have hjl':j≤0+(n - (p+5)):=hjl;have Hxl:=hid (show x<18446744073709551616 from hxl);clear hst hjl hxl hnone hv;go_wp2_with fail;refine Hread.out.mono ?_;rintro e wZ ⟨rfl,hbZ⟩;have HbZ:=hid (Hb6.out.trans (hbZ.mono Hb6.out.size));have HDz:=hid (HDx.out.below (Nat.le_refl _) hbZ);clear hbZ hc c0 c1 c2 c3 hgl hb Hread;rcases hst' with rfl | rfl | rfl
       · rw[show kg l (p+5)=(0,0,some (5,some ((p+5:Nat):Int))) from Hrd.out];have Hbad:=hid (show yr l p most=(0,0,some (5,some (p:Int))) from HR.out);simp only[zn];go_wp2_with fail;refine(zaz (some (5,some ((p+5:Nat):Int))) _ HDz.out).mono ?_;rintro e wy ⟨rfl,hby⟩;have Hby:=hid (HbZ.out.trans (hby.mono HbZ.out.size));clear hby;simp only[kw];go_wp2_with fail;refine(je 5 _ _).mono ?_;rintro e w' ⟨rfl,rfl⟩;go_wp2_with fail;go_ret3
         refine⟨?_,Hby.out⟩;rw[Hbad.out]
         rfl
       · rw[show kg l (p+5)=(x,p+5+j,none) from Hrd.out];simp only[zn];by_cases hneg:most<0
         · have hmax:max most 0=0:=by omega
           have Hmax:=hid hmax;clear hmax;by_cases hlim:0<x
           · have Hbad:=hid (show yr l p most=(0,0,some (7,some ((p+5:Nat):Int))) from by rw[HR.out];exact if_pos (by rw[Hmax.out];omega));go_wp2_with fail;refine(je 7 _ _).mono ?_;rintro e w' ⟨rfl,rfl⟩;go_wp2_with fail;go_ret3
             refine⟨?_,HbZ.out⟩;rw[Hbad.out]
             rfl
           · obtain rfl:x=0:=by omega
             have Hgood:=hid (show yr l p most=(p+5+j,0,none) from by rw[HR.out];exact if_neg (by rw[Hmax.out];omega));go_wp2_with fail;go_ret3
             refine⟨?_,HbZ.out⟩;rw[Hgood.out]
             rfl
         · obtain⟨m,rfl⟩:=Int.eq_ofNat_of_zero_le (show 0≤most by omega);have hm63:m<9223372036854775808:=by have:=Hm.out.2;omega
           have hmax:max (m:Int) 0=(m:Int):=by omega
           have Hmax:=hid hmax;clear hmax;by_cases hlim:m<x
           · have Hbad:=hid (show yr l p m=(0,0,some (7,some ((p+5:Nat):Int))) from by rw[HR.out];exact if_pos (by rw[Hmax.out];omega));go_wp2_with fail;refine(je 7 _ _).mono ?_;rintro e w' ⟨rfl,rfl⟩;go_wp2_with fail;go_ret3
             refine⟨?_,HbZ.out⟩;rw[Hbad.out]
             rfl
           · have Hgood:=hid (show yr l p m=(p+5+j,x,none) from by rw[HR.out];exact if_neg (by rw[Hmax.out];omega));have hx63:x<9223372036854775808:=by omega
             go_wp2_with fail;go_ret3
             refine⟨?_,HbZ.out⟩;rw[Hgood.out]
             rfl
       · rw[show kg l (p+5)=(0,0,some (6,some ((p+5:Nat):Int))) from Hrd.out];have Hbad:=hid (show yr l p most=(0,0,some (6,some ((p+5:Nat):Int))) from HR.out);simp only[zn];go_wp2_with fail;refine(zaz (some (6,some ((p+5:Nat):Int))) _ HDz.out).mono ?_;rintro e wy ⟨rfl,hby⟩;have Hby:=hid (HbZ.out.trans (hby.mono HbZ.out.size));clear hby;simp only[kw];go_wp2_with fail;refine(je 6 _ _).mono ?_;rintro e w' ⟨rfl,rfl⟩;go_wp2_with fail;go_ret3
         refine⟨?_,Hby.out⟩;rw[Hbad.out]
         rfl
     · have Hbad:=hid (zce (most:=most) (zba (show 4<5 by omega) Hok.out (ze0 (by rw[Hl.out];exact hp4) (show nth l (p+4)≠nth qh 4 from hv))));have hne:(((nth l (p+4):Nat):Int) != 1)=true:=by rw[bne_iff_ne];omega
       generalize nth l (p+4)=d at*;clear hv;go_wp2_with fail;refine(je 13 _ _).mono ?_;rintro e w' ⟨rfl,rfl⟩;go_wp2_with fail;go_ret3
       refine⟨?_,Hb6.out⟩;rw[Hbad.out]
       rfl
 · have hN:((!((d0:Int) == 75)) || ((!((d1:Int) == 78)) || ((!((d2:Int) == 87)) || (!((d3:Int) == 76)))))=true:=by
    simp only[Bool.or_eq_true,Bool.not_eq_true',beq_eq_false_iff_ne];omega
   have HE:=hid hE;clear hE;have hsm:(p:Int)≤(p:Int)+(m4:Int):=by omega
   go_wp2_with fail;have Hb6:=hid (hb.alloc hb.size (.cells #[.int .u8 75,.int .u8 78,.int .u8 87,.int .u8 76] 139))
   have Hmg:=hid (fun (k:Nat) (hk:k<4)=>show (w5.alloc (.cells #[.int .u8 75,.int .u8 78,.int .u8 87,.int .u8 76] 139)).cell? ⟨w5.heap.size,k,none⟩=some (.int .u8 ((nth qh k:Nat):Int)) from by
    rw[World.cell?_alloc_new];obtain rfl | rfl | rfl | rfl:k=0∨k=1∨k=2∨k=3:=by omega
    all_goals rfl)
   clear c0 c1 c2 c3 hgl hb he4 hN;generalize w5.alloc (.cells #[.int .u8 75,.int .u8 78,.int .u8 87,.int .u8 76] 139)=w6 at*;generalize w5.heap.size=gm at*;go_loop [12,13,36] (fun _ _ i=>∃k:Nat,k≤m4∧i=.int .i64 k∧Hid (∀j,j<k→jd l p j=none)) (fun _ _ i=>m4 - (intOf i).toNat)
   case atStart=>exact⟨0,by omega,rfl,fun j h=>by omega⟩
   case round=>
    obtain⟨k,hk,rfl,hH⟩:=hrel;by_cases hkm:k<m4
    · have hc:w6.cell? ⟨b,o+p+k,none⟩=some (.int .u8 ((nth l (p+k):Nat):Int)):=by
       rw[Hb6.out.cell (p:=⟨b,o+p+k,none⟩) (by have:=ze (Hcell.out p hp);exact this),Nat.add_assoc];exact Hcell.out (p+k) (by omega)
      have hm:=Hmg.out k (by omega);by_cases he:nth l (p+k)=nth qh k
      · have Hnext:=hid (show ∀j,j<k+1→jd l p j=none from fun j hj=>by
         by_cases hjk:j<k
         · exact hH.out j hjk
         · obtain rfl:j=k:=by omega
           exact zcd (by rw[Hl.out];omega) he)
        rw[he] at hc;generalize nth qh k=c at*;clear he;go_wp2_with fail;go_round
        case rel=>exact⟨k+1,by omega,by go_num,Hnext.out⟩
        case measure=>simp[intOf];omega
      · have Hbad:=hid (zce (most:=most) (zba (by omega) hH.out (ze0 (by rw[Hl.out];omega) he)));have hne:(((nth l (p+k):Nat):Int) != ((nth qh k:Nat):Int))=true:=by rw[bne_iff_ne];omega
        rw[if_neg (by omega:¬k=4)] at Hbad;generalize nth qh k=c at*;generalize nth l (p+k)=d at*;clear he;go_wp2_with fail;refine(je 12 _ _).mono ?_;rintro e w' ⟨rfl,rfl⟩;go_wp2_with fail;go_ret3
        refine⟨?_,Hb6.out⟩;rw[Hbad.out]
        rfl
    · obtain rfl:k=m4:=by omega
      have hlt4:k<4:=by
       rcases Nat.lt_or_ge k 4 with h | h
       · exact h
       · exfalso;have h0:=hH.out 0 (by omega);have h1:=hH.out 1 (by omega);have h2:=hH.out 2 (by omega);have h3:=hH.out 3 (by omega)
         have g:∀j,j<4→jd l p j=none→nth l (p+j)=nth qh j:=by
          intro j hj hh;unfold jd at hh;rw[if_neg (by rw[Hl.out];omega)] at hh;by_cases e:nth l (p+j)=nth qh j
          · exact e
          · rw[if_neg e] at hh;cases hh
         have g0:=g 0 (by omega) h0;have g1:=g 1 (by omega) h1;have g2:=g 2 (by omega) h2;have g3:=g 3 (by omega) h3;rw[Nat.add_zero,Hd0.out] at g0;rw[Hd1.out] at g1;rw[Hd2.out] at g2;rw[Hd3.out] at g3;exact HE.out ⟨g0,g1,g2,g3⟩
      have hend:p+k=n:=by have:=HM.out;omega
      have Hbad:=hid (zce (most:=most) (zba (show k<5 by omega) hH.out (zcy (by rw[Hl.out];omega))));clear hend;go_wp2_with fail;refine(je 5 _ _).mono ?_;rintro e w' ⟨rfl,rfl⟩;go_wp2_with fail;go_ret3
      refine⟨?_,Hb6.out⟩;rw[Hbad.out]
      rfl
theorem zrg {w W:World} {a:Option Addr} {n cap:Nat} {l:List Nat} {v u:Value} (hB:Byts w a n cap l) (hne:∀b o k,a=some ⟨b,o,k⟩→v.ownBlock≠some b) (h:GrA w W v u):Byts W a n cap l:=
 ⟨hB.len,hB.lt,hB.room,hB.most,hB.nilc,fun hn=>by
  obtain⟨b,o,e,hc⟩:=hB.cells hn;refine⟨b,o,e,fun i hi=>?_⟩;have h1:=hc i hi;have h2:=h.gr.block b (ze h1) (fun e2=>hne b o none e e2.symm);unfold World.cell? at h1 ⊢;simp only[h2];exact h1⟩
theorem zrh (v:Value) (n base:Nat) (xs:List Value) (x:Nat) (w:World) (hx:x<18446744073709551616) (hown:w.ownsRow base 5 1 v n xs) (hbase:base≤w.heap.size) (hn:n≤140737488355000):
 Calls Tryz.prog 87 #[v,.int .u64 x] w fun e w'=>∃v',e=.returned v'∧w'.ownsRow base 5 1 v' (n+(yd x).length) (xs++u8s (yd x))∧GrA w w' v v':=by
 have hlen:=zcv 9 x;have hpos:=zb7 9 x;have Ho:=hid hown;clear hown;have Hx:=hid hx;clear hx;go_enter Tryz.func87,Tryz.ntmps87;go_wp2_with fail;refine(zev x w Hx.out).mono ?_;rintro e w' ⟨rfl,rfl⟩;rw[zcu];generalize hL:(vbF 9 x).length=L at*;have HL:=hid hL;clear hL;go_wp2_with fail
 go_loopw [0,1,8] (fun u y i wr=>∃j m k:Nat,j+1≤L∧i=.int .i64 j∧y=.int .u64 m∧Hid (m<18446744073709551616)∧Hid (GrA w wr v u)∧j+(vbF k m).length=L∧
  Hid (∃p:List Nat,p.length=j∧vbF 9 x=p++vbF k m∧wr.ownsRow base 5 1 u (n+j) (xs++u8s p))) (fun _ _ i _=>L - (intOf i).toNat)
 case atStart=>exact⟨0,x,9,by omega,rfl,rfl,Hx.out,hid (GrA.refl _ _),by rw[HL.out];omega,[],rfl,rfl,by have:=Ho.out;simpa [u8s] using this⟩
 case round=>
  obtain⟨j,m,k,hj,rfl,rfl,hm,hb,hjl,hp⟩:=hrel;have hbs:base≤wr.heap.size:=Nat.le_trans hbase hb.out.gr.size;by_cases hjL:j<L - 1
  · have hlt:decide ((j:Int)<(L:Int) - 1)=true:=by rw[decide_eq_true_iff];omega
    obtain⟨k',rfl,h128,hcons⟩:=zih (k:=k) (x:=m) (by omega);obtain⟨p,hpl,hpx,hpo⟩:=hp.out;have Hpo:=hid hpo;clear hpo;have Hcons:=hid hcons;clear hcons;have Hjl:=hid hjl;clear hjl;have Hpl:=hid hpl;clear hpl;have Hpx:=hid hpx;clear hpx;have hbit:=ziz m hm.out;have hq256:m % 128+128<256:=by omega
    generalize m % 128+128=q at*;obtain⟨v',w1,hr,ho1,hg1⟩:=GrA.append (Hpo.out.alloc (.cells #[.int .u8 (q:Int)] 5)) (some ⟨wr.heap.size,0,none⟩) 1 1 [q] (zbk _ _ 1 _ [q] _ _ rfl rfl rfl (by intro x hx;simp at hx;omega) (by omega)) (by omega) (by simp only[World.size_alloc];omega);have Ho1:=hid ho1;clear ho1;have hb1:Hid (GrA w w1 v v'):=hid ((hb.out.below ((Below.refl wr.heap.size wr).alloc (Nat.le_refl _) _)).trans hg1);clear hg1 Hpo;go_wp2_with (at_builtin;refine ym _ _ 22 rfl rfl _ _ rfl rfl _ _ hr ?_);clear hr;go_roundw
    case rel=>
     refine⟨j+1,m / 128,k',by omega,by go_num,by go_num,(by have:=hm.out;show m / 128<_;omega),hb1,?_,p++[q],?_,?_,?_⟩
     · have:=Hjl.out;rw[Hcons.out] at this;simp at this;omega
     · have:=Hpl.out;simp[this]
     · rw[Hpx.out,Hcons.out];simp
     · have:=Ho1.out;rw[List.append_assoc,←zcx] at this;exact this
    case measure=>simp[intOf];omega
  · have hge:decide ((j:Int)<(L:Int) - 1)=false:=by rw[decide_eq_false_iff_not];omega
    obtain⟨p,hpl,hpx,hpo⟩:=hp.out;have Hpo:=hid hpo;clear hpo;have h1:(vbF k m).length=1:=by have:=zb7 k m;omega
    have e1:=zii h1;have Hfin:=hid (show yd x=p++[m % 256] from by rw[zcu,hpx,e1]);have Hpl:=hid hpl;clear hpl hpx h1 e1;have Hjl:=hid hjl;clear hjl;have hq256:m % 256<256:=by omega
    have hmq:((m:Int) % 256)=((m % 256:Nat):Int):=by omega
    generalize m % 256=q at*;obtain⟨v',w1,hr,ho1,hg1⟩:=GrA.append (Hpo.out.alloc (.cells #[.int .u8 (q:Int)] 5)) (some ⟨wr.heap.size,0,none⟩) 1 1 [q] (zbk _ _ 1 _ [q] _ _ rfl rfl rfl (by intro x hx;simp at hx;omega) (by omega)) (by omega) (by simp only[World.size_alloc];omega);have Ho1:=hid ho1;clear ho1;have hb1:Hid (GrA w w1 v v'):=hid ((hb.out.below ((Below.refl wr.heap.size wr).alloc (Nat.le_refl _) _)).trans hg1);clear hg1 Hpo;go_wp2_with (at_builtin;refine ym _ _ 22 rfl rfl _ _ rfl rfl _ _ hr ?_);go_ret;refine⟨v',rfl,?_,hb1.out⟩;have h2:=Ho1.out;rw[List.append_assoc,←zcx] at h2;rw[Hfin.out];have h3:n+(p++[q]).length=n+j+1:=by have:=Hpl.out;simp[this];omega
    rw[h3];exact h2
theorem zri (v:Value) (n base:Nat) (xs:List Value) (s:Nat) (w:World) (hs:s<4294967296) (hown:w.ownsRow base 5 1 v n xs) (hbase:base≤w.heap.size) (hn:n≤140737488355000):
 Calls Tryz.prog 153 #[v,.int .u32 s] w fun e w'=>∃v',e=.returned v'∧w'.ownsRow base 5 1 v' (n+4) (xs++u8s (qt s))∧GrA w w' v v':=by
 obtain⟨i0,hi,hz0,hz1,hz2⟩:=info_parts Tryz.info_u8;have H4:=hid (zit s);have Hg:=hid (World.grownBy_alloc w);go_enter Tryz.func153,Tryz.ntmps153;go_wp2;go_loopw [6,7] (fun _ i wr=>∃k:Nat,k≤4∧i=.int .i64 k∧wr=w.alloc (.cells (zbl s k) 139)) (fun _ i _=>4 - (intOf i).toNat)
 case atStart=>exact⟨0,by omega,rfl,rfl⟩
 case round=>
  obtain⟨k,hk,rfl,rfl⟩:=hrel;by_cases hk4:k<4
  · obtain rfl | rfl | rfl | rfl:k=0∨k=1∨k=2∨k=3:=by omega
    · rw[ziu];go_wp2;go_roundw
      case rel=>exact⟨1,by omega,rfl,rfl⟩
      case measure=>simp[intOf]
    · rw[ziv];go_wp2;go_roundw
      case rel=>exact⟨2,by omega,rfl,rfl⟩
      case measure=>simp[intOf]
    · rw[ziw];go_wp2;go_roundw
      case rel=>exact⟨3,by omega,rfl,rfl⟩
      case measure=>simp[intOf]
    · rw[zix];go_wp2;go_roundw
      case rel=>exact⟨4,by omega,rfl,rfl⟩
      case measure=>simp[intOf]
  · obtain rfl:k=4:=by omega
    rw[H4.out];obtain⟨v',w1,hr,ho1,hg1⟩:=GrA.append (hown.alloc (.cells (u8s (qt s)).toArray 139)) (some ⟨w.heap.size,0,none⟩) 4 4 (qt s) (zbk _ _ _ _ _ _ _ rfl rfl rfl (zgf hs) (by omega)) (by omega) (by simp only[World.size_alloc];omega);have HG:=hid (((GrA.refl w v).below ((Below.refl w.heap.size w).alloc (Nat.le_refl _) _)).trans hg1);have Ho1:=hid ho1;clear hg1 ho1;go_wp2_with (at_builtin;refine ym _ _ 22 rfl rfl _ _ rfl rfl _ _ hr ?_);go_ret;exact⟨v',rfl,Ho1.out,HG.out⟩
set_option maxRecDepth 20000 in
theorem zrj (v:Value) (n0 base:Nat) (xs:List Value) (a:Option Addr) (n cap:Nat) (l:List Nat) (w:World) (hB:Byts w a n cap l) (hne:∀b o k,a=some ⟨b,o,k⟩→v.ownBlock≠some b) (hown:w.ownsRow base 5 1 v n0 xs) (hbase:base≤w.heap.size) (hn:n≤1000000000000) (hn0:n0≤1000000000000):
 Calls Tryz.prog 114 #[v,.slice a n cap] w fun e w'=>
  (∃v',e=.returned v'∧w'.ownsRow base 5 1 v' (n0+(zab l).length) (xs++u8s (zab l)))∧Below base w w':=by
 have HB:=hid (fun (W:World) (u:Value) (h:GrA w W v u)=>zrg hB hne h);have Hll:=hid hB.lt;have Ho:=hid hown;have hn0':=hn;have Hn:=hid hn;have Hn0:=hid hn0;have He:=hid (show zab l=qh++yd n++l++qt (sum l) from by rw[←hB.len];rfl);have Hlen:=hid (show (zab l).length=5+(yd n).length+n+4 from by rw[zpk,hB.len]);have Hv:=hid (fun v n1 xs w hown hb hn=>zrh v n1 base xs n w (Nat.lt_of_le_of_lt hn0' (by decide)) hown hb hn);have Hvl:=hid (zig n);have hvl:(yd n).length≤10:=zcv 9 n;generalize yd n=L2 at*;have hcv:(n:Int) % 18446744073709551616=(n:Int):=by omega
 clear hB hown hn hn0' hne;go_enter Tryz.func114,Tryz.ntmps114;go_wp2_with fail;refine(zdy _).mono ?_;rintro e w1 ⟨rfl,hb1⟩;have HG1:=hid ((GrA.refl w v).below hb1);have Ho1:=hid (yf Ho.out hb1);clear hb1;obtain⟨v2,w2,hr2,ho2,hg2⟩:=GrA.append (Ho1.out.alloc (.cells #[.int .u8 75,.int .u8 78,.int .u8 87,.int .u8 76] 139)) (some ⟨w1.heap.size,0,none⟩) 4 4 [75,78,87,76] (zbk _ _ _ _ _ _ _ rfl rfl rfl (by decide) (by omega)) (by have:=Hn0.out;omega) (by have:=HG1.out.gr.size;simp only[World.size_alloc];omega);have Ho2:=hid ho2;have HG2:=hid ((HG1.out.below ((Below.refl w1.heap.size w1).alloc (Nat.le_refl _) _)).trans hg2);clear ho2 hg2;obtain⟨v3,w3,hr3,ho3,hg3⟩:=GrA.append (Ho2.out.alloc (.cells #[.int .u8 1] 5)) (some ⟨w2.heap.size,0,none⟩) 1 1 [1] (zbk _ _ _ _ _ _ _ rfl rfl rfl (by decide) (by omega)) (by have:=Hn0.out;omega) (by have:=HG2.out.gr.size;simp only[World.size_alloc];omega);have Ho3:=hid ho3;have HG3:=hid ((HG2.out.below ((Below.refl w2.heap.size w2).alloc (Nat.le_refl _) _)).trans hg3);clear ho3 hg3
 go_wp2_with (at_builtin;first
  | refine ym _ _ 22 rfl rfl v (.slice (some ⟨w1.heap.size,0,none⟩) 4 4) rfl rfl _ _ hr2 ?_
  | refine ym _ _ 22 rfl rfl v2 (.slice (some ⟨w2.heap.size,0,none⟩) 1 1) rfl rfl _ _ hr3 ?_)
 clear hr2 hr3;refine(Hv.out v3 _ _ _ Ho3.out (by have:=HG3.out.gr.size;omega) (by have:=Hn0.out;omega)).mono ?_;rintro e w4 ⟨v4,rfl,ho4,hg4⟩;have Ho4:=hid ho4;have HG4:=hid (HG3.out.trans hg4);clear ho4 hg4;obtain⟨v5,w5,hr5,ho5,hg5⟩:=GrA.append Ho4.out a n cap l (HB.out _ _ HG4.out) (by have:=Hn.out;have:=Hn0.out;omega) (by have:=HG4.out.gr.size;omega);have Ho5:=hid ho5;have HG5:=hid (HG4.out.trans hg5);clear ho5 hg5;go_wp2_with (at_builtin;refine ym _ _ 22 rfl rfl v4 (.slice a n cap) rfl rfl _ _ hr5 ?_);clear hr5;refine(zi1 a n cap l _ (HB.out _ _ HG5.out)).mono ?_;rintro e w6 ⟨rfl,hb6⟩;have Ho6:=hid (yf Ho5.out hb6);have HG6:=hid (HG5.out.below hb6);clear hb6;go_wp2_with fail;refine(zri v5 _ base _ (sum l) _ (zoy Hll.out) Ho6.out (by have:=HG6.out.gr.size;omega) (by have:=Hn.out;have:=Hn0.out;omega)).mono ?_;rintro e w7 ⟨v7,rfl,ho7,hg7⟩;have Ho7:=hid ho7;have HG7:=hid (HG6.out.trans hg7);clear ho7 hg7;go_wp2_with fail;go_ret;refine⟨⟨v7,rfl,?_⟩,HG7.out.bel Ho.out hbase⟩;have:=Ho7.out;rw[Hlen.out,He.out];simp only[zcx,show qh=[75,78,87,76]++[1] from rfl,←List.append_assoc] at this ⊢;rw[show n0+(5+L2.length+n+4)=n0+4+1+L2.length+n+4 by omega];exact this
end
section
open Go.RowKit
attribute [local go_sem] jc
theorem zrk (ao al x:Nat) (w:World) (h:al+x<18446744073709551616) (ha:ao<1000):
 Calls Tryz.prog 234 #[.agg #[.int .u64 (ao:Int),.int .u64 (al:Int)],.agg #[.int .u64 0,.int .u64 (x:Int)]] w fun e w'=>e=.returned (.agg #[.int .u64 (ao:Int),.int .u64 ((al+x:Nat):Int)])∧Below w.heap.size w w':=by
 have k1:IntKind.u64.wrap ((al:Int)+(x:Int))=((al+x:Nat):Int):=by rw[IntKind.wrap_u64];omega
 have k2:decide (((al+x:Nat):Int)<(al:Int))=false:=by rw[decide_eq_false_iff_not];omega
 have k3:decide (al+x<al)=false:=by rw[decide_eq_false_iff_not];omega
 clear h;go_enter Tryz.func234,Tryz.ntmps234;go_wp2_with fail;exact bodyPost_ret (v:=.agg #[.int .u64 (ao:Int),.int .u64 ((al+x:Nat):Int)]) (by simp[results,Tryz.results234,go_sem]) rfl ⟨rfl,((((Below.refl _ _).alloc (Nat.le_refl _) _).alloc (by simp) _).alloc (by simp;omega) _).alloc (by simp;omega) _⟩
theorem zrl (ao al x:Nat) (w:World) (h:¬al+x<18446744073709551616) (ha:ao<1000) (h1:al<18446744073709551616) (h2:x<18446744073709551616):
 Calls Tryz.prog 234 #[.agg #[.int .u64 (ao:Int),.int .u64 (al:Int)],.agg #[.int .u64 0,.int .u64 (x:Int)]] w fun e w'=>e=.returned (.agg #[.int .u64 ((ao+1:Nat):Int),.int .u64 ((al+x - 18446744073709551616:Nat):Int)])∧Below w.heap.size w w':=by
 have k1:IntKind.u64.wrap ((al:Int)+(x:Int))=((al+x - 18446744073709551616:Nat):Int):=by rw[IntKind.wrap_u64];omega
 have k2:decide (((al+x - 18446744073709551616:Nat):Int)<(al:Int))=true:=by rw[decide_eq_true_iff];omega
 have k3:decide (al+x - 18446744073709551616<al)=true:=by rw[decide_eq_true_iff];omega
 clear h h1 h2;generalize al+x - 18446744073709551616=y at*;go_enter Tryz.func234,Tryz.ntmps234;go_wp2_with fail;exact bodyPost_ret (v:=.agg #[.int .u64 ((ao+1:Nat):Int),.int .u64 (y:Int)]) (by simp[results,Tryz.results234,go_sem]) rfl ⟨rfl,((((Below.refl _ _).alloc (Nat.le_refl _) _).alloc (by simp) _).alloc (by simp;omega) _).alloc (by simp;omega) _⟩
def qk (s:Nat):Value:=if s<18446744073709551616 then .tuple #[.int .u64 ((s:Nat):Int),.bool true] else .tuple #[.int .u64 0,.bool false]
theorem zkf (l:List Nat) (k:Nat) (h:k<l.length):(l.take (k+1)).sum=(l.take k).sum+nth l k:=by
 rw[zep l k h,List.sum_append];simp
set_option maxRecDepth 20000 in
theorem zrm (A:Option Addr) (n cp:Nat) (l:List Nat) (w:World) (hR:Rd w 1 A n (z7 l)) (hl:l.length=n) (h64:∀x∈l,x<18446744073709551616) (hn:n≤10):
 Calls Tryz.prog 192 #[.slice A n cp] w fun e w'=>e=.returned (qk l.sum)∧Below w.heap.size w w':=by
 have HR:=hid hR;have Hl:=hid hl;have H64:=hid h64;clear hR hl h64;go_enter Tryz.func192,Tryz.ntmps192;go_wp2_with fail;have Hb0:=hid ((Below.refl w.heap.size w).alloc (Nat.le_refl _) (.cells #[.int .u64 0,.int .u64 0] 325));have Hr0:=hid (zu w 325 [.int .u64 0,.int .u64 0]);generalize w.alloc (.cells #[.int .u64 0,.int .u64 0] 325)=w0 at*;obtain⟨g,hg⟩:∃g,g=w.heap.size:=⟨_,rfl⟩;have Hg:=hid hg;rw[←hg] at Hr0 Hb0 ⊢;clear hg;go_loopw [6,9] (fun _ i wr=>∃k ao al:Nat,k≤n∧i=.int .i64 k∧Below g w wr∧Hid (Row wr g 325 [.int .u64 (ao:Int),.int .u64 (al:Int)])∧Hid (ao≤k∧al<18446744073709551616∧ao*18446744073709551616+al=(l.take k).sum)) (fun _ i _=>n - (intOf i).toNat)
 case atStart=>exact⟨0,0,0,by omega,rfl,Hb0.out,Hr0.out,Nat.le_refl _,by omega,rfl⟩
 case round=>
  obtain⟨k,ao,al,hk,rfl,hb,hr,hs⟩:=hrel;have Hb:=hid hb;clear hb;have q0:=hr.out.cell 0 rfl;have q1:=hr.out.cell 1 rfl;have z0:=hr.out.fz 0;have z1:=hr.out.fz 1;obtain⟨s1,s2,s3⟩:=hs.out;have Hs3:=hid s3;have s1':ao<1000:=by omega
  have Hs1:=hid s1;have Hs2:=hid s2;clear s3 s1 s2 hs;by_cases hkn:k<n
  · obtain⟨bb,oo,rfl,hc⟩:=(HR.out.below (show Below w.heap.size w wr from by rw[←Hg.out];exact Hb.out)).2 (by omega);have qx:=hc k _ (zdw l k (by rw[Hl.out];exact hkn));have hxl:=H64.out _ (zim (show k<l.length by rw[Hl.out];exact hkn));have Hst:=hid (zkf l k (by rw[Hl.out];exact hkn));clear hc;generalize nth l k=x at*;have Hx:=hid hxl;clear hxl;by_cases hlo:al+x<18446744073709551616
    · have HP:=hid (zrk ao al x wr hlo s1');have Hlo:=hid hlo;clear hlo;go_wp2_with fail;refine HP.out.mono ?_;rintro e w2 ⟨rfl,hb2⟩;have Hr2:=hid (((hr.out.later hb2).set 0 (.int .u64 (ao:Int))).set 1 (.int .u64 ((al+x:Nat):Int)));have f0:=(hr.out.later hb2).fz 0;have f1:=(hr.out.later hb2).fz 1;have p0:=(hr.out.later hb2).cell 0 rfl;have p1:=(hr.out.later hb2).cell 1 rfl;have Hb2:=hid (((Hb.out.trans (hb2.mono (Nat.le_trans (Nat.le_of_eq Hg.out) (by have:=hr.out.lt;have:=Hg.out;omega)))).setCell (p:=⟨g,0,none⟩) (Nat.le_refl _) (.int .u64 (ao:Int))).setCell (p:=⟨g,1,none⟩) (Nat.le_refl _) (.int .u64 ((al+x:Nat):Int)));clear hb2;go_wp2_with fail;go_roundw
      case rel=>exact⟨k+1,ao,al+x,by omega,by go_num,Hb2.out,Hr2.out,by have:=Hs1.out;omega,Hlo.out,by rw[Hst.out,←Hs3.out];omega⟩
      case measure=>simp[intOf];omega
    · have HP:=hid (zrl ao al x wr hlo s1' Hs2.out Hx.out);have Hlo:=hid hlo;clear hlo;go_wp2_with fail;refine HP.out.mono ?_;rintro e w2 ⟨rfl,hb2⟩;have Hr2:=hid (((hr.out.later hb2).set 0 (.int .u64 ((ao+1:Nat):Int))).set 1 (.int .u64 ((al+x - 18446744073709551616:Nat):Int)));have f0:=(hr.out.later hb2).fz 0;have f1:=(hr.out.later hb2).fz 1;have p0:=(hr.out.later hb2).cell 0 rfl;have p1:=(hr.out.later hb2).cell 1 rfl;have Hb2:=hid (((Hb.out.trans (hb2.mono (Nat.le_trans (Nat.le_of_eq Hg.out) (by have:=hr.out.lt;have:=Hg.out;omega)))).setCell (p:=⟨g,0,none⟩) (Nat.le_refl _) (.int .u64 ((ao+1:Nat):Int))).setCell (p:=⟨g,1,none⟩) (Nat.le_refl _) (.int .u64 ((al+x - 18446744073709551616:Nat):Int)));have Hy:=hid (show ao+1≤k+1∧al+x - 18446744073709551616<18446744073709551616∧(ao+1)*18446744073709551616+(al+x - 18446744073709551616)=ao*18446744073709551616+al+x from by have:=Hs2.out;have:=Hx.out;have:=Hlo.out;have:=Hs1.out;omega);clear hb2;generalize al+x - 18446744073709551616=y at*;generalize ao+1=ao1 at*;go_wp2_with fail;go_roundw
      case rel=>exact⟨k+1,ao1,y,by omega,by go_num,Hb2.out,Hr2.out,Hy.out.1,Hy.out.2.1,by rw[Hst.out,←Hs3.out];exact Hy.out.2.2⟩
      case measure=>simp[intOf];omega
  · obtain rfl:k=n:=by omega
    have Htk:=hid (show (l.take k).sum=l.sum from by rw[List.take_of_length_le (by rw[Hl.out];exact Nat.le_refl _)]);have Hbf:=hid (show Below w.heap.size w wr from by rw[←Hg.out];exact Hb.out);by_cases hz:ao=0
    · subst hz
      have Hs:=hid (show qk l.sum=.tuple #[.int .u64 ((al:Nat):Int),.bool true] from by
       have:=Hs3.out;have:=Hs2.out;rw[←Htk.out,←Hs3.out];unfold qk;rw[if_pos (by omega)];simp)
      go_wp2_with fail;go_ret2;exact⟨by rw[Hs.out];rfl,Hbf.out⟩
    · have h0:(0:Nat)<ao:=by omega
      have Hs:=hid (show qk l.sum=.tuple #[.int .u64 0,.bool false] from by
       rw[←Htk.out,←Hs3.out];unfold qk;rw[if_neg (by omega)])
      clear hz;go_wp2_with fail;go_ret2;exact⟨by rw[Hs.out];rfl,Hbf.out⟩
end
section
def qy (l:List Nat):List Nat:=l.flatMap yd
def jo (l:List Iv) (a i:Nat):Nat:=if i=0 then (zc l 0).1 else (zc l i).1 - (zc l (i - 1)).2 - 1 - a
def jr (l:List Iv) (a:Nat):Nat→List Nat
 | 0=>[]
 | d+1=>jr l a d++[jo l a d,(zc l d).2 - (zc l d).1]
def zfj (l:List Iv) (a:Nat):List Nat:=jr l a l.length
def zae (l:List Iv) (a:Nat):Prop:=∀i,i<l.length→(zc l i).1≤(zc l i).2∧(0<i→(zc l (i - 1)).2+1+a≤(zc l i).1)
theorem zkg (l:List Iv) (a:Nat):∀d,(jr l a d).length=2*d
 | 0=>rfl
 | d+1=>by rw[jr,List.length_append,zkg l a d];simp;omega
theorem zkh {l:List Iv} {a:Nat} (h:yj l):∀d,d≤l.length→∀x∈jr l a d,x<18446744073709551616
 | 0,_,x,hx=>by cases hx
 | d+1,hd,x,hx=>by
   rw[jr] at hx;rcases List.mem_append.1 hx with hx | hx
   · exact zkh h d (by omega) x hx
   · have h1:=h _ (zax (show d<l.length from hd));simp at hx;rcases hx with rfl | rfl
     · unfold jo;split
       · rename_i e;rw[e] at h1;exact h1.1
       · omega
     · omega
theorem zrn {l:List Iv} (h:Good l):zae l 1:=fun i hi=>by
 have:=zay h i hi;exact⟨this.1,fun h0=>by have:=this.2 h0;omega⟩
def zbu (v:Vec) (i:Nat):Nat:=if i=0 then (zg v 0).1 else (zg v i).1 - (zg v (i - 1)).1 - 1
def zaf (v:Vec) (i:Nat):List Nat:=[zbu v i,(zg v i).2.1,(zg v i).2.2.length]++zfj (zg v i).2.2 1
def ky (v:Vec):Nat→List Nat
 | 0=>[v.length]
 | d+1=>ky v d++zaf v d
def zar (v:Vec):List Nat:=ky v v.length
def vr (c:Kno):Nat→List Nat
 | 0=>[c.length]
 | d+1=>vr c d++zar (zd c d).2
def ki (l:List Iv) (x:List Nat):Nat→List Nat
 | 0=>[l.length]
 | d+1=>ki l x d++[jo l 0 d,(zc l d).2 - (zc l d).1,nth x d]
def jl (c:Kno):List Nat:=vr c c.length++ki ((zf c).map (·.1)) ((zf c).map (·.2)) (zf c).length
end
section
open Go.RowKit Go.Shelf
attribute [local go_sem] Oper.semAt_some zer
theorem zro (B:Nat) (y:Value) (xs:List Nat) (i:Nat) (s1 s2:Value) (w:World) (ho:w.ownsRow B 3 1 y xs.length (qa xs)) (hB:B≤w.heap.size) (hn:xs.length≤1000):
 Calls Tryz.prog 250 #[y,.int .i64 ((i:Nat):Int),.agg #[s1,s2]] w fun e w'=>(∃v,e=.returned v∧w'.ownsRow B 3 1 v (xs++[i]).length (qa (xs++[i])))∧Below B w w':=by
 have hal:Below w.heap.size w (w.alloc (.cells #[s1,s2] 97)):=(Below.refl _ _).alloc (Nat.le_refl _) _;have Ho:=hid (yf ho hal);have Hal:=hid (hal.mono hB);have Hlt:=hid ((yf ho hal).lt);obtain⟨ao,co,rfl⟩:=qv ho;clear ho hal;go_enter Tryz.func250,Tryz.ntmps250;go_wp2_with (at_builtin;refine zp8 rfl (.tmp 7) (.tmp 9) rfl rfl B _ _ xs rfl (Ho.out.alloc _) _ 1 _ [i] rfl (kx (qi _ _ _ (by simp)) rfl rfl) (by omega) (by simp;omega) ?_;intro v' w8 ho8 hg8);go_ret;refine⟨⟨v',rfl,?_⟩,Below.grown (B:=B) (Hal.out.alloc (by simp;omega) _) hg8 (by simp;omega) (fun k hk=>(Hlt.out k hk).1)⟩;rw[List.length_append];exact ho8
set_option maxRecDepth 20000 in
theorem zrp (w0 w:World) (bk bt:Nat) (a:Option Addr) (m c t:Nat) (k:Kno) (hE:Frags w0 a m c k) (hG:∀f∈k,Good f.1∧f.1.length≤1000000) (hb0:Below w0.heap.size w0 w) (hm:m≤500)
 (hbk:w.heap[bk]?=some (.cells #[.slice a m c] 27)) (hbt:w.heap[bt]?=some (.cells #[.int .u64 t] 43)):
 Calls Tryz.prog 249 #[.func (.func 251) #[] #[.pointer (some ⟨bk,0,none⟩),.pointer (some ⟨bt,0,none⟩)],.slice none 0 0,.func (.func 250) #[] #[]] w fun e w'=>
  (∃y,e=.returned y∧w'.ownsRow w.heap.size 3 1 y (vm k t).length (qa (vm k t)))∧Below w.heap.size w w':=by
 have Hml:=hid (show (vm k t).length≤500 from by
  have:=zpm k t k.length;have h2:vm k t=zac k t k.length:=rfl;rw[h2];have:=hE.len;omega)
 have hbkl:=(Array.getElem?_eq_some_iff.1 hbk).1;have hbtl:=(Array.getElem?_eq_some_iff.1 hbt).1;have hs0:=hb0.size;refine(callsIn_wide (n:=3)).1 ?_;refine callsIn_of_wp_marks Tryz.func249 rfl trivial ?_ rfl;simp only[Tryz.ntmps249,List.size_toArray,List.length_cons,List.length_nil,Nat.reduceAdd,Nat.reduceSub,Array.replicate_succ,Array.replicate_zero,List.push_toArray,List.append_toArray,List.nil_append,List.cons_append];refine wpIn_wide.2 ?_;go_wp2;refine(wpIn_wide (n:=3)).1 ?_;obtain⟨C0,hC0⟩:∃C0:Obj,C0=.cells #[.slice none 0 0] 60:=⟨_,rfl⟩;obtain⟨C1,hC1⟩:∃C1:Obj,C1=.cells #[.func (.func 250) #[] #[]] 343:=⟨_,rfl⟩;rw[←hC0,←hC1];obtain⟨wl,hwl⟩:∃wl:World,wl=(w.alloc C0).alloc C1:=⟨_,rfl⟩;rw[←hwl];have hsz:wl.heap.size=w.heap.size+2:=by rw[hwl];simp
 have hbw:Below w.heap.size w wl:=by
  rw[hwl];exact((Below.refl _ w).alloc (Nat.le_refl _) C0).alloc (by simp) C1
 have e0:wl.heap[w.heap.size]?=some C0:=by rw[hwl];exact zb8 (zaa rfl)
 have e1:wl.heap[w.heap.size+1]?=some C1:=by rw[hwl];exact zaa (by simp)
 clear hwl
 refine zqd (n:=3) (gf:=251) (lb:= #[.pointer (some ⟨bk,0,none⟩),.pointer (some ⟨bt,0,none⟩)]) rfl (enters_of Tryz.func251 (by kernel_rfl) rfl)
  (zq1 (3 - 1) w0 wl bk bt a m c t k hE hG (hb0.trans (hbw.mono hs0)) hm ((hbw.block _ hbkl).trans hbk) ((hbw.block _ hbtl).trans hbt))
  (fun x=>rfl) (fun k hk=>hk.elim) (fun k hk=>by omega)
  (fun pre W=>Below w.heap.size w W∧W.heap[w.heap.size+1]?=some C1∧∃v,W.heap[w.heap.size]?=some (.cells #[v] 60)∧W.ownsRow (w.heap.size+4) 3 1 v (pre.map (·.1)).length (qa (pre.map (·.1))))
  (fun _ _ _=>False) ?hI (fun _ _ _ _ h _=>h) ⟨hbw,e1,.slice none 0 0,by rw[e0,hC0],World.ownsRow_nil ..⟩ ?round ?done ?stop
 case hI=>
  rintro s A B ⟨h4,h1,v,h2,h3⟩ hk;have hs:=h4.size;exact⟨h4.trans (hk.toBelow (fun k hk'=>⟨id,by omega,by omega⟩) (by omega)),(hk.row _ (Array.getElem?_eq_some_iff.1 h1).1 ⟨id,by omega,by omega⟩).trans h1,v,(hk.row _ (Array.getElem?_eq_some_iff.1 h2).1 ⟨id,by omega,by omega⟩).trans h2,zaw h3 (fun k hk1 hk2=>hk.row k hk2 ⟨id,by omega,by omega⟩)⟩
 case round=>
  rintro pre ⟨i,s1,s2⟩ W ⟨⟨rest,hV⟩,hsl⟩ ⟨h4,h1,y,h2,h3⟩ hsW;obtain⟨⟨a1,n1,z1,e1',-⟩,a2,n2,z2,e2',-⟩:=hsl (i,s1,s2) (by simp);simp only at e1' e2';subst e1' e2';clear hsl;rw[hsz] at hsW ⊢
  have hlen:(pre.map (·.1)).length+1≤500:=by
   have:=Hml.out;rw[hV,List.length_append,List.map_append,List.length_append] at this;simp at this ⊢;omega
  clear hsz hbw e0 e1 hC0 hV hE hG hbk hbt hb0;simp only[zg4];obtain⟨q,hq⟩:∃q:Nat,q=W.heap.size:=⟨_,rfl⟩
  gi_wp2
  refine⟨(Kept.refl _ W).alloc _,fun W2 hk2 hs2=>?_⟩
  try rw[World.size_alloc] at hs2
  have k1:Kept (fun k=>k≠w.heap.size+2+1) W W2:=((Kept.refl _ W).alloc _).trans hk2;have b1:W2.heap[w.heap.size+1]?=some C1:=(k1.row _ (Array.getElem?_eq_some_iff.1 h1).1 (by omega)).trans h1;have b2:W2.heap[w.heap.size]?=some (.cells #[y] 60):=(k1.row _ (Array.getElem?_eq_some_iff.1 h2).1 (by omega)).trans h2;have b4:W2.heap[q]?=some (.cells #[.slice a1 n1 z1,.slice a2 n2 z2] 97):=by rw[hq];exact(hk2.row _ (by simp) (by omega)).trans (zaa rfl)
  have B3:=hid (zaw h3 (fun k hk1 hk2=>k1.row k hk2 (by omega)));have B4:=hid (h4.trans (k1.toBelow (n:=w.heap.size) (fun k hk'=>by omega) h4.size));rw[←hq];have hB4:w.heap.size+4≤W2.heap.size:=by omega
  have Hb1:=hid b1;have Hb2:=hid b2;rw[hC1] at b1;have c0:=zao b1;have c1:=zao b2;have c2:W2.cell? ⟨q,0,none⟩=some (.slice a1 n1 z1):=kf (i:=0) b4 rfl;have c3:W2.cell? ⟨q,1,none⟩=some (.slice a2 n2 z2):=kf (i:=1) b4 rfl;have HC1:=hid hC1;clear k1 hk2 hs2 h1 h2 h3 h4 b1 b2 b4 hq hsW hC1;have hF:=hid (zro (w.heap.size+4) y (pre.map (·.1)) i (.slice a1 n1 z1) (.slice a2 n2 z2) W2 B3.out hB4 (by omega))
  gi_wp2_with fail
  refine(CallsIn.inRound _ (callsIn_wide.2 hF.out)).mono ?_;rintro e w3 ⟨⟨v,rfl,ho3⟩,hb3⟩;have d2:=(hb3.block _ (by omega)).trans Hb2.out;have d1:=(hb3.block _ (by omega)).trans Hb1.out;have q5:=zao d2;have q6:=zgr d2;have Hd2:=hid d2;have Hd1:=hid d1;have Ho3:=hid ho3;have Hb3:=hid hb3;obtain⟨av,cv,rfl⟩:=qv ho3;clear c0 c1 c2 c3 d1 d2 ho3 hb3
  gi_wp2
  refine⟨?_,?_,?_,_,zjb Hd2.out,?_⟩
  · exact((zpv Hb3.out).mono (fun k _ hk=>by omega)).setCell (fun _=>by simp only;omega) _
  · exact(B4.out.trans (Hb3.out.mono (by omega))).setCell (Nat.le_refl _) _
  · have h:=Hd1.out;rw[HC1.out] at h;exact(Below.heap_setCell _ _ _ _ (by simp)).trans h
  · have h:=zaw Ho3.out (w':=w3.setCell ⟨w.heap.size,0,none⟩ (.slice av (pre.map (·.1)++[i]).length cv)) (fun k hk1 hk2=>Below.heap_setCell _ _ _ _ (by simp only;omega));simpa using h
 case done=>
  rintro ps W ⟨hS,-⟩ ⟨h4,h1,y,h2,h3⟩ hK;have q1:=zao h2;rw[←hS] at h3;have H3:=hid h3;have H4:=hid h4;clear h1 h2 h3 h4 e0 e1 hS
  gi_wp2
  go_wp2;refine⟨by simp,.inl ⟨_,_,rfl,run_takeDeferred hK,?_⟩⟩;refine⟨_,results_tmp rfl _ _ _,⟨y,rfl,?_⟩,?_⟩
  · refine vw (zaw H3.out (fun k hk1 hk2=>World.putObj_heap_other (by omega))) (by omega)
  · exact(Kept.refl (fun k=>k<w.heap.size) W).putObj (fun _ h=>by have h':wl.heap.size<w.heap.size:=h;omega) _ |>.toBelow (fun _ h=>h) H4.out.size |> H4.out.trans
 case stop=>
  rintro c pre W hV h;exact h.elim
theorem zrq (a:Option Addr) (m c t:Nat) (k:Kno) (w:World) (hE:Frags w a m c k) (hG:∀f∈k,Good f.1∧f.1.length≤1000000) (hm:m≤500):
 Calls Tryz.prog 211 #[.slice a m c,.int .u64 t] w fun e w'=>
  (∃y,e=.returned y∧w'.ownsRow w.heap.size 3 1 y (vm k t).length (qa (vm k t)))∧Below w.heap.size w w':=by
 have hal:Below w.heap.size w ((w.alloc (.cells #[.slice a m c] 27)).alloc (.cells #[.int .u64 t] 43)):=((Below.refl _ _).alloc (Nat.le_refl _) _).alloc (by simp) _;have hC:=hid (zrp w ((w.alloc (.cells #[.slice a m c] 27)).alloc (.cells #[.int .u64 t] 43)) w.heap.size (w.heap.size+1) a m c t k hE hG hal hm (zb8 (zaa rfl)) (zaa (by simp)));have Hal:=hid hal;clear hE hG hal;go_enter Tryz.func211,Tryz.ntmps211;go_wp2_with fail;refine(zqz a m c t _).mono ?_;rintro e w1 ⟨rfl,rfl⟩;go_wp2_with fail;refine hC.out.mono ?_;rintro e w2 ⟨⟨y,rfl,ho⟩,hb⟩;have Ho:=hid ho;have Hb:=hid hb;clear ho hb;go_wp2;go_ret;exact⟨⟨y,rfl,vw Ho.out Hal.out.size⟩,Hal.out.trans (Hb.out.mono Hal.out.size)⟩
end
