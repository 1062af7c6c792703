/- Part 19. -/
import Derived.Test.YtdnipikdddfhfaaGreatDoorWd18
set_option linter.unusedVariables false
set_option maxHeartbeats 16000000
namespace Go.Proofs.YtdnipikdddfhfaaGreatDoor
open Lib (hid)
section
open Go.RowKit Go.Maps
theorem zz3 (b1 b2:Nat) (u v:Value) (P Q:List Nat) (w:World) (hp:w.ownsRow b1 3 1 u P.length (qo P)) (hq:w.ownsRow b2 3 1 v Q.length (qo Q)) (lp:P.length≤1000) (lq:Q.length≤1000):
 Calls Tryz.prog 48 #[u,v] w fun e w'=>e=.returned (.bool (decide (P=Q)))∧Below w.heap.size w w':=by
 have hP:=hp;have hQ:=hq;obtain⟨a,c,rfl⟩:=jz hp;obtain⟨a',c',rfl⟩:=jz hq;by_cases hl:P.length=Q.length
 · by_cases h0:P.length=0
   · obtain rfl:P=[]:=List.length_eq_zero_iff.1 h0;obtain rfl:Q=[]:=List.length_eq_zero_iff.1 hl.symm;refine(Tryz.slices_Equal_int_empty a a' c 0 c' w (by omega)).mono ?_;rintro e w' ⟨rfl,rfl⟩;exact⟨rfl,Below.refl _ _⟩
   · rcases hp.2 with ⟨h,h'⟩ | ⟨g,cap,cur,h,_⟩
     · omega
     · cases h;rcases hq.2 with ⟨h,h'⟩ | ⟨g',cap',cur',h,_⟩
       · omega
       · cases h
         have c1:∀j,j<(P.map fun (x:Nat)=>(x:Int)).length→w.cell? ⟨g,0+j,none⟩=some (.int .i64 ((P.map fun (x:Nat)=>(x:Int)).getD j 0)):=fun j hj=>by
          have hj':j<P.length:=by simpa using hj
          have:=hP.cells (g:=g) rfl j _ (zgx P j hj');rw[yk] at this;rw[this];simp[nth,hj']
         have c2:∀j,j<(Q.map fun (x:Nat)=>(x:Int)).length→w.cell? ⟨g',0+j,none⟩=some (.int .i64 ((Q.map fun (x:Nat)=>(x:Int)).getD j 0)):=fun j hj=>by
          have hj':j<Q.length:=by simpa using hj
          have:=hQ.cells (g:=g') rfl j _ (zgx Q j hj');rw[yk] at this;rw[this];simp[nth,hj']
         refine(Tryz.slices_Equal_int g 0 P.length c g' 0 Q.length c' (P.map fun (x:Nat)=>(x:Int)) (Q.map fun (x:Nat)=>(x:Int)) w (by simp) (by simp) (by omega) (by omega) c1 c2).mono ?_;rintro e w' ⟨rfl,q,rfl⟩;refine⟨zdq ?_,⟨rfl,rfl,rfl,Nat.le_refl _,fun _ _=>rfl⟩⟩;rw[List.take_of_length_le (by simp),List.take_of_length_le (by simp)];by_cases e:P=Q
         · subst e;simp
         · rw[decide_eq_false e,beq_eq_false_iff_ne];intro h;apply e;have:=congrArg (List.map Int.toNat) h;simpa [List.map_map,Function.comp_def] using this
 · refine(Tryz.slices_Equal_int_lens a a' P.length c Q.length c' w hl).mono ?_;rintro e w' ⟨rfl,rfl⟩;exact⟨zdq (by rw[decide_eq_false (fun e=>hl (by rw[e]))]),Below.refl _ _⟩
theorem zqd:∀{L M:List Nat},L.Nodup→(∀x∈L,x∈M)→L.length≤M.length
 | [],_,_,_=>Nat.zero_le _
 | a :: l,M,hn,hs=>by
   obtain⟨h1,h2⟩:=List.nodup_cons.1 hn;have ha:=hs a (by simp);have h3:=zqd (M:=M.erase a) h2 (fun x hx=>(List.mem_erase_of_ne (fun e=>h1 (by rw[←e];exact hx))).2 (hs x (by simp[hx])));rw[List.length_erase_of_mem ha] at h3;have:0<M.length:=List.length_pos_of_mem ha;simp;omega
set_option maxRecDepth 100000 in
theorem zz4 (a:Option Addr) (n c:Nat) (k:Kno) (w:World) (hE:Frags w a n c k) (hL:LtK k) (hF:KnoFits k) (hG:∀f∈k,Good f.1) (hS:(zm k).length≤10000):
 Calls Tryz.prog 210 #[.slice a n c] w fun e w'=>(∃y,e=.returned y∧w'.ownsRow w.heap.size 43 1 y (zm k).length (zo (zm k)))∧Below w.heap.size w w':=by
 have HE:=hid hE;have HL:=hid hL;have HF:=hid hF;have HG:=hid hG;have HSl:=hid hS;clear hS;have Hl:=hid hE.len;have hn5:n≤500:=by rw[←hE.len];exact hF.len
 have hmm:=@run_makeMap Tryz.prog;obtain⟨B,hBe⟩:∃B,B=w.heap.size:=⟨_,rfl⟩;have HBe:=hid hBe;have Hm0:=hid (show (w.alloc (.map #[] 0)).ownsMap Tryz.prog 43 rB B 0 (.map []) from by rw[hBe];exact World.ownsMap_made _ _ _ _);have Hb0:=hid (show Below B w (w.alloc (.map #[] 0)) from by rw[hBe];exact(Below.refl _ _).alloc (Nat.le_refl _) _);have hkz:keyOf Tryz.prog 43 (.int .u64 0)=some (.int .u64 0):=zd4 (x:=0) (by omega);clear hE hL hF hG;go_enter Tryz.func210,Tryz.ntmps210;go_wp2_with (first | (rw[←hBe];refine zyh _ rfl _ _ _ 340 rfl 43 4 zb1 Tryz.underlying340 rB B 0 (.map []) rfl Hm0.out (by unfold maxLen;omega) _ _ _ rfl rfl hkz (.lit (.bool true)) [] rfl ?_;intro w1 ho1 hg1));have Hb1:=hid (Hb0.out.grown hg1 (by have:=Hm0.out.lt;omega) (fun k hk=>by cases hk;exact Nat.le_refl _))
 have HS1:=hid (show SetS w1 B 1 _ (zaj k 0 0) from⟨ho1,fun r=>by
  rw[zyd,show Lit.int .u64 (0:Int)=Lit.int .u64 ((0:Nat):Int) from rfl];by_cases e:r=0
  · subst e;rw[has_put_same isMap_empty (show WideAt.IsKeyLit (.int .u64 ((0:Nat):Int)) from trivial)];simp
  · rw[has_put_other (zd5 (r:=r) (x:=0) e)];simp[e,Maps.has]⟩)
 clear ho1 hg1 hBe Hm0 Hb0;go_wp2;rw[←HBe.out];go_loopw [5,7,8,9,19,26] (fun _ _ _ _ i _ wr=>∃d:Nat,d≤n∧i=.int .i64 d∧Hid (Below B w wr)∧Hid (∃N D,N≤1+1000*d∧SetS wr B N D (zaj k d 0))) (fun _ _ _ _ i _ _=>n - (intOf i).toNat)
 case atStart=>exact⟨0,by omega,rfl,Hb1.out,1,_,by omega,HS1.out⟩
 case round=>
  obtain⟨d,hd,rfl,Hb,hS⟩:=hrel;obtain⟨N,D,hN,hS⟩:=hS.out;have HS:=hid hS;clear hS;by_cases hdn:d<n
  · have hdk:d<k.length:=by rw[Hl.out];exact hdn
    obtain⟨bb,oo,rfl⟩:=HE.out.some (by omega);obtain⟨x,m,cc,y,m',c',hq⟩:=HE.out.fix hdn;rw[←HBe.out] at hq;obtain⟨q1,hI,q2,-⟩:=hq _ Hb.out;have hit:=HF.out.items _ (yx hdk);have Hnx:=hid (zyf hdk);have Hst:=hid (fun e (he:e<(zb k d).1.length)=>zyg (k:=k) (d:=d) he);have hBwr:B≤wr.heap.size:=by have:=Hb.out.size;have:=HBe.out;omega
    have hal:Below wr.heap.size wr (wr.alloc (.cells #[.slice x m cc,.slice y m' c'] 97)):=(Below.refl _ _).alloc (Nat.le_refl _) _;obtain⟨x0,x1⟩:=zf2 wr (.slice x m cc) (.slice y m' c') 97 _ (Below.refl _ _);have Hb2:=hid (Hb.out.trans (hal.mono hBwr));have HS2:=hid (HS.out.kept hal);have HQ:=hid (fun w' (h:Below B w w')=>(hq w' h).2.1);have hlm:=hI.len;have h0:(0:Int)≤d:=by omega
    have h04:(d:Int)<(n:Int):=by omega
    have hm63:m≤500:=by omega
    clear hq hI hal Hb HS;generalize zb k d=f at*;go_wp2;clear x0 x1 q1 q2;generalize wr.alloc (.cells #[.slice x m cc,.slice y m' c'] 97)=w2 at*;clear hBwr;go_loopw [7,8,9,26] (fun _ _ _ i wr=>∃e:Nat,e≤m∧i=.int .i64 e∧Hid (Below B w wr)∧Hid (∃N D,N≤1+1000*d+2*e∧SetS wr B N D (zaj k d e))) (fun _ _ _ i _=>m - (intOf i).toNat)
    case atStart=>exact⟨0,by omega,rfl,Hb2.out,N,D,by omega,HS2.out⟩
    case round=>
     obtain⟨e,he,rfl,Hb,hS⟩:=hrel;obtain⟨N,D,hN,hS⟩:=hS.out;have HS:=hid hS;clear hS;by_cases hem:e<m
     · have hek:e<f.1.length:=by omega
       obtain⟨bi,oi,rfl,hcell⟩:=(HQ.out _ Hb.out).cells (by omega);obtain⟨c0,c1⟩:=hcell e hem;have hlt:=(HQ.out _ Hb.out).lt _ (zas hek);have Hse:=hid (Hst.out e hek);have hBwr:B≤wr.heap.size:=by have:=Hb.out.size;have:=HBe.out;omega
       clear hcell;generalize za f.1 e=s at*;obtain⟨lo,hi⟩:=s;simp only at c0 c1 hlt Hse;have hal:Below wr.heap.size wr (wr.alloc (.cells #[.int .u64 lo,.int .u64 hi] 89)):=(Below.refl _ _).alloc (Nat.le_refl _) _;obtain⟨y0,y1⟩:=zf2 wr (.int .u64 lo) (.int .u64 hi) 89 _ (Below.refl _ _);have hr1:(wr.alloc (.cells #[.int .u64 lo,.int .u64 hi] 89)).heap[wr.heap.size]?=some (.cells #[.int .u64 lo,.int .u64 hi] 89):=yh rfl;have HS3:=hid (HS.out.kept hal);have HmB:B<wr.heap.size:=HS.out.own.lt;have Hb3:=hid (Hb.out.trans (hal.mono hBwr));have Hr1:=hid hr1;clear hal hr1;go_wp2_with (at_mapUpdate;refine wpList_mapUpdate_own _ rfl _ _ _ 340 rfl 43 4 zb1 Tryz.underlying340 rB B N D rfl HS3.out.own (by unfold maxLen;omega) _ _ _ rfl rfl (zd4 hlt.1) (.lit (.bool true)) [] rfl ?_;intro w4 ho4 hg4;have z1:=(World.cell?_of_block (a:=⟨wr.heap.size,1,none⟩) (hg4.block wr.heap.size (by simp) (by simp;omega))).trans (zx (i:=1) Hr1.out rfl));have HS4:=hid (HS3.out.put (S':=fun x=>zaj k d e x∨x=lo) ho4 (fun r=>Iff.rfl));have Hb4:=hid (Hb3.out.grown hg4 (by have:=HS3.out.own.lt;omega) (fun k hk=>by cases hk;exact Nat.le_refl _));clear ho4 hg4 z1 y0 y1 c0 c1;by_cases hmx:hi<18446744073709551615
       · refine(zn8 hi hmx _).mono ?_;rintro e' w5 ⟨rfl,hb5⟩;have HS5:=hid (HS4.out.kept hb5);have Hb5:=hid (Hb4.out.trans (hb5.mono (by have:=HS4.out.own.lt;omega)));have hh64:hi+1<18446744073709551616:=by omega
         clear hb5;go_wp2_with (at_mapUpdate;refine wpList_mapUpdate_own _ rfl _ _ _ 340 rfl 43 4 zb1 Tryz.underlying340 rB B _ _ rfl HS5.out.own (by unfold maxLen;omega) _ _ _ rfl rfl (zd4 hh64) (.lit (.bool true)) [] rfl ?_;intro w6 ho6 hg6);have HS6:=hid (HS5.out.put (S':=zaj k d (e+1)) ho6 (fun r=>by rw[Hse.out r];simp[hmx]));have Hb6:=hid (Hb5.out.grown hg6 (by have:=HS5.out.own.lt;omega) (fun k hk=>by cases hk;exact Nat.le_refl _));clear ho6 hg6;go_roundw
         case rel=>exact⟨e+1,by omega,by go_num,Hb6.out,_,_,by omega,HS6.out⟩
         case measure=>simp[intOf];omega
       · obtain rfl:hi=18446744073709551615:=by omega
         refine(zn9 _).mono ?_;rintro e' w5 ⟨rfl,hb5⟩;have HS5:=hid ((HS4.out.kept hb5).congr (S':=zaj k d (e+1)) (fun r=>by rw[Hse.out r];simp));have Hb5:=hid (Hb4.out.trans (hb5.mono (by have:=HS4.out.own.lt;omega)));clear hb5;go_wp2;go_roundw
         case rel=>exact⟨e+1,by omega,by go_num,Hb5.out,_,_,by omega,HS5.out⟩
         case measure=>simp[intOf];omega
     · obtain rfl:e=m:=by omega
       have HS7:=hid (HS.out.congr (S':=zaj k (d+1) 0) (fun r=>by rw[←Hnx.out r,hlm]));clear HS;go_wp2;go_roundw
       case rel=>exact⟨d+1,by omega,by go_num,Hb.out,_,_,by omega,HS7.out⟩
       case measure=>simp[intOf];omega
  · obtain rfl:d=n:=by omega
    have HS1:=hid (HS.out.congr (S':=fun r=>r∈za4 k) (fun r=>by rw[←Hl.out];exact zye k r));clear HS;have hmem:∀f∈k,Good f.1∧f.1.length≤1000000:=fun f hf=>⟨HG.out f hf,by have:=HF.out.items f hf;omega⟩
    have HM:=hid (fun (t:Nat) (w':World) (h:Below B w w')=>zpy a d c t k w' (HE.out.below (by rw[←HBe.out];exact h)) hmem (by omega))
    have HML:=hid (fun t=>show (zq k t).length≤500 from by
     have:=zkj k t k.length;have h2:zq k t=kx k t k.length:=rfl;rw[h2];have:=Hl.out;omega)
    have hNm:N<maxLen:=by unfold maxLen;omega
    clear hmem hmm;go_wp2_with (at_range;refine wpList_range_own _ rfl _ _ rfl 43 4 zb1 Tryz.underlying340 rB B N D rfl HS1.out.own ?_;intro w3 hrg3 hg3 hs3);go_frame
    obtain⟨R,hR⟩:∃R,R=wr.heap.size:=⟨_,rfl⟩;rw[←hR] at hrg3 ⊢;have HR:=hid hR;have hBR:B<R:=by rw[hR];exact HS1.out.own.lt
    have Hb3:=hid (Hb.out.grown hg3 (by omega) (fun k hk=>by cases hk));have HSf:=hid (Sift.start HS1.out.keys);have Hrg3:=hid hrg3;clear hR hrg3 hg3 hs3 HS1 Hb;go_loopw [10,11,12] (fun _ _ _ wr=>∃(left:Lit→Bool) (cnt:Nat) (D:DataW Value),Hid (wr.ranges Tryz.prog 43 rB B R N D left cnt)∧Hid (Sift k D left)∧Hid (Below B w wr)) (fun _ _ _ wr=>wr.rangeLeft B R)
    case atStart=>exact⟨_,_,D,Hrg3.out,HSf.out,Hb3.out⟩
    case round=>
     obtain⟨left,cnt,D,Hrg,HSi,Hb⟩:=hrel;have Hrg:=hid Hrg.out;go_wp2_with (at_next;refine zj4 rfl _ rfl rB B R N D left cnt rfl Hrg.out ?_ ?_)
     · intro hl0;have HK:=hid (HSi.out.all hl0);have Hown:=hid Hrg.out.owns;clear hl0 Hrg HSi Hb3 HSf Hrg3 HM HML;go_wp2_with (at_range;refine wpList_range_own _ rfl _ _ rfl 43 4 zb1 Tryz.underlying340 rB B N D rfl Hown.out ?_;intro w3 hrg3 hg3 hs3);go_frame
       obtain⟨R2,hR2⟩:∃R2,R2=wr.heap.size:=⟨_,rfl⟩;rw[←hR2] at hrg3 hs3 ⊢;have hBR2:B<R2:=by rw[hR2];exact Hown.out.lt
       have Hb3:=hid (Hb.out.grown hg3 (by omega) (fun k hk=>by cases hk));have Hrg3:=hid hrg3;have Hs3:=hid hs3;clear hR2 hrg3 hg3 hs3 Hown Hb;go_loopw [13,14] (fun y _ wr=>∃(left:Lit→Bool) (cnt:Nat) (L:List Nat),Hid (wr.ranges Tryz.prog 43 rB B R2 N D left cnt)∧Hid (Coll D left L)∧Hid (wr.ownsRow (R2+1) 43 1 y L.length (zo L))∧Hid (Below B w wr)∧R2+1≤wr.heap.size) (fun _ _ wr=>wr.rangeLeft B R2)
       case atStart=>exact⟨_,_,[],Hrg3.out,Coll.start D,World.ownsRow_nil _ _ _ _,Hb3.out,by rw[Hs3.out];exact Nat.le_refl _⟩
       case round=>
        obtain⟨left,cnt,L,Hrg,HC,Ho,Hb,hsw⟩:=hrel;have Hrg:=hid Hrg.out;have Hlen:=hid (show L.length≤10000 from Nat.le_trans (zqd HC.out.nodup (fun x hx=>(HK.out x).1 ((HC.out.mem x).1 hx).1)) HSl.out);go_wp2_with (at_next;refine zj4 rfl _ rfl rB B R2 N D left cnt rfl Hrg.out ?_ ?_)
        · intro hl0;have h0:0∈L:=(HC.out.mem 0).2 ⟨(HK.out 0).2 (zhg k),hl0 _⟩;have hS:=hid (zv0 (R2+1) L.length _ L wr Ho.out (List.length_pos_of_mem h0) (by have:=Hlen.out;omega));have HF2:=hid (fun (M:List Nat) (hp:M.Perm L) (hM:M.Pairwise (· ≤·))=>zyi HC.out hl0 HK.out hp hM);have Holt:=hid Ho.out.lt;obtain⟨ya,yc,rfl⟩:=jz Ho.out;clear h0 hl0 HC Hrg Ho;go_wp2_with fail;refine hS.out.mono ?_;rintro e w5 ⟨rfl,M,hp,hM,ho5,hg5⟩;have hMe:=HF2.out M hp hM;have hlen5:L.length=(zm k).length:=by rw[←hp.length_eq,hMe]
          subst hMe;have Ho5:=hid ho5;have Hb5:=hid (Hb.out.grown hg5 (by omega) (fun k hk=>by have:=(Holt.out k hk).1;omega));clear hp hM ho5 hg5;go_wp2;go_ret;refine⟨⟨_,rfl,?_⟩,by rw[←HBe.out];exact Hb5.out⟩;rw[←hlen5,←HBe.out];exact vz Ho5.out (by omega)
        · intro x u w4 cnt4 hx hlx hhx hrg4 hlt4 hg4 hs4 hen;have HC4:=hid (HC.out.step hhx hlx);have Hb4:=hid (Hb.out.grown hg4 (by have:=Hrg.out.owns.lt;omega) (fun k hk=>by cases hk;omega));have Ho4:=hid (qk (w':=w4) Ho.out (fun k hk1 hk2=>hg4.block k hk2 (by simp;omega)));have Hrg4:=hid hrg4;have Hlt4:=hid hlt4;have hs4':R2+1≤w4.heap.size:=by omega
          have hal:Below w4.heap.size w4 (w4.alloc (.cells #[.int .u64 x] 43)):=(Below.refl _ _).alloc (Nat.le_refl _) _;have Hal:=hid hal;clear hlx hhx hrg4 hlt4 hg4 hs4 hal;go_wp2_with (at_builtin;refine zx7 rfl _ _ rfl rfl (R2+1) _ L.length L rfl (qc Ho4.out Hal.out) _ 1 1 [x] rfl (vy (yp _ _ _ (by simp)) rfl rfl) (by have:=Hlen.out;omega) (by simp;omega) ?_;intro v' w5 ho5 hg5);have hsz5:=hg5.size;simp only[World.size_alloc] at hsz5;have hvr:∀j,j≤R2→some j≠Value.ownBlock _:=fun j hj e=>by have:=(Ho4.out.lt j e.symm).1;omega
          have Hrg5:=hid ((Hrg4.out.kept (zau Hal.out) (by simp) (by simp)).kept hg5 (hvr B (by omega)) (hvr R2 (Nat.le_refl _)));have Hb5:=hid ((Hb4.out.trans (Hal.out.mono (by omega))).grown hg5 (by simp;omega) (fun k hk=>by have:=(Ho4.out.lt k hk).1;omega));have Ho5:=hid ho5;clear ho5 hg5 hvr;go_roundw
          case rel=>exact⟨_,cnt4,L++[x],Hrg5.out,HC4.out,by rw[List.length_append];exact Ho5.out,Hb5.out,by omega⟩
          case measure=>rw[Hrg5.out.left_eq,Hrg.out.left_eq];exact Hlt4.out
     · intro x u w4 cnt4 hx hlx hhx hrg4 hlt4 hg4 hs4 hen;have Hb4:=hid (Hb.out.grown hg4 (by have:=Hrg.out.owns.lt;omega) (fun k hk=>by cases hk;omega));have Hrg4:=hid hrg4;have Hlt4:=hid hlt4;have Hhx:=hid hhx;have Hlx:=hid hlx;have hall:=((HSi.out.keys x).1 hhx).1;have Hall:=hid hall;clear hlx hhx hrg4 hlt4 hg4 hs4 hall;by_cases hx0:x=0
       · subst hx0;have hst:0∈zm k:=zhg k;have HSt:=hid (HSi.out.stay hst);clear hst;go_wp2_with fail;refine(zoa 0 (by omega) _).mono ?_;rintro e w5 ⟨rfl,hb5⟩;have Hrg5:=hid (Hrg4.out.kept (zau hb5) (by simp) (by simp));have Hb5:=hid (Hb4.out.trans (hb5.mono (by have:=Hrg4.out.owns.lt;omega)));clear hb5 hen;have hpz:zfv 0=none:=rfl;rw[hpz];simp only[zal,Option.getD,Option.isSome];go_wp2;go_roundw
         case rel=>exact⟨_,cnt4,D,Hrg5.out,HSt.out,Hb5.out⟩
         case measure=>rw[Hrg5.out.left_eq,Hrg.out.left_eq];exact Hlt4.out
       · have hpz:zfv x=some (x - 1):=if_neg hx0
         have Hst:=hid (show x∈zm k↔zq k (x - 1)≠zq k x from by
          rw[zfx];constructor
          · rintro⟨-,h | h⟩
            · exact absurd h hx0
            · exact h
          · exact fun h=>⟨Hall.out,.inr h⟩)
         go_wp2_with fail;refine(zoa x hx _).mono ?_;rintro e w5 ⟨rfl,hb5⟩;have Hrg5:=hid (Hrg4.out.kept (zau hb5) (by simp) (by simp));have Hb5:=hid (Hb4.out.trans (hb5.mono (by have:=Hrg4.out.owns.lt;omega)));clear hb5 hen;rw[hpz];simp only[zal,Option.getD,Option.isSome];obtain⟨x',hx'⟩:∃x',x'=x - 1:=⟨_,rfl⟩;rw[←hx'] at Hst ⊢;clear hx' hpz;go_wp2_with fail;refine(HM.out x' w5 Hb5.out).mono ?_;rintro e w6 ⟨⟨y1,rfl,ho1⟩,hb6⟩;have Ho1:=hid ho1;have Hb6:=hid (Hb5.out.trans (hb6.mono (by have:=Hrg5.out.owns.lt;omega)));have Hrg6:=hid (Hrg5.out.kept (zau hb6) (by simp) (by simp));clear ho1 hb6;go_wp2_with fail;refine(HM.out x w6 Hb6.out).mono ?_;rintro e w7 ⟨⟨y2,rfl,ho2⟩,hb7⟩;have Ho1:=hid (qc Ho1.out hb7);have Ho2:=hid ho2;have Hb7:=hid (Hb6.out.trans (hb7.mono (by have:=Hrg6.out.owns.lt;omega)));have Hrg7:=hid (Hrg6.out.kept (zau hb7) (by simp) (by simp));clear ho2 hb7;have hC:=hid (zz3 _ _ y1 y2 _ _ w7 Ho1.out Ho2.out (by have:=HML.out x';omega) (by have:=HML.out x;omega));go_wp2_with fail;refine hC.out.mono ?_;rintro e w8 ⟨rfl,hb8⟩;have Hb8:=hid (Hb7.out.trans (hb8.mono (by have:=Hrg7.out.owns.lt;omega)));have Hrg8:=hid (Hrg7.out.kept (zau hb8) (by simp) (by simp));clear hb8 hC;obtain⟨z,hz⟩:∃z,z=decide (zq k x'=zq k x):=⟨_,rfl⟩;rw[←hz];have Hz:=hid hz;clear hz
         cases z with
         | true=>
          have hns:x∉zm k:=fun h=>(Hst.out.1 h) (by simpa using Hz.out.symm)
          have HSd:=hid (HSi.out.drop hns);clear hns;go_wp2_with (at_delete;refine wpList_delete_ranges _ rfl _ _ 340 43 rfl 4 zb1 Tryz.underlying340 rB B R N D _ cnt4 rfl Hrg8.out _ _ rfl (zd4 hx) ?_;intro w9 cnt9 hrg9 hle9 hturn9;go_frame);rw[strike_twice] at hrg9;have Hrg9:=hid hrg9;have Hb9:=hid (Hb8.out.grown hturn9.grown (by have:=Hrg8.out.owns.lt;omega) (fun k hk=>by cases hk;exact Nat.le_refl _));clear hrg9 hturn9;go_roundw
          case rel=>exact⟨_,cnt9,_,Hrg9.out,HSd.out,Hb9.out⟩
          case measure=>rw[Hrg9.out.left_eq,Hrg.out.left_eq];have:=Hlt4.out;omega
         | false=>
          have hns:x∈zm k:=Hst.out.2 (by simpa using Hz.out.symm);have HSd:=hid (HSi.out.stay hns);clear hns;go_wp2;go_roundw
          case rel=>exact⟨_,cnt4,_,Hrg8.out,HSd.out,Hb8.out⟩
          case measure=>rw[Hrg8.out.left_eq,Hrg.out.left_eq];exact Hlt4.out
end
section
def yq (l:List Nat):List Nat:=l.flatMap je
theorem zz5 (a b:List Nat):yq (a++b)=yq a++yq b:=by simp[yq]
theorem zz6 (x:Nat):yq [x]=je x:=by simp[yq]
theorem zqe:∀(l:List Nat),(yq l).length≤10*l.length
 | []=>by simp[yq]
 | x :: l=>by
   have e:yq (x :: l)=je x++yq l:=rfl;have h1:=zqe l;have h2:(je x).length≤10:=zgp 9 x;rw[e,List.length_append,List.length_cons];omega
def jq (l:List Iv) (a i:Nat):Nat:=if i=0 then (za l 0).1 else (za l i).1 - (za l (i - 1)).2 - 1 - a
def vt (l:List Iv) (a:Nat):Nat→List Nat
 | 0=>[]
 | d+1=>vt l a d++[jq l a d,(za l d).2 - (za l d).1]
def ky (l:List Iv) (a:Nat):List Nat:=vt l a l.length
def zbr (l:List Iv) (a:Nat):Prop:=∀i,i<l.length→(za l i).1≤(za l i).2∧(0<i→(za l (i - 1)).2+1+a≤(za l i).1)
theorem ze2 (l:List Iv) (a:Nat):∀d,(vt l a d).length=2*d
 | 0=>rfl
 | d+1=>by rw[vt,List.length_append,ze2 l a d];simp;omega
theorem zh4 {l:List Iv} {a:Nat} (h:zk l):∀d,d≤l.length→∀x∈vt l a d,x<18446744073709551616
 | 0,_,x,hx=>by cases hx
 | d+1,hd,x,hx=>by
   rw[vt] at hx;rcases List.mem_append.1 hx with hx | hx
   · exact zh4 h d (by omega) x hx
   · have h1:=h _ (zas (show d<l.length from hd));simp at hx;rcases hx with rfl | rfl
     · unfold jq;split
       · rename_i e;rw[e] at h1;exact h1.1
       · omega
     · omega
theorem zqf (l:List Iv) (a:Nat):∀d i,i<d→nth (vt l a d) (2*i)=jq l a i∧nth (vt l a d) (2*i+1)=(za l i).2 - (za l i).1
 | 0,i,h=>by omega
 | d+1,i,h=>by
   have hl:=ze2 l a d;rw[vt];by_cases e:i=d
   · subst e;unfold nth;rw[List.getD_eq_getElem?_getD,List.getD_eq_getElem?_getD,List.getElem?_append_right (by omega),List.getElem?_append_right (by omega),hl,show 2*i - 2*i=0 by omega,show 2*i+1 - 2*i=1 by omega];exact⟨rfl,rfl⟩
   · obtain⟨h1,h2⟩:=zqf l a d i (by omega);unfold nth at h1 h2 ⊢;rw[List.getD_eq_getElem?_getD] at h1 h2 ⊢;rw[List.getD_eq_getElem?_getD,List.getElem?_append_left (by omega),List.getElem?_append_left (by omega)];exact⟨h1,h2⟩
theorem zqg {l:List Iv} (h:Good l):zbr l 1:=fun i hi=>by
 have:=zbj h i hi;exact⟨this.1,fun h0=>by have:=this.2 h0;omega⟩
def zb5 (v:Vec) (i:Nat):Nat:=if i=0 then (ze v 0).1 else (ze v i).1 - (ze v (i - 1)).1 - 1
def vh (v:Vec) (i:Nat):List Nat:=[zb5 v i,(ze v i).2.1,(ze v i).2.2.length]++ky (ze v i).2.2 1
def jw (v:Vec):Nat→List Nat
 | 0=>[v.length]
 | d+1=>jw v d++vh v d
def zam (v:Vec):List Nat:=jw v v.length
def jm (c:Kno):Nat→List Nat
 | 0=>[c.length]
 | d+1=>jm c d++zam (zb c d).2
def kf (l:List Iv) (x:List Nat):Nat→List Nat
 | 0=>[l.length]
 | d+1=>kf l x d++[jq l 0 d,(za l d).2 - (za l d).1,nth x d]
def qr (c:Kno):List Nat:=jm c c.length++kf ((zi c).map (·.1)) ((zi c).map (·.2)) (zi c).length
end
section
open Go.RowKit Go.Shelf
attribute [local go_sem] Oper.semAt_some zdy
theorem KeptT.refl (base:Nat) (T:TypeId→Prop) (A:World):KeptT base T A A:=⟨rfl,rfl,rfl,Nat.le_refl _,fun _ _ _=>rfl⟩
theorem KeptT.trans {base:Nat} {T:TypeId→Prop} {A B C:World} (h:KeptT base T A B) (k:KeptT base T B C):KeptT base T A C:=
 ⟨k.os.trans h.os,k.tape.trans h.tape,k.output.trans h.output,Nat.le_trans h.size k.size,fun i hi hp=>(k.row i (Nat.lt_of_lt_of_le hi h.size) (hp.imp id fun ⟨C,U,fr,hT,hr⟩=>⟨C,U,fr,hT,(h.row i hi (.inr ⟨C,U,fr,hT,hr⟩)).trans hr⟩)).trans (h.row i hi hp)⟩
theorem KeptT.of {base:Nat} {T:TypeId→Prop} {q:Nat→Prop} {A B:World} (h:Kept q A B) (s:Steady base T A B):KeptT base T A B:=⟨h.os,h.tape,h.output,h.size,s.row⟩
set_option maxRecDepth 20000 in
theorem zqh (a:Option Addr) (n c:Nat) (v:Vec) (w:World) (hE:Ents w a n c v) (hn:n≤1000000000000) (hN:(zl v).length≤1000000000000):
 Calls Tryz.prog 191 #[.slice a n c] w fun e w'=>
  (∃y,e=.returned y∧w'.ownsRow w.heap.size 43 1 y (zl v).length (zo (zl v)))∧Below w.heap.size w w':=by
 have HE:=hid hE;have HN:=hid hN;clear hE hN;refine(callsIn_wide (n:=3)).1 ?_;refine callsIn_of_wp_marks Tryz.func191 rfl trivial ?_ rfl;simp only[Tryz.ntmps191,List.size_toArray,List.length_cons,List.length_nil,Nat.reduceAdd,Nat.reduceSub,Array.replicate_succ,Array.replicate_zero,List.push_toArray,List.append_toArray,List.nil_append,List.cons_append];refine wpIn_wide.2 ?_;go_wp2_with (go_at_call 233;refine(zzn _ _ _ _).mono ?_;rintro e w1 ⟨rfl,rfl⟩);refine(wpIn_wide (n:=3)).1 ?_;obtain⟨C0,hC0⟩:∃C0:Obj,C0=.cells #[.slice none 0 0] 41:=⟨_,rfl⟩;obtain⟨C1,hC1⟩:∃C1:Obj,C1=.cells #[.slice a n c] 95:=⟨_,rfl⟩;rw[←hC0,←hC1];have hs1:(w.alloc C0).heap.size=w.heap.size+1:=by simp
 obtain⟨wl,hwl⟩:∃wl:World,wl=(w.alloc C0).alloc C1:=⟨_,rfl⟩;rw[←hwl]
 try rw[hs1]
 have hsz:wl.heap.size=w.heap.size+2:=by rw[hwl];simp
 have hbw:Below w.heap.size w wl:=by
  rw[hwl];exact((Below.refl _ w).alloc (Nat.le_refl _) C0).alloc (by simp) C1
 have e0:wl.heap[w.heap.size]?=some C0:=by rw[hwl];exact qg (yh rfl)
 have e1:wl.heap[w.heap.size+1]?=some C1:=by rw[hwl];exact yh (by simp)
 clear hwl
 refine zv3 (n:=3) (gf:=262) (lb:= #[.pointer (some ⟨w.heap.size+1,0,none⟩)]) rfl (enters_of Tryz.func262 (by kernel_rfl) rfl)
  (zzo (3 - 1) w wl (w.heap.size+1) a n c v HE.out hbw (by rw[e1,hC1]) hn)
  (fun x=>rfl) (fun k hk=>hk.elim) ?hput
  (fun pre W=>Below w.heap.size w W∧∃v,W.heap[w.heap.size]?=some (.cells #[v] 41)∧W.ownsRow (w.heap.size+4) 43 1 v pre.length (zo pre))
  (fun _ _ _=>False) ?hI (fun _ _ _ _ h _=>h) ⟨hbw,.slice none 0 0,by rw[e0,hC0],World.ownsRow_nil ..⟩ ?round ?done ?stop
 case hput=>
  intro A B r o hA hk;rw[hsz] at hA ⊢;refine⟨hk.os,hk.tape,hk.output,by simpa using hk.size,fun k hk1 hp=>?_⟩;refine(World.putObj_heap_other ?_).trans (hk.row k hk1 hp);rintro rfl;rcases hp with h | ⟨C,U,fr,_,h⟩
  · omega
  · rw[hA] at h;cases h
 case hI=>
  rintro s A B ⟨h4,v,h2,h3⟩ hk;have hs:=h4.size;exact⟨h4.trans (hk.toBelow (fun k hk'=>⟨id,by omega,by omega⟩) (by omega)),v,(hk.row _ (Array.getElem?_eq_some_iff.1 h2).1 ⟨id,by omega,by omega⟩).trans h2,qk h3 (fun k hk1 hk2=>hk.row k hk2 ⟨id,by omega,by omega⟩)⟩
 case round=>
  rintro pre x W ⟨rest,hV⟩ ⟨h4,y,h2,h3⟩ hsW ⟨rl,hrl⟩;rw[hsz] at hsW hrl ⊢
  have hlen:pre.length+1≤1000000000000:=by
   have:=HN.out;rw[hV,List.length_append,List.length_append,List.length_singleton] at this;omega
  clear hsz hbw e0 e1 hC0 hC1 hV
  gi_wp2
  refine⟨Kept.refl _ W,fun W2 hk2 hs2=>?_⟩;have b2:W2.heap[w.heap.size]?=some (.cells #[y] 41):=(hk2.row _ (Array.getElem?_eq_some_iff.1 h2).1 (by omega)).trans h2;have B3:=hid (qk h3 (fun k hk1 hk2'=>hk2.row k hk2' (by omega)));have B4:=hid (h4.trans (hk2.toBelow (n:=w.heap.size) (fun k hk'=>by omega) h4.size))
  have hst:Steady w.heap.size zf6 W W2:=⟨hk2.size,fun k hk hp=>hk2.row k hk (by
   rintro rfl;rcases hp with h | ⟨C,U,fr,_,h⟩
   · omega
   · rw[hrl] at h;cases h)⟩
  have K2:=hid (And.intro hk2 hst);have hB4:w.heap.size+4≤W2.heap.size:=by omega
  clear hk2 h2 h3 h4 hs2 hst hrl;have hB2:=B4.out.size;obtain⟨ao,co,rfl⟩:=jz B3.out;have q1:=yz b2;have q2:=k9 b2;have Hb2:=hid b2;clear b2;obtain⟨v',w5,hr,ho,hgr⟩:=zeq (w.heap.size+4) (.slice ao pre.length co) pre.length pre (B3.out.alloc (.cells #[.int .u64 x] 43)) (some ⟨W2.heap.size,0,none⟩) 1 1 [x] (vy (yp _ _ _ rfl) rfl rfl) (by omega) (by simp;omega);obtain⟨g',cap',rfl⟩:=ownsRow_succ ho;have hne:some w.heap.size≠(.slice ao pre.length co:Value).ownBlock:=fun e=>by have:=(B3.out.lt _ e.symm).1;omega
  have e5:w5.heap[w.heap.size]?=some (.cells #[.slice ao pre.length co] 41):=(hgr.block _ (by simp;omega) hne).trans (qg Hb2.out);have q5:=yz e5;have q6:=k9 e5;have He5:=hid e5;have Ho:=hid ho;have Hgr:=hid hgr;clear e5 ho hgr hne
  gi_wp2_with (gi_at_builtin;refine zfo rfl _ _ 41 rfl _ _ rfl rfl _ _ hr ?_)
  refine⟨?_,⟨?_,_,zb0 He5.out,?_⟩,?_⟩
  · exact(((Kept.refl _ W2).alloc _).grown Hgr.out (fun k hk _=>by have:=(B3.out.lt k hk).1;omega)).setCell (fun _=>by simp only;omega) _
  · exact((B4.out.alloc B4.out.size _).grown Hgr.out (by simp;omega) (fun k hk=>by have:=(B3.out.lt k hk).1;omega)).setCell (by simp only;omega) _
  · have h:=qk Ho.out (w':=w5.setCell ⟨w.heap.size,0,none⟩ (.slice (some ⟨g',0,none⟩) (pre.length+1) cap')) (fun k hk1 hk2=>Below.heap_setCell _ _ _ _ (by simp only;omega));rw[List.length_append];exact h
  · have s1:Steady w.heap.size zf6 W2 (W2.alloc (.cells #[.int .u64 x] 43)):=.of_below ((Below.refl _ _).alloc (Nat.le_refl _) _);have s2:Steady w.heap.size zf6 (W2.alloc (.cells #[.int .u64 x] 43)) w5:=Steady.grown (vz (b:=w.heap.size) (B3.out.alloc _) (by omega)) Hgr.out (by rintro(h | h | h) <;> cases h);have s3:Steady w.heap.size zf6 w5 (w5.setCell ⟨w.heap.size,0,none⟩ (.slice (some ⟨g',0,none⟩) (pre.length+1) cap')):=Steady.setCell (a:=⟨w.heap.size,0,none⟩) He5.out (Nat.le_refl _) (by rintro(h | h | h) <;> cases h);refine KeptT.of (q:=fun _=>False) (K2.out.1.mono (fun _ _ h=>h.elim) |>.trans ?_) (((K2.out.2.trans s1).trans s2).trans s3);exact(((Kept.refl _ W2).alloc _).grown Hgr.out (fun k hk _ h=>h)).setCell (fun _ h=>h) _
 case done=>
  rintro ps W rfl ⟨h4,y,h2,h3⟩ hK;have q1:=yz h2;have H3:=hid h3;have H4:=hid h4;clear h2 h3 h4 e0 e1
  gi_wp2
  go_wp2;refine⟨by simp,.inl ⟨_,_,rfl,run_takeDeferred hK,?_⟩⟩;refine⟨_,results_tmp rfl _ _ _,⟨y,rfl,?_⟩,?_⟩
  · refine vz (qk H3.out (fun k hk1 hk2=>World.putObj_heap_other (by omega))) (by omega)
  · exact(Kept.refl (fun k=>k<w.heap.size) W).putObj (fun _ h=>by have h':wl.heap.size<w.heap.size:=h;omega) _ |>.toBelow (fun _ h=>h) H4.out.size |> H4.out.trans
 case stop=>
  rintro c pre W hV h;exact h.elim
end
section
open Go.RowKit
theorem zz7 (x y:Option Addr) (m c m' c' bt t:Nat) (l:List Iv) (w:World) (hI:Ivs w x m c l) (hG:Good l) (hn:m≤1000000) (hbt:w.heap[bt]?=some (.cells #[.int .u64 t] 43)):
 Calls Tryz.prog 180 #[.agg #[.slice x m c,.slice y m' c'],.pointer (some ⟨bt,0,none⟩)] w fun e w'=>e=.returned (.bool (mem l t))∧Below w.heap.size w w':=by
 have hal:Below w.heap.size w (w.alloc (.cells #[.slice x m c,.slice y m' c'] 97)):=(Below.refl w.heap.size w).alloc (Nat.le_refl _) _;have hC:=hid (zne x m c t l _ (hI.below hal) hG hn);obtain⟨q0,q1⟩:=zkx w (.slice x m c) (.slice y m' c') 97 _ (Below.refl _ _);have q2:=yz ((hal.block bt (Array.getElem?_eq_some_iff.1 hbt).1).trans hbt);have Hal:=hid hal;clear hI hG hal hbt;generalize mem l t=b at*;go_enter Tryz.func180,Tryz.ntmps180;go_wp2_with fail;refine hC.out.mono ?_;rintro e w1 ⟨rfl,hb1⟩;have Hb1:=hid hb1;clear hb1;go_wp2;go_ret;exact⟨rfl,Hal.out.trans (Hb1.out.mono Hal.out.size)⟩
set_option maxRecDepth 20000 in
theorem zz8 (a:Option Addr) (n cap bt t:Nat) (k:Kno) (w:World) (hE:Frags w a n cap k) (hG:∀f∈k,Good f.1∧f.1.length≤1000000) (hbt:w.heap[bt]?=some (.cells #[.int .u64 t] 43)):
 Calls Tryz.prog 179 #[.slice a n cap,.func (.func 180) #[] #[.pointer (some ⟨bt,0,none⟩)]] w fun x w'=>
  x=.returned (.int .i64 (zhl (jy (fun i=>if mem (zb k i).1 t=true then some i else none) k.length)))∧Below w.heap.size w w':=by
 have HE:=hid hE;have HG:=hid hG;have Hl:=hid hE.len;have hm:n≤9223372036854775807:=Nat.le_trans hE.room hE.most;obtain⟨f,hf⟩:∃f:Nat→Option Nat,f=fun i=>if mem (zb k i).1 t=true then some i else none:=⟨_,rfl⟩
 rw[←hf];have Hf:=hid (show ∀i,f i=if mem (zb k i).1 t=true then some i else none from fun i=>by rw[hf]);have Hbt:=hid (fun w' (h:Below w.heap.size w w')=>(h.block bt (Array.getElem?_eq_some_iff.1 hbt).1).trans hbt);clear hE hG hf hbt;go_enter Tryz.func179,Tryz.ntmps179;go_wp2;go_loopw [5,8] (fun _ i wr=>∃d:Nat,d≤n∧i=.int .i64 d∧Below w.heap.size w wr∧Hid (∀j,j<d→f j=none)) (fun _ i _=>n - (intOf i).toNat)
 case atStart=>exact⟨0,by omega,rfl,Below.refl _ _,fun j h=>by omega⟩
 case round=>
  obtain⟨d,hd,rfl,hb,ht⟩:=hrel;have Hb:=hid hb;clear hb;by_cases hdn:d<n
  · have hdk:d<k.length:=by rw[Hl.out];exact hdn
    have HEr:=hid (HE.out.below Hb.out);obtain⟨bb,oo,rfl⟩:=HEr.out.some (by omega);obtain⟨x,m,c,y,m',c',hq⟩:=HEr.out.fix hdn;have Hat:=hid (Hf.out d);obtain⟨q1,hI,q2,-⟩:=hq _ (Below.refl _ _);have hgd:=HG.out _ (yx hdk);have hC:=hid (zz7 x y m c m' c' bt t (zb k d).1 wr hI hgd.1 (by rw[←hI.len];exact hgd.2) (Hbt.out _ Hb.out));clear hq hI hgd;generalize zb k d=e at*;generalize mem e.1 t=b at*;have h0:(0:Int)≤d:=by omega
    have h04:(d:Int)<(n:Int):=by omega
    cases b with
    | false=>
     have Hr:=hid (zfe ht.out (Hat.out.trans (if_neg (by simp))));go_wp2_with fail;refine hC.out.mono ?_;rintro e w1 ⟨rfl,hb1⟩;have Hb1:=hid (Hb.out.trans (hb1.mono Hb.out.size));clear hb1;go_wp2;go_roundw
     case rel=>exact⟨d+1,by omega,by go_num,Hb1.out,Hr.out⟩
     case measure=>simp[intOf];omega
    | true=>
     have Hr:=hid (zcq hdk ht.out (Hat.out.trans (if_pos rfl)));go_wp2_with fail;refine hC.out.mono ?_;rintro e w1 ⟨rfl,hb1⟩;have Hb1:=hid (Hb.out.trans (hb1.mono Hb.out.size));clear hb1;go_wp2;go_ret;exact⟨by rw[Hr.out];rfl,Hb1.out⟩
  · obtain rfl:d=n:=by omega
    have Hr:=hid (zcr (n:=k.length) (fun j hj=>ht.out j (by rw[←Hl.out];exact hj)));go_wp2;go_ret;exact⟨by rw[Hr.out];rfl,Hb.out⟩
theorem zz9 (a:Option Addr) (n cap t:Nat) (k:Kno) (w:World) (hE:Frags w a n cap k) (hG:∀f∈k,Good f.1∧f.1.length≤1000000):
 Calls Tryz.prog 132 #[.slice a n cap,.int .u64 t] w fun x w'=>
  x=.returned (.int .i64 (zhl (jy (fun i=>if mem (zb k i).1 t=true then some i else none) k.length)))∧Below w.heap.size w w':=by
 have hal:Below w.heap.size w (w.alloc (.cells #[.int .u64 t] 43)):=(Below.refl w.heap.size w).alloc (Nat.le_refl _) _;have hC:=hid (zz8 a n cap w.heap.size t k _ (hE.below hal) hG (yh rfl));have Hal:=hid hal;clear hE hG hal;generalize zhl (jy (fun i=>if mem (zb k i).1 t=true then some i else none) k.length)=z at*;go_enter Tryz.func132,Tryz.ntmps132;go_wp2_with fail;refine hC.out.mono ?_;rintro e w1 ⟨rfl,hb1⟩;have Hb1:=hid hb1;clear hb1;go_wp2;go_ret;exact⟨rfl,Hal.out.trans (Hb1.out.mono Hal.out.size)⟩
