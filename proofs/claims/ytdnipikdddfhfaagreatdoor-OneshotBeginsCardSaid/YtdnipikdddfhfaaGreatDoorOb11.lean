/- Part 11. -/
import Derived.Test.YtdnipikdddfhfaaGreatDoorOb10
set_option linter.unusedVariables false
set_option maxHeartbeats 16000000
namespace Go.Proofs.YtdnipikdddfhfaaGreatDoor
open Lib (hid)
section
open Go.RowKit
theorem zi1 (w:World) (x y:Value) (T:TypeId) (w':World) (h:Below (w.alloc (.cells #[x,y] T)).heap.size (w.alloc (.cells #[x,y] T)) w'):
 w'.cell? ⟨w.heap.size,0,none⟩=some x∧w'.cell? ⟨w.heap.size,1,none⟩=some y:=by
 have hrow:(w.alloc (.cells #[x,y] T)).heap[w.heap.size]?=some (.cells #[x,y] T):=vp rfl
 exact⟨(h.cell (p:=⟨w.heap.size,0,none⟩) (by simp)).trans (j0 (i:=0) hrow rfl),
  (h.cell (p:=⟨w.heap.size,1,none⟩) (by simp)).trans (j0 (i:=1) hrow rfl)⟩
set_option maxRecDepth 20000 in
theorem zqm (a:Option Addr) (n cap:Nat) (k:Kno) (w:World) (hE:Frags w a n cap k) (hD:Door w):
 Calls Tryz.prog 85 #[.slice a n cap] w fun x w'=>x=.returned (zh (js (ckF k)))∧Below w.heap.size w w':=by
 have HE:=hid hE;have HD:=hid hD;have Hl:=hid hE.len;have hm:n≤9223372036854775807:=Nat.le_trans hE.room hE.most;have Hck:=hid (show ckF k=qy (zdv k) k.length from rfl);clear hE hD;go_enter Tryz.func85,Tryz.ntmps85;go_wp2;go_loopw [3,4,5,6,9] (fun _ _ _ _ i wr=>∃d:Nat,d≤n∧i=.int .i64 d∧Below w.heap.size w wr∧Hid (∀j,j<d→zdv k j=none)) (fun _ _ _ _ i _=>n - (intOf i).toNat)
 case atStart=>exact⟨0,by omega,rfl,Below.refl _ _,fun j h=>by omega⟩
 case round=>
  obtain⟨d,hd,rfl,hb,ht⟩:=hrel;have Hb:=hid hb;clear hb;by_cases hdn:d<n
  · have hdk:d<k.length:=by rw[Hl.out];exact hdn
    have HEr:=hid (HE.out.below Hb.out);obtain⟨bb,oo,rfl⟩:=HEr.out.some (by omega);obtain⟨x,m,c,y,m',c',hq⟩:=HEr.out.fix hdn;have Hat:=hid (show zdv k d=match ck (zc k d).1 with | some x=>some (x.1,d) | none=>match ckV (zc k d).2 with | some x=>some (x.1,d) | none=>none from rfl);have hal:Below wr.heap.size wr (wr.alloc (.cells #[.slice x m c,.slice y m' c'] 97)):=(Below.refl _ _).alloc (Nat.le_refl _) _;have HX:=hid (zi1 wr (.slice x m c) (.slice y m' c') 97);have HalW:=hid (Hb.out.trans (hal.mono Hb.out.size));have Hal:=hid hal;have hC:=hid (zh9 x m c (zc k d).1 _ (hq _ hal).2.1 (HD.out.below (Nat.le_refl _) HalW.out))
    have hV:=hid (fun w' (h:Below (wr.alloc (.cells #[.slice x m c,.slice y m' c'] 97)).heap.size (wr.alloc (.cells #[.slice x m c,.slice y m' c'] 97)) w')=>
     zp6 y m' c' (zc k d).2 w' (hq _ (hal.trans (h.mono hal.size))).2.2.2 (HD.out.below (Nat.le_refl _) (HalW.out.trans (h.mono HalW.out.size))))
    have h0:(0:Int)≤d:=by omega
    have h04:(d:Int)<(n:Int):=by omega
    obtain⟨q1,-,q2,-⟩:=hq _ (Below.refl _ _);obtain⟨x0,x1⟩:=HX.out _ (Below.refl _ _);clear hq hal;generalize zc k d=f at*
    cases h:ck f.1 with
    | some z=>
     have hc0:=zh1 h;obtain⟨cd,ci⟩:=z;rw[h] at Hat hC;simp only[js,zh] at Hat hC;simp only at hc0;have Hr:=hid (zak hdk ht.out Hat.out);clear h hV;go_wp2_with fail;refine hC.out.mono ?_;rintro z w1 ⟨rfl,hb1⟩;have Hb1:=hid (HalW.out.trans (hb1.mono HalW.out.size));clear hb1;go_wp2_with fail;refine(kx (some ((cd:Int),some (ci:Int))) _ (HD.out.below (Nat.le_refl _) Hb1.out)).mono ?_;rintro z w2 ⟨rfl,hb2⟩;have Hb2:=hid (Hb1.out.trans (hb2.mono Hb1.out.size));clear hb2;simp only[kh];go_wp2_with fail;refine(qm cd d _).mono ?_;rintro z w3 ⟨rfl,rfl⟩;go_wp2;go_ret
     exact⟨by rw[Hck.out,Hr.out];show _=Ending.returned (zh (some ((cd:Int),some (d:Int))));rw[←zfr d hc0];rfl,Hb2.out⟩
    | none=>
     rw[h] at Hat hC;simp only[js,zh] at Hat hC;clear h;go_wp2_with fail;refine hC.out.mono ?_;rintro z w1 ⟨rfl,hb1⟩;have Hb1:=hid hb1;have Hw1:=hid (HalW.out.trans (hb1.mono HalW.out.size));clear hb1 q1 q2 x0 x1;obtain⟨x0,x1⟩:=HX.out _ Hb1.out
     cases h:ckV f.2 with
     | some z=>
      have hc0:=zoc h;obtain⟨cd,ci⟩:=z;rw[h] at Hat hV;simp only[js,zh] at Hat hV;simp only at hc0;have Hr:=hid (zak hdk ht.out Hat.out);clear h;go_wp2_with fail;refine(hV.out _ Hb1.out).mono ?_;rintro z w2 ⟨rfl,hb2⟩;have Hb2:=hid (Hw1.out.trans (hb2.mono Hw1.out.size));clear hb2;go_wp2_with fail;refine(kx (some ((cd:Int),some (ci:Int))) _ (HD.out.below (Nat.le_refl _) Hb2.out)).mono ?_;rintro z w3 ⟨rfl,hb3⟩;have Hb3:=hid (Hb2.out.trans (hb3.mono Hb2.out.size));clear hb3;simp only[kh];go_wp2_with fail;refine(qm cd d _).mono ?_;rintro z w4 ⟨rfl,rfl⟩;go_wp2;go_ret
      exact⟨by rw[Hck.out,Hr.out];show _=Ending.returned (zh (some ((cd:Int),some (d:Int))));rw[←zfr d hc0];rfl,Hb3.out⟩
     | none=>
      rw[h] at Hat hV;simp only[js,zh] at Hat hV;have Hr:=hid (zc9 ht.out Hat.out);clear h;go_wp2_with fail;refine(hV.out _ Hb1.out).mono ?_;rintro z w2 ⟨rfl,hb2⟩;have Hb2:=hid (Hw1.out.trans (hb2.mono Hw1.out.size));clear hb2;go_wp2;go_roundw
      case rel=>exact⟨d+1,by omega,by go_num,Hb2.out,Hr.out⟩
      case measure=>simp[intOf];omega
  · obtain rfl:d=n:=by omega
    have Hr:=hid (zdu (n:=k.length) (fun j hj=>ht.out j (by rw[←Hl.out];exact hj)));go_wp2;go_ret;exact⟨by rw[Hck.out,Hr.out];rfl,Hb.out⟩
theorem zqn {k:Kno} (hc:CanK k):vv (za8 k) 0:=by
 obtain⟨-,-,h3⟩:=k7 k k.length (Nat.le_refl _);have hp:=List.pairwise_iff_getElem.1 (zis hc);intro i hi;rw[zfp] at hi;rw[zd4 hi];refine⟨(hc.items _ (jh (h3 _ (List.getElem_mem hi)).1)).1.ok _ (h3 _ (List.getElem_mem hi)).2,fun h0=>?_⟩;have:=(hp (i - 1) i (by omega) hi (by omega)).1;rw[zd4 (by omega)];omega
theorem zi2 {k:Kno} {i:Nat} (h:i<(zd k).length):nth ((zd k).map (·.2)) i<k.length:=by
 obtain⟨-,-,h3⟩:=k7 k k.length (Nat.le_refl _);have e:nth ((zd k).map (·.2)) i=(zd k)[i].2:=by simp[nth,h]
 rw[e];exact(h3 _ (List.getElem_mem h)).1
theorem zfu (l:List Iv) (x:List Nat):∀d,(j7 l x d).length=1+3*d
 | 0=>rfl
 | d+1=>by rw[j7,List.length_append,zfu l x d];simp;omega
structure EncK (c:Kno):Prop where
 can:CanK c
 lt:LtK c
 vec:∀f∈c,VecFits f.2
 sum:kz c≤1000
 len:c.length≤1000
theorem zi3 {v:Vec} (h:LtV v) (hh:∀e∈v,e.2.2.length≤500) (hl:v.length≤300):∀d,d≤v.length→∀y∈vj v d,y<18446744073709551616
 | 0,_,y,hy=>by
   simp[vj] at hy;subst hy
   omega
 | d+1,hd,y,hy=>by
   rw[vj] at hy;rcases List.mem_append.1 hy with hy | hy
   · exact zi3 h hh hl d (by omega) y hy
   · exact zqk h hh hd y hy
theorem zqo {c:Kno} (hK:EncK c):∀x∈qi c,x<18446744073709551616:=by
 have hv:∀d,d≤c.length→∀x∈ju c d,x<18446744073709551616:=by
  intro d
  induction d with
  | zero=>
   intro _ x hx;simp[ju] at hx;subst hx;have:=hK.len
   omega
  | succ d ih=>
   intro hd x hx;rw[ju] at hx;rcases List.mem_append.1 hx with hx | hx
   · exact ih (by omega) x hx
   · have hm:=jh (show d<c.length from hd);have hf:=hK.vec _ hm;exact zi3 (hK.lt _ hm).vec hf.holes hf.len _ (Nat.le_refl _) x hx
 have hs:∀d,d≤(zd c).length→∀x∈j7 ((zd c).map (·.1)) ((zd c).map (·.2)) d,x<18446744073709551616:=by
  obtain⟨-,-,h3⟩:=k7 c c.length (Nat.le_refl _)
  have hll:(zd c).length≤1000:=by
   have:=zfm c c.length (Nat.le_refl _);rw[List.take_length] at this;have:=hK.sum;unfold zd;omega
  intro d
  induction d with
  | zero=>
   intro _ x hx;simp[j7] at hx;subst hx
   omega
  | succ d ih=>
   intro hd x hx;rw[j7] at hx
   have hlt:∀i,i<(zd c).length→(zb ((zd c).map (·.1)) i).1<18446744073709551616∧(zb ((zd c).map (·.1)) i).2<18446744073709551616:=fun i hi=>by
    have e:zb ((zd c).map (·.1)) i=(zd c)[i].1:=zd4 hi;rw[e];exact(hK.lt _ (jh (h3 _ (List.getElem_mem hi)).1)).items _ (h3 _ (List.getElem_mem hi)).2
   rcases List.mem_append.1 hx with hx | hx
   · exact ih (by omega) x hx
   · simp at hx;have h1:=hlt d (by omega);rcases hx with rfl | rfl | rfl
     · unfold qn;split
       · exact(hlt 0 (by omega)).1
       · omega
     · omega
     · have:=zi2 (k:=c) (i:=d) (by omega);have:=hK.len;omega
 intro x hx;unfold qi at hx;rcases List.mem_append.1 hx with hx | hx
 · exact hv _ (Nat.le_refl _) x hx
 · exact hs _ (Nat.le_refl _) x hx
end
section
open Go.RowKit Go.Maps
theorem zqp (x:Value) (w:World):Calls Tryz.prog 277 #[x,.int .i64 0,.int .i64 1] w fun e w'=>e=.returned (.tuple #[])∧w'=w:=by
 go_enter Tryz.func277,Tryz.ntmps277;go_wp2;go_loopw [6,7] (fun i _ wr=>i=.int .i64 1∧wr=w) (fun _ _ _=>0)
 case atStart=>exact⟨rfl,rfl⟩
 case round=>
  obtain⟨rfl,rfl⟩:=hrel;go_wp2;go_end0
  exact⟨rfl,rfl⟩
theorem zqq (x l:Value) (w:World):Calls Tryz.prog 267 #[x,.int .i64 0,.int .i64 1,l] w fun e w'=>e=.returned (.tuple #[])∧w'=w:=by
 go_enter Tryz.func267,Tryz.ntmps267;go_wp2;go_loopw [1,2,3,8,9,10,11,12,13,14,15,16,17,18] (fun a b _ _ _ _ _ _ _ _ _ _ _ _ wr=>a=.int .i64 0∧b=.int .i64 1∧wr=w) (fun _ _ _ _ _ _ _ _ _ _ _ _ _ _ _=>0)
 case atStart=>exact⟨rfl,rfl,rfl⟩
 case round=>
  obtain⟨rfl,rfl,rfl⟩:=hrel;go_wp2_with (go_at_call 277;refine(zqp _ _).mono ?_;rintro e w' ⟨rfl,rfl⟩);exact bodyPost_ret (results_none rfl _ _ _) rfl ⟨rfl,rfl⟩
theorem zqr (a:Option Addr) (c:Nat) (w:World):Calls Tryz.prog 248 #[.slice a 1 c] w fun e w'=>e=.returned (.tuple #[])∧w'=w:=by
 have Hl:=hid (fun w=>Tryz.bits_Len (1:Int) w (by omega) (by omega));have wr:IntKind.u64.wrap (1:Int)=1:=rfl;go_enter Tryz.func248,Tryz.ntmps248;go_wp2_with (first | (go_at_call 177;refine(Hl.out _).mono ?_;rintro e w' ⟨rfl,rfl⟩) | (go_at_call 267;refine(zqq _ _ _).mono ?_;rintro e w' ⟨rfl,rfl⟩));go_end0
 exact⟨rfl,rfl⟩
theorem zqs (t:Nat) (w:World):Calls Tryz.prog 211 #[.slice none 0 0,.int .u64 t] w fun e w'=>(∃a c,e=.returned (.slice a 0 c))∧Below w.heap.size w w':=by
 refine(zp9 none 0 0 t [] w (zcq w) (fun f hf=>by cases hf) (by omega)).mono ?_;rintro e w' ⟨⟨y,rfl,ho⟩,hb⟩;obtain⟨a,c,rfl⟩:=j1 ho;exact⟨⟨a,c,rfl⟩,hb⟩
def zqt (D:DataW Value):Prop:=∀r:Nat,Maps.has D (.int .u64 (r:Int))=true↔r=0
set_option maxRecDepth 100000 in
theorem zqu (w:World):
 Calls Tryz.prog 210 #[.slice none 0 0] w fun e w'=>(∃y,e=.returned y∧w'.ownsRow w.heap.size 43 1 y 1 (yi [0]))∧Below w.heap.size w w':=by
 have hmm:=@run_makeMap Tryz.prog;obtain⟨B,hBe⟩:∃B,B=w.heap.size:=⟨_,rfl⟩;have HBe:=hid hBe;have Hm0:=hid (show (w.alloc (.map #[] 0)).ownsMap Tryz.prog 43 rB B 0 (.map []) from by rw[hBe];exact World.ownsMap_made _ _ _ _);have Hb0:=hid (show Below B w (w.alloc (.map #[] 0)) from by rw[hBe];exact(Below.refl _ _).alloc (Nat.le_refl _) _);have hkz:keyOf Tryz.prog 43 (.int .u64 0)=some (.int .u64 0):=zof (x:=0) (by omega);go_enter Tryz.func210,Tryz.ntmps210;go_wp2_with (first | (rw[←hBe];refine zou _ rfl _ _ _ 340 rfl 43 4 zdw Tryz.underlying340 rB B 0 (.map []) rfl Hm0.out (by unfold maxLen;omega) _ _ _ rfl rfl hkz (.lit (.bool true)) [] rfl ?_;intro w1 ho1 hg1));have Hb1:=hid (Hb0.out.grown hg1 (by have:=Hm0.out.lt;omega) (fun k hk=>by cases hk;exact Nat.le_refl _));obtain⟨D,hD⟩:∃D,D=(DataW.map (H:=Value) []).put (.int .u64 0) (.lit (.bool true)):=⟨_,rfl⟩
 have HD:=hid (show zqt D from fun r=>by
  rw[hD,show Lit.int .u64 (0:Int)=Lit.int .u64 ((0:Nat):Int) from rfl];by_cases e:r=0
  · subst e;rw[has_put_same isMap_empty (show WideAt.IsKeyLit (.int .u64 ((0:Nat):Int)) from trivial)];simp
  · rw[has_put_other (za5 (r:=r) (x:=0) e)];simp[e,Maps.has])
 rw[←hD] at ho1;have Ho1:=hid ho1;clear ho1 hg1 hBe Hm0 Hb0 hD;go_wp2;rw[←HBe.out];go_loopw [5,7,8,9,19,26] (fun _ _ _ _ i _ wr=>i=.int .i64 0∧wr=w1) (fun _ _ _ _ _ _ _=>0)
 case atStart=>exact⟨rfl,rfl⟩
 case round=>
  obtain⟨rfl,rfl⟩:=hrel;go_wp2_with (at_range;refine wpList_range_own _ rfl _ _ rfl 43 4 zdw Tryz.underlying340 rB B _ D rfl Ho1.out ?_;intro w3 hrg3 hg3 hs3);go_frame
  obtain⟨R,hR⟩:∃R,R=wr.heap.size:=⟨_,rfl⟩;rw[←hR] at hrg3 ⊢;have hBR:B<R:=by rw[hR];exact Ho1.out.lt
  have Hb3:=hid (Hb1.out.grown hg3 (by omega) (fun k hk=>by cases hk));have Hrg3:=hid hrg3;clear hR hrg3 hg3 hs3 Ho1 Hb1;go_loopw [10,11,12] (fun _ _ _ wr=>∃(left:Lit→Bool) (cnt:Nat),Hid (wr.ranges Tryz.prog 43 rB B R _ D left cnt)∧Hid (Below B w wr)) (fun _ _ _ wr=>wr.rangeLeft B R)
  case atStart=>exact⟨_,_,Hrg3.out,Hb3.out⟩
  case round=>
   obtain⟨left,cnt,Hrg,Hb⟩:=hrel;have Hrg:=hid Hrg.out;go_wp2_with (at_next;refine zh5 rfl _ rfl rB B R _ D left cnt rfl Hrg.out ?_ ?_)
   · intro hl0;have Hown:=hid Hrg.out.owns;clear hl0 Hrg Hb3 Hrg3;go_wp2_with (at_range;refine wpList_range_own _ rfl _ _ rfl 43 4 zdw Tryz.underlying340 rB B _ D rfl Hown.out ?_;intro w3 hrg3 hg3 hs3);go_frame
     obtain⟨R2,hR2⟩:∃R2,R2=wr.heap.size:=⟨_,rfl⟩;rw[←hR2] at hrg3 hs3 ⊢;have hBR2:B<R2:=by rw[hR2];exact Hown.out.lt
     have Hb3:=hid (Hb.out.grown hg3 (by omega) (fun k hk=>by cases hk));have Hrg3:=hid hrg3;have Hs3:=hid hs3;clear hR2 hrg3 hg3 hs3 Hown Hb;go_loopw [13,14] (fun y _ wr=>∃(left:Lit→Bool) (cnt:Nat) (L:List Nat),Hid (wr.ranges Tryz.prog 43 rB B R2 _ D left cnt)∧Hid (Coll D left L)∧Hid (wr.ownsRow (R2+1) 43 1 y L.length (yi L))∧Hid (Below B w wr)∧R2+1≤wr.heap.size) (fun _ _ wr=>wr.rangeLeft B R2)
     case atStart=>exact⟨_,_,[],Hrg3.out,Coll.start D,World.ownsRow_nil _ _ _ _,Hb3.out,by rw[Hs3.out];exact Nat.le_refl _⟩
     case round=>
      obtain⟨left,cnt,L,Hrg,HC,Ho,Hb,hsw⟩:=hrel;have Hrg:=hid Hrg.out
      have Hlen:=hid (show L.length≤1 from by
       have hz:∀x∈L,x=0:=fun x hx=>(HD.out x).1 ((HC.out.mem x).1 hx).1
       have hn:=HC.out.nodup;rcases L with _ | ⟨x,_ | ⟨y,l⟩⟩
       · simp
       · simp
       · exfalso;rw[List.nodup_cons] at hn;exact hn.1 (by rw[hz x (by simp),←hz y (by simp)];simp))
      go_wp2_with (at_next;refine zh5 rfl _ rfl rB B R2 _ D left cnt rfl Hrg.out ?_ ?_)
      · intro hl0;have h0:0∈L:=(HC.out.mem 0).2 ⟨(HD.out 0).2 rfl,hl0 _⟩
        obtain rfl:L=[0]:=by
         have:=Hlen.out;rcases L with _ | ⟨x,_ | ⟨y,l⟩⟩
         · cases h0
         · rw[List.mem_singleton] at h0;rw[←h0]
         · simp at this
        have Ho2:=hid Ho.out;obtain⟨ya,yc,rfl⟩:=j1 Ho.out;clear h0 hl0 HC Hrg Ho Hlen;go_wp2_with fail;refine(zqr _ _ _).mono ?_;rintro e w5 ⟨rfl,rfl⟩;go_wp2;go_ret;exact⟨⟨_,rfl,by rw[←HBe.out];exact j3 Ho2.out (by omega)⟩,by rw[←HBe.out];exact Hb.out⟩
      · intro x u w4 cnt4 hx hlx hhx hrg4 hlt4 hg4 hs4 hen;have HC4:=hid (HC.out.step hhx hlx);have Hb4:=hid (Hb.out.grown hg4 (by have:=Hrg.out.owns.lt;omega) (fun k hk=>by cases hk;omega));have Ho4:=hid (kt (w':=w4) Ho.out (fun k hk1 hk2=>hg4.block k hk2 (by simp;omega)));have Hrg4:=hid hrg4;have Hlt4:=hid hlt4;have hs4':R2+1≤w4.heap.size:=by omega
        have hal:Below w4.heap.size w4 (w4.alloc (.cells #[.int .u64 x] 43)):=(Below.refl _ _).alloc (Nat.le_refl _) _;have Hal:=hid hal;clear hlx hhx hrg4 hlt4 hg4 hs4 hal;go_wp2_with (at_builtin;refine zot rfl _ _ rfl rfl (R2+1) _ L.length L rfl (zx Ho4.out Hal.out) _ 1 1 [x] rfl (kw (j2 _ _ _ (by simp)) rfl rfl) (by have:=Hlen.out;omega) (by simp;omega) ?_;intro v' w5 ho5 hg5);have hsz5:=hg5.size;simp only[World.size_alloc] at hsz5;have hvr:∀j,j≤R2→some j≠Value.ownBlock _:=fun j hj e=>by have:=(Ho4.out.lt j e.symm).1;omega
        have Hrg5:=hid ((Hrg4.out.kept (zfe Hal.out) (by simp) (by simp)).kept hg5 (hvr B (by omega)) (hvr R2 (Nat.le_refl _)));have Hb5:=hid ((Hb4.out.trans (Hal.out.mono (by omega))).grown hg5 (by simp;omega) (fun k hk=>by have:=(Ho4.out.lt k hk).1;omega));have Ho5:=hid ho5;clear ho5 hg5 hvr;go_roundw
        case rel=>exact⟨_,cnt4,L++[x],Hrg5.out,HC4.out,by rw[List.length_append];exact Ho5.out,Hb5.out,by omega⟩
        case measure=>rw[Hrg5.out.left_eq,Hrg.out.left_eq];exact Hlt4.out
   · intro x u w4 cnt4 hx hlx hhx hrg4 hlt4 hg4 hs4 hen;have Hb4:=hid (Hb.out.grown hg4 (by have:=Hrg.out.owns.lt;omega) (fun k hk=>by cases hk;omega));have Hrg4:=hid hrg4;have Hlt4:=hid hlt4;obtain rfl:=(HD.out x).1 hhx;clear hlx hhx hrg4 hlt4 hg4 hs4;go_wp2_with fail;refine(zm3 0 (by omega) _).mono ?_;rintro e w5 ⟨rfl,hb5⟩;have Hrg5:=hid (Hrg4.out.kept (zfe hb5) (by simp) (by simp));have Hb5:=hid (Hb4.out.trans (hb5.mono (by have:=Hrg4.out.owns.lt;omega)));clear hb5 hen;have hpz:zdk 0=none:=rfl;rw[hpz];simp only[zdj,Option.getD,Option.isSome];go_wp2;go_roundw
     case rel=>exact⟨_,cnt4,Hrg5.out,Hb5.out⟩
     case measure=>rw[Hrg5.out.left_eq,Hrg.out.left_eq];exact Hlt4.out
end
section
open Go.RowKit
theorem Row.ne_own {w:World} {g base sz n:Nat} {T e:TypeId} {C xs:List Value} {V:Value} (h:Row w g T C) (ho:w.ownsRow base e sz V n xs) (hT:T≠e):∀k,V.ownBlock=some k→k≠g:=by
 intro k hk e';subst e';rcases ho.2 with ⟨rfl,_⟩ | ⟨b,cap,cur,rfl,_,hh,_⟩
 · cases hk
 · have e2:b=k:=by simpa [Value.ownBlock] using hk
   subst e2;unfold Row at h;rw[hh] at h;injection h with h;injection h with _ h _;exact hT h.symm
theorem kd {w:World} {base base' sz sz' n n':Nat} {e e':TypeId} {V V':Value} {xs xs':List Value} (h:w.ownsRow base e sz V n xs) (h':w.ownsRow base' e' sz' V' n' xs') (hT:e≠e'):∀k,V.ownBlock=some k→V'.ownBlock≠some k:=by
 intro k hk hk';rcases h.2 with ⟨rfl,_⟩ | ⟨b,cap,cur,rfl,_,hh,_⟩
 · cases hk
 · rcases h'.2 with ⟨rfl,_⟩ | ⟨b',cap',cur',rfl,_,hh',_⟩
   · cases hk'
   · have e1:b=k:=by simpa [Value.ownBlock] using hk
     have e2:b'=k:=by simpa [Value.ownBlock] using hk'
     subst e1 e2;rw[hh] at hh';injection hh' with hh';injection hh' with _ hh' _;exact hT hh'
theorem Row.ne {w:World} {g g':Nat} {T T':TypeId} {C C':List Value} (h:Row w g T C) (h':Row w g' T' C') (hT:T≠T'):g≠g':=by
 intro e;subst e;unfold Row at h h';rw[h] at h';injection h' with h';injection h' with _ h' _;exact hT h'
def NotT (w:World) (g:Nat):Prop:=∀C T fr,w.heap[g]?=some (.cells C T fr)→¬qh T
theorem Row.notT {w:World} {g:Nat} {T:TypeId} {C:List Value} (h:Row w g T C) (hT:¬qh T):NotT w g:=by
 intro C' T' fr h';unfold Row at h;rw[h] at h';injection h' with h';injection h' with _ h' _;subst h';exact hT
theorem zqv {w:World} {g c:Nat} {es:Array MapEntry} (h:w.heap[g]?=some (.map es c)):NotT w g:=by
 intro C' T' fr h';rw[h] at h';injection h' with h';cases h'
theorem NotT.own {w:World} {g base sz n:Nat} {e:TypeId} {xs:List Value} {V:Value} (h:NotT w g) (ho:w.ownsRow base e sz V n xs) (hT:qh e):∀k,V.ownBlock=some k→k≠g:=by
 intro k hk e';subst e';rcases ho.2 with ⟨rfl,_⟩ | ⟨b,cap,cur,rfl,_,hh,_⟩
 · cases hk
 · have e2:b=k:=by simpa [Value.ownBlock] using hk
   subst e2;exact h _ _ _ hh hT
theorem zbu {w w':World} {g base:Nat} (h:NotT w g) (hb:base≤g) (hg:w.grownBy w' (some g)):Steady base qh w w':=⟨hg.size,fun k hk hp=>hg.block k hk fun e=>by
 injection e with e;subst e;rcases hp with h' | ⟨C,T,fr,hT,h'⟩
 · omega
 · exact h _ _ _ h' hT⟩
def zfv (lim:Nat) (ss:List Value):Prop:=∀p n c,Value.slice (some p) n c∈ss→0<n→p.block<lim
theorem zqw {w:World} {v:Vec} {ss:List Value} (h:HolesT w 0 v ss):zfv w.heap.size ss:=by
 intro p n c hm hn;obtain⟨i,hi,e⟩:=List.getElem_of_mem hm;obtain⟨a,m,d,h1,h2⟩:=h.2 i (by rw[←h.1];exact hi);rw[List.getElem?_eq_getElem hi,e] at h1;injection h1 with h1;injection h1 with h3 h4 h5;subst h3 h4;obtain⟨b,o,ha,hc⟩:=h2.ivs.cells hn;cases ha;exact ze (hc 0 hn).1
theorem zbv {w w':World} {v:Vec} {ss:List Value} {lim:Nat} (h:HolesT w 0 v ss) (hB:zfv lim ss) (hk:∀k,k<lim→k<w.heap.size→w'.heap[k]?=w.heap[k]?∨∃C T fr,T≠89∧w.heap[k]?=some (.cells C T fr)):HolesT w' 0 v ss:=by
 refine⟨h.1,fun i hi=>?_⟩;obtain⟨a,n,c,h1,h2⟩:=h.2 i hi;refine⟨a,n,c,h1,zii h2 fun hn p hp hw=>?_⟩;subst hp;rcases hk p.block (hB p n c (List.mem_of_getElem? h1) hn) hw with h3 | ⟨C,T,fr,hT,h3⟩
 · exact h3
 · rcases h2.row hn p rfl with h4 | ⟨C',fr',h4⟩
   · omega
   · rw[h3] at h4;injection h4 with h4;injection h4 with _ h4 _;exact absurd h4 hT
def EntO (w:World) (base:Nat) (V:Value) (v:Vec) (r m:Nat) (h:List Iv):Prop:=
 ∃lim ss S,base≤lim∧lim≤w.heap.size∧w.ownsRow base 93 3 V (v.length+1) (jr v ss++[.int .u64 ((r:Nat):Int),.int .u64 ((m:Nat):Int),S])∧HolesT w 0 v ss∧zfv lim ss∧w.ownsRow lim 89 2 S h.length (ivC h)
theorem EntO.later {w w':World} {base:Nat} {V:Value} {v:Vec} {r m:Nat} {h:List Iv} (hE:EntO w base V v r m h) (hb:Below w.heap.size w w'):EntO w' base V v r m h:=by
 obtain⟨lim,ss,S,h1,h2,h3,h4,h5,h6⟩:=hE;exact⟨lim,ss,S,h1,Nat.le_trans h2 hb.size,zx h3 hb,zbv h4 h5 fun k _ hk=>.inl (hb.block k hk),h5,zx h6 hb⟩
theorem EntO.grown {w w':World} {base g:Nat} {V:Value} {v:Vec} {r m:Nat} {h:List Iv} (hE:EntO w base V v r m h) (hN:NotT w g) (hg:w.grownBy w' (some g)):EntO w' base V v r m h:=by
 obtain⟨lim,ss,S,h3,h4,h5,h6,h7,h8⟩:=hE;refine⟨lim,ss,S,h3,Nat.le_trans h4 hg.size,yu h5 fun k hk=>hg.block k (h5.lt k hk).2 fun e=>hN.own h5 (.inr (.inl rfl)) k hk (by injection e),h6.steady (zbu hN (Nat.zero_le _) hg) (.inl rfl),h7,yu h8 fun k hk=>hg.block k (h8.lt k hk).2 fun e=>hN.own h8 (.inl rfl) k hk (by injection e)⟩
theorem OwnV.grown {w w':World} {base g:Nat} {V:Value} {v:Vec} (hE:OwnV w base V v) (hN:NotT w g) (hg:w.grownBy w' (some g)):OwnV w' base V v:=by
 obtain⟨ss,h5,h6⟩:=hE;exact⟨ss,yu h5 fun k hk=>hg.block k (h5.lt k hk).2 fun e=>hN.own h5 (.inr (.inl rfl)) k hk (by injection e),h6.steady (zbu hN (Nat.zero_le _) hg) (.inl rfl)⟩
theorem EntO.at {w:World} {base:Nat} {V:Value} {v:Vec} {r m:Nat} {h:List Iv} (hE:EntO w base V v r m h):∃g cap,V=.slice (some ⟨g,0,none⟩) (v.length+1) cap∧base≤g∧g<w.heap.size∧(∃C fr,w.heap[g]?=some (.cells C 93 fr))∧w.cell? ⟨g,v.length*3,none⟩=some (.int .u64 ((r:Nat):Int))∧w.cell? ⟨g,v.length*3+1,none⟩=some (.int .u64 ((m:Nat):Int))∧
 (∀j,w.frozen? ⟨g,j,none⟩=false)∧∃S lim,w.cell? ⟨g,v.length*3+2,none⟩=some S∧base≤lim∧w.ownsRow lim 89 2 S h.length (ivC h):=by
 obtain⟨lim,ss,S,h1,h2,h3,h4,h5,h6⟩:=hE;obtain⟨g,cap,rfl,hg,hgl,hn,hm⟩:=zan h3 (Nat.succ_pos _);have hl:=zds h4.1
 have get:∀j u,[Value.int .u64 ((r:Nat):Int),.int .u64 ((m:Nat):Int),S][j]?=some u→w.cell? ⟨g,v.length*3+j,none⟩=some u:=fun j u hu=>by
  have:=h3.cells (g:=g) rfl (v.length*3+j) u (by rw[List.getElem?_append_right (by omega),hl,Nat.add_sub_cancel_left];exact hu);rw[ye,Nat.zero_add] at this;exact this
 refine⟨g,cap,rfl,hg,hgl,?_,get 0 _ rfl,get 1 _ rfl,fun j=>h3.frozenAt j,S,lim,get 2 _ rfl,h1,h6⟩;rcases h3.2 with ⟨h',_⟩ | ⟨g',cap',cur,h',_,hh,_⟩
 · cases h'
 · cases h';exact⟨_,_,hh⟩
theorem EntO.max {w:World} {base g cap:Nat} {v:Vec} {r m:Nat} {h:List Iv} (hE:EntO w base (.slice (some ⟨g,0,none⟩) (v.length+1) cap) v r m h) (m':Nat):EntO (w.setCell ⟨g,v.length*3+1,none⟩ (.int .u64 ((m':Nat):Int))) base (.slice (some ⟨g,0,none⟩) (v.length+1) cap) v r m' h:=by
 obtain⟨lim,ss,S,h1,h2,h3,h4,h5,h6⟩:=hE;have hl:=zds h4.1;obtain⟨k1,k2⟩:=h3.stored (v.length*3+1) (.int .u64 ((m':Nat):Int));rw[List.set_append_right _ _ (by omega),hl,Nat.add_sub_cancel_left] at k1
 have hr:∃C fr,w.heap[g]?=some (.cells C 93 fr):=by
  rcases h3.2 with ⟨h',_⟩ | ⟨g',cap',cur,h',_,hh,_⟩
  · cases h'
  · cases h';exact⟨_,_,hh⟩
 obtain⟨C,fr,hr⟩:=hr;refine⟨lim,ss,S,h1,by simpa using h2,k1,zbv h4 h5 fun k _ hk=>?_,h5,yu h6 fun k hk=>k2.block k (h6.lt k hk).2 fun e=>kd h3 h6 (by decide) g rfl (by injection e with e;subst e;exact hk)⟩;by_cases e:k=g
 · subst e;exact .inr ⟨C,93,fr,by decide,hr⟩
 · exact .inl (k2.block k hk fun e'=>e (by injection e'))
theorem EntO.hole {w:World} {base g cap:Nat} {v:Vec} {r m:Nat} {h:List Iv} (hE:EntO w base (.slice (some ⟨g,0,none⟩) (v.length+1) cap) v r m h) {S:Value} (hS:w.cell? ⟨g,v.length*3+2,none⟩=some S) (s:Iv) (W:World) (hW:Below w.heap.size w W) (A:Option Addr) (c:Nat) (hr:Rd W 2 A 1 (ivC [s])) (hb:h.length+1≤1000000000000):
 ∃S' w',(Builtin.append_ #[91,91] 91 #[S,.slice A 1 c]).run Tryz.prog W=.ok S' w'∧(∃gS cS,S'=.slice (some ⟨gS,0,none⟩) (h.length+1) cS)∧Below base W w'∧W.heap.size≤w'.heap.size∧w'.cell? ⟨g,v.length*3+2,none⟩=some S∧w'.frozen? ⟨g,v.length*3+2,none⟩=false∧W.grownBy w' S.ownBlock∧(∀k,S.ownBlock=some k→base≤k∧∃C fr,W.heap[k]?=some (.cells C 89 fr))∧
  ∀w2,w'.grownBy w2 none→EntO (w2.setCell ⟨g,v.length*3+2,none⟩ S') base (.slice (some ⟨g,0,none⟩) (v.length+1) cap) v r m (h++[s]):=by
 have hE':=hE.later hW;obtain⟨lim,ss,S0,h1,h2,h3,h4,h5,h6⟩:=hE;have hl:=zds h4.1
 have e0:S0=S:=by
  have:=h3.cells (g:=g) rfl (v.length*3+2) S0 (by rw[List.getElem?_append_right (by omega),hl,Nat.add_sub_cancel_left];rfl);rw[ye,Nat.zero_add,hS] at this;injection this with this;exact this.symm
 subst e0;have k3:=zx h3 hW;have k6:=zx h6 hW;have k4:HolesT W 0 v ss:=zbv h4 h5 fun k _ hk=>.inl (hW.block k hk)
 obtain⟨S',w',hrun,ho,hg,hat⟩:=zd5 lim S0 h.length h k6 A c s hr hb (Nat.le_trans h2 hW.size);have hne:S0.ownBlock≠some g:=fun e=>kd k3 k6 (by decide) g rfl e
 have e3:w'.ownsRow base 93 3 (.slice (some ⟨g,0,none⟩) (v.length+1) cap) (v.length+1) (jr v ss++[.int .u64 ((r:Nat):Int),.int .u64 ((m:Nat):Int),S0]):=yu k3 fun k hk=>by
  have e:g=k:=by simpa [Value.ownBlock] using hk
  subst e;exact hg.block g (k3.lt g rfl).2 fun e=>hne e.symm
 have e4:HolesT w' 0 v ss:=zbv k4 h5 fun k hk hw=>.inl (hg.block k hw fun e=>by
  have:=(k6.lt k e.symm).1;omega)
 have hat2:∀k,S0.ownBlock=some k→base≤k∧∃C fr,W.heap[k]?=some (.cells C 89 fr):=fun k hk=>⟨Nat.le_trans h1 (k6.lt k hk).1,by
  rcases k6.2 with ⟨rfl,_⟩ | ⟨b,cap',cur,rfl,_,hh,_⟩
  · cases hk
  · have e:b=k:=by simpa [Value.ownBlock] using hk
    subst e;exact⟨_,_,hh⟩⟩
 have hcell:w'.cell? ⟨g,v.length*3+2,none⟩=some S0:=by
  have:=e3.cells (g:=g) rfl (v.length*3+2) S0 (by rw[List.getElem?_append_right (by omega),hl,Nat.add_sub_cancel_left];rfl);rw[ye,Nat.zero_add] at this;exact this
 obtain⟨gS,cS,eS,-⟩:=zan ho (Nat.succ_pos _);refine⟨S',w',hrun,⟨gS,cS,eS⟩,⟨hg.os,hg.tape,hg.output,hg.size,fun k hk=>hg.block k (by have:=hW.size;omega) fun e=>by have:=(hat2 k e.symm).1;omega⟩,hg.size,hcell,e3.frozenAt _,hg,hat2,fun w2 h2'=>?_⟩;have f3:w2.ownsRow base 93 3 (.slice (some ⟨g,0,none⟩) (v.length+1) cap) (v.length+1) (jr v ss++[.int .u64 ((r:Nat):Int),.int .u64 ((m:Nat):Int),S0]):=yu e3 fun k hk=>h2'.block k (e3.lt k hk).2 (by simp)
 have f6:w2.ownsRow lim 89 2 S' (h.length+1) (ivC (h++[s])):=yu ho fun k hk=>h2'.block k (ho.lt k hk).2 (by simp)
 have f4:HolesT w2 0 v ss:=zbv e4 h5 fun k _ hk=>.inl (h2'.block k hk (by simp))
 obtain⟨k1,k2⟩:=f3.stored (v.length*3+2) S';rw[List.set_append_right _ _ (by omega),hl,Nat.add_sub_cancel_left] at k1
 have hrow:∃C fr,w2.heap[g]?=some (.cells C 93 fr):=by
  rcases f3.2 with ⟨h',_⟩ | ⟨g',cap',cur,h',_,hh,_⟩
  · cases h'
  · cases h';exact⟨_,_,hh⟩
 obtain⟨C,fr,hrow⟩:=hrow;refine⟨lim,ss,S',h1,Nat.le_trans h2 (Nat.le_trans hW.size (Nat.le_trans hg.size (Nat.le_trans h2'.size k2.size))),k1,zbv f4 h5 fun k _ hk=>?_,h5,?_⟩
 · by_cases e:k=g
   · subst e;exact .inr ⟨C,93,fr,by decide,hrow⟩
   · exact .inl (k2.block k hk fun e'=>e (by injection e'))
 · have hne2:∀k,S'.ownBlock=some k→k≠g:=fun k hk e=>kd f3 f6 (by decide) g rfl (by rw[←e];exact hk)
   have f7:=yu (w':=w2.setCell ⟨g,v.length*3+2,none⟩ S') f6 fun k hk=>k2.block k (f6.lt k hk).2 fun e=>hne2 k hk (by injection e)
   have e7:(h++[s]).length=h.length+1:=by simp
   rw[e7];exact f7
theorem EntO.close {w:World} {base:Nat} {V:Value} {v:Vec} {r m:Nat} {h:List Iv} (hE:EntO w base V v r m h) (hl:yg h):OwnV w base V (v++[(r,m,h)]):=by
 obtain⟨lim,ss,S,h1,h2,h3,h4,h5,h6⟩:=hE;obtain⟨a,c,rfl,hI⟩:=zhv (base':=0) h6 hl;refine⟨ss++[.slice a h.length c],?_,h4.snoc (e:=(r,m,h)) hI⟩;rw[zhw h4.1,List.length_append];exact h3
theorem OwnV.open {w:World} {base:Nat} {V:Value} {v:Vec} (hV:OwnV w base V v) (r:Nat) (A:Option Addr) (c:Nat) (hr:Rd w 3 A 1 [.int .u64 ((r:Nat):Int),.int .u64 0,.slice none 0 0]) (hb:v.length+1≤1000000000000) (hbase:base≤w.heap.size):
 ∃V' w',(Builtin.append_ #[95,95] 95 #[V,.slice A 1 c]).run Tryz.prog w=.ok V' w'∧EntO w' base V' v r 0 []∧w.grownBy w' V.ownBlock∧(∀k,V.ownBlock=some k→base≤k):=by
 obtain⟨ss,ho,hh⟩:=hV;obtain⟨V',w',h1,h2,h3⟩:=za4 base _ _ _ _ 3 40 Tryz.underlying95 Tryz.info_ent rfl (by omega) V v.length _ ho A 1 c _ hr (by simp[Value.oneCell']) (by unfold maxLen;omega) (by omega) hbase;have hs:Steady base zdq w w':=.grown ho h3 (show ¬(93:TypeId)=89 by decide);exact⟨V',w',h1,⟨w.heap.size,ss,.slice none 0 0,hbase,h3.size,h2,hh.steady (hs.lower (Nat.zero_le _)) rfl,zqw hh,World.ownsRow_nil _ _ _ _⟩,h3,fun k hk=>(ho.lt k hk).1⟩
end
section
abbrev za:=Int×Int×Int×Int×Int
structure WS where
 tag:Nat
 vs:List Vec
 l:List Iv
 ix:List Nat
 left:Nat
 frm:Nat
 inner:PS
 turn:Nat
 lo:Nat
 hi:Nat
 tch:Bool
def ws0:WS:=⟨0,[],[],[],0,0,ps0,0,0,0,false⟩
def qu (E:Nat) (s:WS) (next:Nat):Except (Nat×Nat) WS:=
 if (∃f∈zt s.vs s.l s.ix,f.1=[]) then .error (10,next) else if next<E then .error (11,next) else .ok { s with tag:=4 }
def qd (s:WS) (p:Nat):Nat:=if s.inner.tag=0 then p else s.frm
def zr (E:Nat) (L:za) (s:WS) (x p q:Nat):Except (Nat×Nat) WS:=
 match s.tag with
 | 0=>if zl x L.2.1 (E - q)≠0 then .error (zl x L.2.1 (E - q),p) else if x=0 then .ok { s with tag:=2 } else .ok { s with tag:=1,left:=x,inner:=ps0 }
 | 1=>match zm L.2.2.1 L.2.2.2.1 s.inner x (E - q) with
   | .error c=>.error (c,p)
   | .ok i=>if i.tag=6 then
      if qt s.vs i.v=true then .error (3,qd s p) else if s.left=1 then .ok { s with tag:=2,vs:=s.vs++[i.v],left:=0,inner:=ps0 } else .ok { s with vs:=s.vs++[i.v],left:=s.left - 1,inner:=ps0 }
     else .ok { s with frm:=qd s p,inner:=i }
 | 2=>if zl x L.2.2.2.2 (E - q)≠0 then .error (zl x L.2.2.2.2 (E - q),p) else if x=0 then qu E s q else .ok { s with tag:=3,left:=x,turn:=0 }
 | 3=>match s.turn with
   | 0=>match loP (yk s.l) 0 x with | none=>.error (8,p) | some lo=>.ok { s with turn:=1,lo:=lo,tch:=kq s.l lo }
   | 1=>if s.lo+x<18446744073709551616 then .ok { s with turn:=2,hi:=s.lo+x } else .error (8,p)
   | _=>if s.vs.length≤x then .error (8,p) else if s.tch=true∧s.ix.getLast?=some x then .error (10,p) else
     if s.left=1 then qu E { s with l:=s.l++[(s.lo,s.hi)],ix:=s.ix++[x],left:=0,turn:=0 } q
     else .ok { s with l:=s.l++[(s.lo,s.hi)],ix:=s.ix++[x],left:=s.left - 1,turn:=0 }
 | _=>.ok s
def j9 (T:zg) (E:Nat) (L:za) (s:WS) (p:Nat):RR Kno:=
 match s.tag with
 | 0=>yl T E L p
 | 1=>thn (zar T E L.2.2.1 L.2.2.2.1 s.inner p) fun v q=>if qt s.vs v=true then .error (3,qd s p) else thn (yw T E L.2.2.1 L.2.2.2.1 (s.left - 1) (s.vs++[v]) q) fun vs q=>vz T E L.2.2.2.2 vs q
 | 2=>vz T E L.2.2.2.2 s.vs p
 | 3=>match s.turn with
   | 0=>thn (yq T s.vs.length s.left s.l s.ix p) fun r q=>jv E (zt s.vs r.1 r.2) q
   | 1=>thn (hiP T s.lo p) fun i q=>kr T s.vs.length s.tch s.ix q fun x r=>thn (yq T s.vs.length (s.left - 1) (s.l++[i.1]) (s.ix++[x]) r) fun r q=>jv E (zt s.vs r.1 r.2) q
   | _=>kr T s.vs.length s.tch s.ix p fun x r=>thn (yq T s.vs.length (s.left - 1) (s.l++[(s.lo,s.hi)]) (s.ix++[x]) r) fun r q=>jv E (zt s.vs r.1 r.2) q
 | _=>.ok (zt s.vs s.l s.ix,p)
structure WInv (s:WS):Prop where
 tag:s.tag≤4
 turn:s.turn≤2
 left:s.tag=1∨s.tag=3→0<s.left
 inner:s.tag=1→s.inner.tag<6∧(1≤s.inner.tag→0<s.inner.ents)
 fresh:s.tag=0→s.vs=[]
 none:s.tag<3→s.l=[]∧s.ix=[]
theorem zi4 (T:zg) (E:Nat) (L:za) (s:WS) (q:Nat):(match qu E s q with | .error e=>.error e | .ok s'=>j9 T E L s' q)=jv E (zt s.vs s.l s.ix) q:=by
 unfold qu jv;by_cases h:∃f∈zt s.vs s.l s.ix,f.1=[]
 · rw[if_pos h,if_pos h]
 · rw[if_neg h,if_neg h];by_cases h1:q<E
   · rw[if_pos h1,if_pos h1]
   · rw[if_neg h1,if_neg h1];rfl
theorem zqx {α β:Type} (T:zg) (N:Nat) (tch:Bool) (ix:List Nat) (q:Nat) (f:Nat→Nat→RR α) (g:α→Nat→RR β):thn (kr T N tch ix q f) g=kr T N tch ix q fun x r=>thn (f x r) g:=by
 unfold kr;rw[qc];refine jf fun x r=>?_
 split
 · rfl
 · split <;> rfl
theorem zqy (T:zg) (E:Nat) (le lh:Int) (i:PS) (q:Nat) (h:i.tag=6):zar T E le lh i q=.ok (i.v,q):=by
 obtain⟨tag,v,rep,mx,hh,ents,hls,lo⟩:=i;simp only at h;subst h
 rfl
theorem zfw (T:zg) (E:Nat) (L:za) (s:WS) (p:Nat) (hI:WInv s) (h4:s.tag<4):
 j9 T E L s p=thn (nmP T p) fun x q=>match zr E L s x p q with | .error e=>.error e | .ok s'=>j9 T E L s' q:=by
 obtain⟨h1,h2,h3,hin,hfr,hno⟩:=hI;obtain⟨tag,vs,l,ix,left,frm,inner,turn,lo,hi,tch⟩:=s;simp only at h1 h2 h3 hin h4 hfr hno;rcases(by omega:tag=0∨tag=1∨tag=2∨tag=3) with rfl | rfl | rfl | rfl
 · have:=hfr rfl;subst this;show thn (yz T E L.2.1 p) (fun n q=>thn (yw T E L.2.2.1 L.2.2.2.1 n [] q) fun vs q=>vz T E L.2.2.2.2 vs q)=_;unfold yz;rw[qc];refine jf fun x q=>?_
   simp only[zr];by_cases hc:zl x L.2.1 (E - q)=0
   · rw[if_pos hc,if_neg (fun h=>h hc),yh];by_cases hx:x=0
     · rw[if_pos hx];subst hx;rfl
     · rw[if_neg hx];obtain⟨n,rfl⟩:∃n,x=n+1:=⟨x - 1,by omega⟩;show _=thn (vy T E L.2.2.1 L.2.2.2.1 q) (fun v r=>if qt [] v=true then .error (3,q) else thn (yw T E L.2.2.1 L.2.2.2.1 (n+1 - 1) ([]++[v]) r) fun vs q=>vz T E L.2.2.2.2 vs q);rw[yw,qc];refine jf fun v r=>?_
       rfl
   · rw[if_neg hc,if_pos hc,vx]
 · obtain⟨i1,i2⟩:=hin rfl;have hl:=h3 (.inl rfl);show thn (zar T E L.2.2.1 L.2.2.2.1 inner p) (fun v q=>if qt vs v=true then .error (3,if inner.tag=0 then p else frm) else thn (yw T E L.2.2.1 L.2.2.2.1 (left - 1) (vs++[v]) q) fun vs q=>vz T E L.2.2.2.2 vs q)=_;rw[zql T E L.2.2.1 L.2.2.2.1 inner p i1 i2,qc];refine jf fun x q=>?_
   simp only[zr]
   cases hp:zm L.2.2.1 L.2.2.2.1 inner x (E - q) with
   | error c=>rfl
   | ok i=>
    simp only;obtain⟨k1,k2,k3⟩:=zct i1 i2 hp;by_cases h6:i.tag=6
    · rw[if_pos h6,zqy _ _ _ _ _ _ h6,yh];by_cases ho:qt vs i.v=true
      · rw[if_pos ho,if_pos ho];rfl
      · rw[if_neg ho,if_neg ho];by_cases hl1:left=1
        · rw[if_pos hl1];subst hl1;rfl
        · rw[if_neg hl1];obtain⟨n,rfl⟩:∃n,left=n+2:=⟨left - 2,by omega⟩;show thn (yw T E L.2.2.1 L.2.2.2.1 (n+1) (vs++[i.v]) q) (fun vs q=>vz T E L.2.2.2.2 vs q)=thn (vy T E L.2.2.1 L.2.2.2.1 q) (fun v r=>if qt (vs++[i.v]) v=true then .error (3,q) else thn (yw T E L.2.2.1 L.2.2.2.1 (n+1 - 1) (vs++[i.v]++[v]) r) fun vs q=>vz T E L.2.2.2.2 vs q);rw[yw,qc];refine jf fun v r=>?_
          split <;> rfl
    · rw[if_neg h6];show _=thn (zar T E L.2.2.1 L.2.2.2.1 i q) (fun v r=>if qt vs v=true then .error (3,if i.tag=0 then q else if inner.tag=0 then p else frm) else thn (yw T E L.2.2.1 L.2.2.2.1 (left - 1) (vs++[v]) r) fun vs q=>vz T E L.2.2.2.2 vs q);rw[show (if i.tag=0 then q else if inner.tag=0 then p else frm)=(if inner.tag=0 then p else frm) from if_neg (by omega)]
 · obtain⟨rfl,rfl⟩:=hno (by omega);show thn (yz T E L.2.2.2.2 p) (fun m q=>thn (yq T vs.length m [] [] q) fun s q=>jv E (zt vs s.1 s.2) q)=_;unfold yz;rw[qc];refine jf fun x q=>?_
   simp only[zr];by_cases hc:zl x L.2.2.2.2 (E - q)=0
   · rw[if_pos hc,if_neg (fun h=>h hc),yh];by_cases hx:x=0
     · rw[if_pos hx,zi4];subst hx;rfl
     · rw[if_neg hx];rfl
   · rw[if_neg hc,if_pos hc,vx]
 · have hl:=h3 (.inr rfl);rcases(by omega:turn=0∨turn=1∨turn=2) with rfl | rfl | rfl
   · obtain⟨n,rfl⟩:∃n,left=n+1:=⟨left - 1,by omega⟩;show thn (yq T vs.length (n+1) l ix p) (fun r q=>jv E (zt vs r.1 r.2) q)=_;rw[yq,ivP,qc,qc];refine jf fun x q=>?_
     simp only[zr]
     cases loP (yk l) 0 x with
     | none=>rfl
     | some lo=>
      show thn (hiP T lo q) _=thn (hiP T lo q) (fun i r=>kr T vs.length (kq l lo) ix r fun x r=>thn (yq T vs.length (n+1 - 1) (l++[i.1]) (ix++[x]) r) fun r q=>jv E (zt vs r.1 r.2) q);unfold hiP;rw[qc,qc];refine jf fun y r=>?_
      by_cases hb:lo+y<18446744073709551616
      · rw[if_pos hb,yh,yh,zqx];rfl
      · rw[if_neg hb];rfl
   · show thn (hiP T lo p) (fun i q=>kr T vs.length tch ix q fun x r=>thn (yq T vs.length (left - 1) (l++[i.1]) (ix++[x]) r) fun r q=>jv E (zt vs r.1 r.2) q)=_;unfold hiP;rw[qc];refine jf fun x q=>?_
     simp only[zr];by_cases hb:lo+x<18446744073709551616
     · rw[if_pos hb,if_pos hb];rfl
     · rw[if_neg hb,if_neg hb];rfl
   · show thn (nmP T p) (fun x r=>if vs.length≤x then .error (8,p) else if tch=true∧ix.getLast?=some x then .error (10,p) else thn (yq T vs.length (left - 1) (l++[(lo,hi)]) (ix++[x]) r) fun r q=>jv E (zt vs r.1 r.2) q)=_;refine jf fun x q=>?_
     simp only[zr];by_cases h8:vs.length≤x
     · rw[if_pos h8,if_pos h8]
     · rw[if_neg h8,if_neg h8];by_cases h10:tch=true∧ix.getLast?=some x
       · rw[if_pos h10,if_pos h10]
       · rw[if_neg h10,if_neg h10];by_cases hl1:left=1
         · rw[if_pos hl1,zi4];subst hl1;rfl
         · rw[if_neg hl1];rfl
theorem zd6 {E:Nat} {L:za} {s s':WS} {x p q:Nat} (hI:WInv s) (h4:s.tag<4) (h:zr E L s x p q=.ok s'):WInv s':=by
 obtain⟨h1,h2,h3,hin,hfr,hno⟩:=hI
 have fin:∀t:WS,t.turn≤2→∀t',qu E t q=.ok t'→WInv t':=fun t ht t' h=>by
  unfold qu at h;split at h
  · cases h
  · split at h
    · cases h
    · cases h;exact⟨by simp,ht,fun h=>by simp at h,fun h=>by simp at h,fun h=>by simp at h,fun h=>by simp at h⟩
 obtain⟨tag,vs,l,ix,left,frm,inner,turn,lo,hi,tch⟩:=s;simp only at h1 h2 h3 hin h4 hfr hno;rcases(by omega:tag=0∨tag=1∨tag=2∨tag=3) with rfl | rfl | rfl | rfl <;> simp only[zr] at h
 · obtain⟨n1,n2⟩:=hno (by omega);split at h
   · cases h
   · split at h
     · cases h;exact⟨by simp,h2,fun h=>by simp at h,fun h=>by simp at h,fun h=>by simp at h,fun _=>⟨n1,n2⟩⟩
     · cases h;exact⟨by simp,h2,fun _=>by simp only;omega,fun _=>⟨by simp[ps0],fun h=>by simp[ps0] at h⟩,fun h=>by simp at h,fun _=>⟨n1,n2⟩⟩
 · obtain⟨n1,n2⟩:=hno (by omega);obtain⟨i1,i2⟩:=hin rfl;have hl:=h3 (.inl rfl)
   cases hp:zm L.2.2.1 L.2.2.2.1 inner x (E - q) with
   | error c=>rw[hp] at h;cases h
   | ok i=>
    rw[hp] at h;simp only at h;obtain⟨k1,k2,k3⟩:=zct i1 i2 hp;split at h
    · split at h
      · cases h
      · split at h
        · cases h;exact⟨by simp,h2,fun h=>by simp at h,fun h=>by simp at h,fun h=>by simp at h,fun _=>⟨n1,n2⟩⟩
        · cases h;exact⟨by simp,h2,fun _=>by simp only;omega,fun _=>⟨by simp[ps0],fun h=>by simp[ps0] at h⟩,fun h=>by simp at h,fun _=>⟨n1,n2⟩⟩
    · cases h;exact⟨by simp,h2,fun _=>hl,fun _=>⟨by simp only;omega,fun _=>k2 k3 (by omega)⟩,fun h=>by simp at h,fun _=>⟨n1,n2⟩⟩
 · split at h
   · cases h
   · split at h
     · exact fin _ h2 _ h
     · cases h;exact⟨by simp,by simp,fun _=>by simp only;omega,fun h=>by simp at h,fun h=>by simp at h,fun h=>by simp at h⟩
 · have hl:=h3 (.inr rfl);rcases(by omega:turn=0∨turn=1∨turn=2) with rfl | rfl | rfl <;> simp only at h
   · cases hq:loP (yk l) 0 x with
     | none=>rw[hq] at h;cases h
     | some lo=>rw[hq] at h;cases h;exact⟨by simp,by simp,fun _=>hl,fun h=>by simp at h,fun h=>by simp at h,fun h=>by simp at h⟩
   · split at h
     · cases h;exact⟨by simp,by simp,fun _=>hl,fun h=>by simp at h,fun h=>by simp at h,fun h=>by simp at h⟩
     · cases h
   · split at h
     · cases h
     · split at h
       · cases h
       · split at h
         · exact fin _ (by simp) _ h
         · cases h;exact⟨by simp,by simp,fun _=>by simp only;omega,fun h=>by simp at h,fun h=>by simp at h,fun h=>by simp at h⟩
theorem zqz:WInv ws0:=⟨by simp[ws0],by simp[ws0],fun h=>by simp[ws0] at h,fun h=>by simp[ws0] at h,fun _=>rfl,fun _=>⟨rfl,rfl⟩⟩
