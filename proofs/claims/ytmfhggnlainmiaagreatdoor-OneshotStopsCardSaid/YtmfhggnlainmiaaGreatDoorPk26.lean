/- Part 26. -/
import Derived.Test.YtmfhggnlainmiaaGreatDoorPk21
import Derived.Test.YtmfhggnlainmiaaGreatDoorPk20
set_option linter.unusedVariables false
set_option maxHeartbeats 16000000
namespace Go.Proofs.YtmfhggnlainmiaaGreatDoor
open Lib (hid)
section
theorem zs0:kp (fun _=>[0,0]) 1=zaa [0,0]:=rfl
end
section
open Go.RowKit Go.Maps
theorem ycx (x:Value) (w:World):Calls Tryz.prog 319 #[x,.int .i64 0,.int .i64 1] w fun e w'=>e=.returned (.tuple #[])∧w'=w:=by
 go_enter Tryz.func319,Tryz.ntmps319;go_wp2;go_loopw [6,7] (fun i _ wr=>i=.int .i64 1∧wr=w) (fun _ _ _=>0)
 case atStart=>exact⟨rfl,rfl⟩
 case round=>
  obtain⟨rfl,rfl⟩:=hrel;go_wp2;go_end0
  exact⟨rfl,rfl⟩
theorem ycy (x l:Value) (w:World):Calls Tryz.prog 294 #[x,.int .i64 0,.int .i64 1,l] w fun e w'=>e=.returned (.tuple #[])∧w'=w:=by
 go_enter Tryz.func294,Tryz.ntmps294;go_wp2;go_loopw [1,2,3,8,9,10,11,12,13,14,15,16,17,18] (fun a b _ _ _ _ _ _ _ _ _ _ _ _ wr=>a=.int .i64 0∧b=.int .i64 1∧wr=w) (fun _ _ _ _ _ _ _ _ _ _ _ _ _ _ _=>0)
 case atStart=>exact⟨rfl,rfl,rfl⟩
 case round=>
  obtain⟨rfl,rfl,rfl⟩:=hrel;go_wp2_with (go_at_call 319;refine(ycx _ _).mono ?_;rintro e w' ⟨rfl,rfl⟩);exact bodyPost_ret (results_none rfl _ _ _) rfl ⟨rfl,rfl⟩
theorem ycz (a:Option Addr) (c:Nat) (w:World):Calls Tryz.prog 251 #[.slice a 1 c] w fun e w'=>e=.returned (.tuple #[])∧w'=w:=by
 have Hl:=hid (fun w=>Tryz.bits_Len (1:Int) w (by omega) (by omega));have wr:IntKind.u64.wrap (1:Int)=1:=rfl;go_enter Tryz.func251,Tryz.ntmps251;go_wp2_with (first | (go_at_call 240;refine(Hl.out _).mono ?_;rintro e w' ⟨rfl,rfl⟩) | (go_at_call 294;refine(ycy _ _ _).mono ?_;rintro e w' ⟨rfl,rfl⟩));go_end0
 exact⟨rfl,rfl⟩
theorem yc0 (t:Nat) (w:World):Calls Tryz.prog 194 #[.slice none 0 0,.int .u64 t] w fun e w'=>(∃a c,e=.returned (.slice a 0 c))∧Below w.heap.size w w':=by
 refine(zrx none 0 0 t [] w (zhj w) (fun f hf=>by cases hf) (by omega)).mono ?_;rintro e w' ⟨⟨y,rfl,ho⟩,hb⟩;obtain⟨a,c,rfl⟩:=jh ho;exact⟨⟨a,c,rfl⟩,hb⟩
def yc1 (D:DataW Value):Prop:=∀r:Nat,Maps.has D (.int .u64 (r:Int))=true↔r=0
set_option maxRecDepth 100000 in
theorem yc2 (w:World):
 Calls Tryz.prog 193 #[.slice none 0 0] w fun e w'=>(∃y,e=.returned y∧w'.ownsRow w.heap.size 64 1 y 1 (zi [0]))∧Below w.heap.size w w':=by
 have hmm:=@run_makeMap Tryz.prog;obtain⟨B,hBe⟩:∃B,B=w.heap.size:=⟨_,rfl⟩;have HBe:=hid hBe;have Hm0:=hid (show (w.alloc (.map #[] 0)).ownsMap Tryz.prog 64 rB B 0 (.map []) from by rw[hBe];exact World.ownsMap_made _ _ _ _);have Hb0:=hid (show Below B w (w.alloc (.map #[] 0)) from by rw[hBe];exact(Below.refl _ _).alloc (Nat.le_refl _) _);have hkz:keyOf Tryz.prog 64 (.int .u64 0)=some (.int .u64 0):=zhh (x:=0) (by omega);go_enter Tryz.func193,Tryz.ntmps193;go_wp2_with (first | (rw[←hBe];refine zw8 _ rfl _ _ _ 338 rfl 64 4 zdu Tryz.underlying338 rB B 0 (.map []) rfl Hm0.out (by unfold maxLen;omega) _ _ _ rfl rfl hkz (.lit (.bool true)) [] rfl ?_;intro w1 ho1 hg1));have Hb1:=hid (Hb0.out.grown hg1 (by have:=Hm0.out.lt;omega) (fun k hk=>by cases hk;exact Nat.le_refl _));obtain⟨D,hD⟩:∃D,D=(DataW.map (H:=Value) []).put (.int .u64 0) (.lit (.bool true)):=⟨_,rfl⟩
 have HD:=hid (show yc1 D from fun r=>by
  rw[hD,show Lit.int .u64 (0:Int)=Lit.int .u64 ((0:Nat):Int) from rfl];by_cases e:r=0
  · subst e;rw[has_put_same isMap_empty (show WideAt.IsKeyLit (.int .u64 ((0:Nat):Int)) from trivial)];simp
  · rw[has_put_other (zhi (r:=r) (x:=0) e)];simp[e,Maps.has])
 rw[←hD] at ho1;have Ho1:=hid ho1;clear ho1 hg1 hBe Hm0 Hb0 hD;go_wp2;rw[←HBe.out];go_loopw [5,7,8,9,19,26] (fun _ _ _ _ i _ wr=>i=.int .i64 0∧wr=w1) (fun _ _ _ _ _ _ _=>0)
 case atStart=>exact⟨rfl,rfl⟩
 case round=>
  obtain⟨rfl,rfl⟩:=hrel;go_wp2_with (at_range;refine wpList_range_own _ rfl _ _ rfl 64 4 zdu Tryz.underlying338 rB B _ D rfl Ho1.out ?_;intro w3 hrg3 hg3 hs3);go_frame
  obtain⟨R,hR⟩:∃R,R=wr.heap.size:=⟨_,rfl⟩;rw[←hR] at hrg3 ⊢;have hBR:B<R:=by rw[hR];exact Ho1.out.lt
  have Hb3:=hid (Hb1.out.grown hg3 (by omega) (fun k hk=>by cases hk));have Hrg3:=hid hrg3;clear hR hrg3 hg3 hs3 Ho1 Hb1;go_loopw [10,11,12] (fun _ _ _ wr=>∃(left:Lit→Bool) (cnt:Nat),Hid (wr.ranges Tryz.prog 64 rB B R _ D left cnt)∧Hid (Below B w wr)) (fun _ _ _ wr=>wr.rangeLeft B R)
  case atStart=>exact⟨_,_,Hrg3.out,Hb3.out⟩
  case round=>
   obtain⟨left,cnt,Hrg,Hb⟩:=hrel;have Hrg:=hid Hrg.out;go_wp2_with (at_next;refine zld rfl _ rfl rB B R _ D left cnt rfl Hrg.out ?_ ?_)
   · intro hl0;have Hown:=hid Hrg.out.owns;clear hl0 Hrg Hb3 Hrg3;go_wp2_with (at_range;refine wpList_range_own _ rfl _ _ rfl 64 4 zdu Tryz.underlying338 rB B _ D rfl Hown.out ?_;intro w3 hrg3 hg3 hs3);go_frame
     obtain⟨R2,hR2⟩:∃R2,R2=wr.heap.size:=⟨_,rfl⟩;rw[←hR2] at hrg3 hs3 ⊢;have hBR2:B<R2:=by rw[hR2];exact Hown.out.lt
     have Hb3:=hid (Hb.out.grown hg3 (by omega) (fun k hk=>by cases hk));have Hrg3:=hid hrg3;have Hs3:=hid hs3;clear hR2 hrg3 hg3 hs3 Hown Hb;go_loopw [13,14] (fun y _ wr=>∃(left:Lit→Bool) (cnt:Nat) (L:List Nat),Hid (wr.ranges Tryz.prog 64 rB B R2 _ D left cnt)∧Hid (Coll D left L)∧Hid (wr.ownsRow (R2+1) 64 1 y L.length (zi L))∧Hid (Below B w wr)∧R2+1≤wr.heap.size) (fun _ _ wr=>wr.rangeLeft B R2)
     case atStart=>exact⟨_,_,[],Hrg3.out,Coll.start D,World.ownsRow_nil _ _ _ _,Hb3.out,by rw[Hs3.out];exact Nat.le_refl _⟩
     case round=>
      obtain⟨left,cnt,L,Hrg,HC,Ho,Hb,hsw⟩:=hrel;have Hrg:=hid Hrg.out
      have Hlen:=hid (show L.length≤1 from by
       have hz:∀x∈L,x=0:=fun x hx=>(HD.out x).1 ((HC.out.mem x).1 hx).1
       have hn:=HC.out.nodup;rcases L with _ | ⟨x,_ | ⟨y,l⟩⟩
       · simp
       · simp
       · exfalso;rw[List.nodup_cons] at hn;exact hn.1 (by rw[hz x (by simp),←hz y (by simp)];simp))
      go_wp2_with (at_next;refine zld rfl _ rfl rB B R2 _ D left cnt rfl Hrg.out ?_ ?_)
      · intro hl0;have h0:0∈L:=(HC.out.mem 0).2 ⟨(HD.out 0).2 rfl,hl0 _⟩
        obtain rfl:L=[0]:=by
         have:=Hlen.out;rcases L with _ | ⟨x,_ | ⟨y,l⟩⟩
         · cases h0
         · rw[List.mem_singleton] at h0;rw[←h0]
         · simp at this
        have Ho2:=hid Ho.out;obtain⟨ya,yc,rfl⟩:=jh Ho.out;clear h0 hl0 HC Hrg Ho Hlen;go_wp2_with fail;refine(ycz _ _ _).mono ?_;rintro e w5 ⟨rfl,rfl⟩;go_wp2;go_ret;exact⟨⟨_,rfl,by rw[←HBe.out];exact qt Ho2.out (by omega)⟩,by rw[←HBe.out];exact Hb.out⟩
      · intro x u w4 cnt4 hx hlx hhx hrg4 hlt4 hg4 hs4 hen;have HC4:=hid (HC.out.step hhx hlx);have Hb4:=hid (Hb.out.grown hg4 (by have:=Hrg.out.owns.lt;omega) (fun k hk=>by cases hk;omega));have Ho4:=hid (j8 (w':=w4) Ho.out (fun k hk1 hk2=>hg4.block k hk2 (by simp;omega)));have Hrg4:=hid hrg4;have Hlt4:=hid hlt4;have hs4':R2+1≤w4.heap.size:=by omega
        have hal:Below w4.heap.size w4 (w4.alloc (.cells #[.int .u64 x] 64)):=(Below.refl _ _).alloc (Nat.le_refl _) _;have Hal:=hid hal;clear hlx hhx hrg4 hlt4 hg4 hs4 hal;go_wp2_with (at_builtin;refine zrp rfl _ _ rfl rfl (R2+1) _ L.length L rfl (zm Ho4.out Hal.out) _ 1 1 [x] rfl (yq (zh _ _ _ (by simp)) rfl rfl) (by have:=Hlen.out;omega) (by simp;omega) ?_;intro v' w5 ho5 hg5);have hsz5:=hg5.size;simp only[World.size_alloc] at hsz5;have hvr:∀j,j≤R2→some j≠Value.ownBlock _:=fun j hj e=>by have:=(Ho4.out.lt j e.symm).1;omega
        have Hrg5:=hid ((Hrg4.out.kept (zcq Hal.out) (by simp) (by simp)).kept hg5 (hvr B (by omega)) (hvr R2 (Nat.le_refl _)));have Hb5:=hid ((Hb4.out.trans (Hal.out.mono (by omega))).grown hg5 (by simp;omega) (fun k hk=>by have:=(Ho4.out.lt k hk).1;omega));have Ho5:=hid ho5;clear ho5 hg5 hvr;go_roundw
        case rel=>exact⟨_,cnt4,L++[x],Hrg5.out,HC4.out,by rw[List.length_append];exact Ho5.out,Hb5.out,by omega⟩
        case measure=>rw[Hrg5.out.left_eq,Hrg.out.left_eq];exact Hlt4.out
   · intro x u w4 cnt4 hx hlx hhx hrg4 hlt4 hg4 hs4 hen;have Hb4:=hid (Hb.out.grown hg4 (by have:=Hrg.out.owns.lt;omega) (fun k hk=>by cases hk;omega));have Hrg4:=hid hrg4;have Hlt4:=hid hlt4;obtain rfl:=(HD.out x).1 hhx;clear hlx hhx hrg4 hlt4 hg4 hs4;go_wp2_with fail;refine(zri 0 (by omega) _).mono ?_;rintro e w5 ⟨rfl,hb5⟩;have Hrg5:=hid (Hrg4.out.kept (zcq hb5) (by simp) (by simp));have Hb5:=hid (Hb4.out.trans (hb5.mono (by have:=Hrg4.out.owns.lt;omega)));clear hb5 hen;have hpz:zjs 0=none:=rfl;rw[hpz];simp only[zco,Option.getD,Option.isSome];go_wp2;go_roundw
     case rel=>exact⟨_,cnt4,Hrg5.out,Hb5.out⟩
     case measure=>rw[Hrg5.out.left_eq,Hrg.out.left_eq];exact Hlt4.out
end
section
open Go.RowKit
theorem yc3 (w:World):Calls Tryz.prog 122 #[.slice none 0 0] w fun e w'=>e=.returned (.slice none 0 0)∧Below w.heap.size w w':=by
 go_enter Tryz.func122,Tryz.ntmps122;go_wp2_with fail;refine(yc2 _).mono ?_;rintro e w1 ⟨⟨y,rfl,ho⟩,hb1⟩;obtain⟨ya,yc,rfl⟩:=jh ho;obtain⟨g,rfl,hg,hc1,hcell⟩:=zrk ho (by omega);have hcell0:w1.cell? ⟨g,0,none⟩=some (.int .u64 0):=hcell 0 (by omega);have Hb1:=hid hb1;have Hc:=hid hcell0;have Hg:=hid hg;clear ho hb1 hcell hcell0;go_wp2_with fail;go_loopw [3,12] (fun v i wr=>∃k:Nat,k≤1∧v=.slice none 0 0∧i=.int .i64 k∧Hid (Below w.heap.size w wr)∧Hid (wr.cell? ⟨g,0,none⟩=some (.int .u64 0))) (fun _ i _=>1 - (intOf i).toNat)
 case atStart=>exact⟨0,by omega,rfl,rfl,Hb1,Hc⟩
 case round=>
  obtain⟨k,hk,rfl,rfl,hb,hc⟩:=hrel;rcases(by omega:k=0∨k=1) with rfl | rfl
  · have hcc:=hc.out;go_wp2_with fail;refine(yc0 0 _).mono ?_;rintro e w2 ⟨⟨ma,mc,rfl⟩,hb2⟩;have Hb2:=hid (hb.out.trans (hb2.mono hb.out.size));have Hc2:=hid ((hb2.cell (p:=⟨g,0,none⟩) (zf hcc)).trans hcc);clear hb2 hcc;go_wp2_with fail;go_roundw
    case rel=>exact⟨1,by omega,rfl,rfl,Hb2,Hc2⟩
    case measure=>simp[intOf]
  · go_wp2_with fail;go_ret;exact⟨rfl,hb.out⟩
theorem yc4 (w:World):Calls Tryz.prog 71 #[.slice none 0 0] w fun e w'=>e=.returned (.slice none 0 0)∧Below w.heap.size w w':=by
 go_enter Tryz.func71,Tryz.ntmps71;go_wp2_with fail;refine(yc3 _).mono ?_;rintro e w1 ⟨rfl,hb1⟩;have Hb1:=hid hb1;clear hb1;go_wp2_with fail;go_loopw [3,9] (fun v i wr=>v=.slice none 0 0∧i=.int .i64 0∧wr=w1) (fun _ _ _=>0)
 case atStart=>exact⟨rfl,rfl,rfl⟩
 case round=>
  obtain⟨rfl,rfl,rfl⟩:=hrel;go_wp2_with fail;go_ret;exact⟨rfl,Hb1.out⟩
theorem yc5 (w:World):Calls Tryz.prog 70 #[.slice none 0 0] w fun e w'=>e=.returned (.slice none 0 0)∧Below w.heap.size w w':=by
 go_enter Tryz.func70,Tryz.ntmps70;go_wp2_with fail;go_loopw [11] (fun i wr=>i=.int .i64 0∧Hid (Below w.heap.size w wr)∧Hid (wr.cell? ⟨w.heap.size,0,none⟩=some (.slice none 0 0))) (fun _ _=>0)
 case atStart=>exact⟨rfl,hid ((Below.refl _ _).alloc (Nat.le_refl _) _),hid ((y7 w _ [.slice none 0 0]).cell 0 rfl)⟩
 case round=>
  obtain⟨rfl,hb,hc⟩:=hrel;have c0:=hc.out;go_wp2_with fail;go_ret;exact⟨rfl,hb.out⟩
theorem yc6 (w:World):Calls Tryz.prog 26 #[.slice none 0 0] w fun e w'=>e=.returned (.slice none 0 0)∧Below w.heap.size w w':=by
 go_enter Tryz.func26,Tryz.ntmps26;go_wp2_with fail;refine(yc4 _).mono ?_;rintro e w1 ⟨rfl,hb1⟩;have Hb1:=hid hb1;clear hb1;go_wp2_with fail;refine(yc5 _).mono ?_;rintro e w2 ⟨rfl,hb2⟩;have Hb2:=hid (Hb1.out.trans (hb2.mono Hb1.out.size));clear hb2;go_wp2_with fail;go_ret;exact⟨rfl,Hb2.out⟩
theorem yc7 (x f:Value) (w:World):Calls Tryz.prog 281 #[x,.int .i64 0,.int .i64 0,f] w fun e w'=>e=.returned (.tuple #[])∧w'=w:=by
 go_enter Tryz.func281,Tryz.ntmps281;go_wp2;go_loopw [8,9] (fun i _ wr=>i=.int .i64 1∧wr=w) (fun _ _ _=>0)
 case atStart=>exact⟨rfl,rfl⟩
 case round=>
  obtain⟨rfl,rfl⟩:=hrel;go_wp2;go_end0
  exact⟨rfl,rfl⟩
theorem yc8 (x l f:Value) (w:World):Calls Tryz.prog 239 #[x,.int .i64 0,.int .i64 0,l,f] w fun e w'=>e=.returned (.tuple #[])∧w'=w:=by
 go_enter Tryz.func239,Tryz.ntmps239;go_wp2;go_loopw [1,2,3,10,11,12,13,14,15,16,17,18,19,20] (fun a b _ _ _ _ _ _ _ _ _ _ _ _ wr=>a=.int .i64 0∧b=.int .i64 0∧wr=w) (fun _ _ _ _ _ _ _ _ _ _ _ _ _ _ _=>0)
 case atStart=>exact⟨rfl,rfl,rfl⟩
 case round=>
  obtain⟨rfl,rfl,rfl⟩:=hrel;go_wp2_with (go_at_call 281;refine(yc7 _ _ _).mono ?_;rintro e w' ⟨rfl,rfl⟩);exact bodyPost_ret (results_none rfl _ _ _) rfl ⟨rfl,rfl⟩
theorem yc9 (f:Value) (w:World):Calls Tryz.prog 175 #[.slice none 0 0,f] w fun e w'=>e=.returned (.tuple #[])∧w'=w:=by
 have Hl:=hid (fun w=>Tryz.bits_Len (0:Int) w (by omega) (by omega));have wr:IntKind.u64.wrap (0:Int)=0:=rfl;go_enter Tryz.func175,Tryz.ntmps175;go_wp2_with (first | (go_at_call 240;refine(Hl.out _).mono ?_;rintro e w' ⟨rfl,rfl⟩) | (go_at_call 239;refine(yc8 _ _ _ _).mono ?_;rintro e w' ⟨rfl,rfl⟩));go_end0
 exact⟨rfl,rfl⟩
set_option maxRecDepth 20000 in
theorem yda (w:World):Calls Tryz.prog 109 #[.slice none 0 0] w fun e w'=>(∃a c,e=.returned (.tuple #[.slice none 0 0,.slice a 0 c]))∧Below w.heap.size w w':=by
 go_enter Tryz.func109,Tryz.ntmps109;go_wp2_with fail;go_loopw [4,12] (fun v i wr=>v=.slice none 0 0∧i=.int .i64 0∧wr=w) (fun _ _ _=>0)
 case atStart=>exact⟨rfl,rfl,rfl⟩
 case round=>
  obtain⟨rfl,rfl,rfl⟩:=hrel;go_wp2_with fail;refine(yc9 _ _).mono ?_;rintro e w1 ⟨rfl,rfl⟩;obtain⟨w4,hr4,-,hb4⟩:=zxb w1 w1.heap.size 0 (by omega) (Nat.le_refl _);have hr5:(Instr.makeSlice 79 (.int .i64 0) (.int .i64 0)).run Tryz.prog w1=.ok (.slice (some ⟨w1.heap.size,0,none⟩) 0 0) w4:=hr4;have Hb4:=hid hb4;clear hr4 hb4;go_wp2_with fail;clear hr5;go_loopw [8,28] (fun v i wr=>i=.int .i64 0∧wr=w4) (fun _ _ _=>0)
  case atStart=>exact⟨rfl,rfl⟩
  case round=>
   obtain⟨rfl,rfl⟩:=hrel;go_wp2_with fail;go_ret2;exact⟨⟨_,_,rfl⟩,Hb4.out⟩
set_option maxRecDepth 20000 in
theorem z0y (w:World) (hD:Door w):Calls Tryz.prog 72 #[.slice none 0 0] w fun e w'=>(∃v,e=.returned (.tuple #[v,.nilIface])∧w'.ownsRow w.heap.size 5 1 v 2 (u8s [0,0]))∧Below w.heap.size w w':=by
 have HC:=hid (zoc none 0 0 [] w (zhj w) hD);have hv0:yp 0=[0]:=rfl;clear hD;go_enter Tryz.func72,Tryz.ntmps72;go_wp2_with fail;refine HC.out.mono ?_;rintro e w1 ⟨rfl,hb1⟩;have Hb1:=hid hb1;have hck:zy (qk (ckF []))=.nilIface:=rfl;rw[hck];clear hb1 hck;go_wp2_with fail;refine(yc6 _).mono ?_;rintro e w2 ⟨rfl,hb2⟩;have Hb2:=hid (Hb1.out.trans (hb2.mono Hb1.out.size));clear hb2;go_wp2_with fail;refine(zsu (.slice none 0 0) 0 w.heap.size [] 0 w2 (by omega) (World.ownsRow_nil _ _ _ _) Hb2.out.size (by omega)).mono ?_;rintro e w3 ⟨v3,rfl,ho3,hb3⟩;have Ho3:=hid (show w3.ownsRow w.heap.size 5 1 v3 1 (u8s [0]) from ho3);have Hb3:=hid (Hb2.out.trans hb3);clear ho3 hb3;go_wp2_with fail;go_loopw [6,29] (fun v i wr=>v=v3∧i=.int .i64 0∧wr=w3) (fun _ _ _=>0)
 case atStart=>exact⟨rfl,rfl,rfl⟩
 case round=>
  obtain⟨rfl,rfl,rfl⟩:=hrel;go_wp2_with fail;refine(yda _).mono ?_;rintro e w4 ⟨⟨sa,sc,rfl⟩,hb4⟩;have Ho4:=hid (zm Ho3.out hb4);have Hb4:=hid (Hb3.out.trans (hb4.mono Hb3.out.size));clear hb4;go_wp2_with fail;refine(zoh none 0 0 0 [] w4 (zjr _) (by first | trivial | (intro i hi;simp at hi) | simp[zdg] | decide) (by omega) (by omega)).mono ?_;rintro e w5 ⟨⟨v5,rfl,ho5⟩,hb5⟩;obtain⟨da,dc,rfl⟩:=jh ho5;have Ho5:=hid (zm Ho4.out hb5);have Hb5:=hid (Hb4.out.trans (hb5.mono Hb4.out.size));clear hb5 ho5;go_wp2_with fail;refine(zsu _ 1 w.heap.size _ 0 w5 (by omega) Ho5.out Hb5.out.size (by omega)).mono ?_;rintro e w6 ⟨v6,rfl,ho6,hb6⟩;have Ho6:=hid (show w6.ownsRow w.heap.size 5 1 v6 2 (u8s [0,0]) from ho6);have Hb6:=hid (Hb5.out.trans hb6);clear ho6 hb6;go_wp2_with fail;go_loopw [6,55] (fun v i wr=>v=v6∧i=.int .i64 0∧wr=w6) (fun _ _ _=>0)
  case atStart=>exact⟨rfl,rfl,rfl⟩
  case round=>
   obtain⟨rfl,rfl,rfl⟩:=hrel;go_wp2_with fail;go_ret2;exact⟨⟨_,rfl,Ho6.out⟩,Hb6.out⟩
end
section
theorem z0z {l:List Nat} {L:zc} {e:Nat×Nat}:∀{ks ks':List Kno} {es es':List Nat} {p q q':Nat},zbv l L ks es p q→zbv l L ks' es' p q'→qo l L q'=.error e→∃ms fs,ks'=ks++ms∧es'=es++fs∧zbv l L ms fs q q'
 | [],ks',[],es',p,q,q',h,h',h1=>by
   have h:p=q:=h;subst h
   exact⟨ks',es',rfl,rfl,h'⟩
 | k :: ks,[],x :: es,[],p,q,q',h,h',h1=>by
   have h':p=q':=h';subst h';rw[h.1] at h1
   cases h1
 | k :: ks,k' :: ks',x :: es,x' :: es',p,q,q',h,h',h1=>by
   have e1:=h.1.symm.trans h'.1;injection e1 with e1;injection e1 with e1 e2;subst e1 e2;obtain⟨ms,fs,a,b,c⟩:=z0z h.2 h'.2 h1
   exact⟨ms,fs,by rw[a];rfl,by rw[b];rfl,c⟩
 | [],_,_ :: _,_,_,_,_,h,_,_=>h.elim
 | _ :: _,_,[],_,_,_,_,h,_,_=>h.elim
 | _ :: _,[],_ :: _,_ :: _,_,_,_,_,h,_=>h.elim
 | _ :: _,_ :: _,_ :: _,[],_,_,_,_,h,_=>h.elim
theorem zdl {l:List Nat} {L:zc} {ks ks':List Kno} {es es':List Nat} {e e':Nat×Nat} (h:kq l L ks es e) (h':kq l L ks' es' e'):ks'=ks∧es'=es∧e'=e:=by
 obtain⟨q,a,b⟩:=h;obtain⟨q',a',b'⟩:=h';obtain⟨ms,fs,e1,e2,c⟩:=z0z a a' b'
 cases ms with
 | nil=>
  cases fs with
  | nil=>
   have c:q=q':=c;subst c;rw[b] at b';injection b' with b'
   exact⟨by rw[e1,List.append_nil],by rw[e2,List.append_nil],b'.symm⟩
  | cons _ _=>exact c.elim
 | cons m ms=>
  cases fs with
  | nil=>exact c.elim
  | cons f fs=>
   have:=c.1;rw[b] at this;cases this
end
section
open Go.RowKit
attribute [local go_sem] y9 Tryz.eqGuard_if
theorem zl5 (w:World) (base:Nat):KnosM w base (.slice none 0 0) []:=⟨[],World.ownsRow_nil _ _ _ _,trivial⟩
theorem Tryz.info_kno:(Tryz.prog.info? 48).map (fun i=>(i.zero,i.size,i.bytes))=some (some (.slice none 0 0),1,24):=by kernel_rfl
theorem zs1 {w:World} {base:Nat} {V K:Value} {ks:List Kno} {k:Kno} (h:KnosM w base V ks) (hK:KnoS w K k) (hb:ks.length≤900000000000) (hbase:base≤w.heap.size):
 ∃V' w',(Builtin.append_ #[26,26] 26 #[V,.slice (some ⟨w.heap.size,0,none⟩) 1 1]).run Tryz.prog (w.alloc (.cells #[K] 48))=.ok V' w'∧KnosM w' base V' (ks++[k])∧
  ∃Ks,(w.alloc (.cells #[K] 48)).ownsRow base 48 1 V ks.length Ks∧(w.alloc (.cells #[K] 48)).grownBy w' V.ownBlock:=by
 have hal:=(Below.refl w.heap.size w).alloc (Nat.le_refl _) (.cells #[K] 48);obtain⟨Ks,h1,h2⟩:=h;have h1':=zm h1 hal;have h2':=h2.steady (.of_below hal);have hK':=hK.later hal
 obtain⟨V',w',e1,e2,e3⟩:=zcf base 26 26 48 _ 1 24 Tryz.underlying26 Tryz.info_kno rfl (by omega) V ks.length Ks h1' (some ⟨w.heap.size,0,none⟩) 1 1 [K] (zf1 _ _ _ 1 _ rfl rfl) (by
  intro u hu;obtain rfl:=List.mem_singleton.1 hu;obtain⟨a,c,rfl,-⟩:=hK.frags
  rfl) (by unfold maxLen;omega) (by omega) (by simp only[World.size_alloc];omega)
 have hs:Steady 0 jw _ w':=(Steady.grown (base:=base) h1' e3 (show ¬jw 48 by rintro(h | h | h) <;> cases h)).lower (Nat.zero_le _);exact⟨V',w',e1,⟨Ks++[K],by rw[List.length_append];exact e2,(h2'.steady hs).snoc (hK'.steady hs)⟩,Ks,h1',e3⟩
end
section
open Go.RowKit
attribute [local go_sem] y9 Tryz.eqGuard_if
set_option maxRecDepth 20000 in
theorem z00 (w:World) (base R:Nat) (L:zc) (s:WS) (h:WkR w base R L s) (ht:s.tag=4) (hl:zo s.l):Calls Tryz.prog 43 #[.pointer (some ⟨R,0,none⟩)] w fun e w'=>(∃K,e=.returned K∧KnoS w' K (qj s.vs s.l s.ix))∧Below w.heap.size w w':=by
 obtain⟨hR0,part,K,U,C,hU,hC,hR,hu,hB⟩:=h;obtain⟨hn,-⟩:=zkc hB (by omega);simp only[ht,decide_true,Bool.not_true] at hn;unfold WkB at hB;simp only[ht] at hB;obtain⟨rfl,hM⟩:=hB;have hK:KnoS w K (qj s.vs s.l s.ix):=.inl ⟨_,_,_,_,hM,hl,rfl⟩;obtain⟨a,c,rfl,-⟩:=hM.frags hl;have q9:=hR.cell 9 rfl;have q5:=hR.cell 5 rfl;have q2:=hR.cell 6 rfl;have HK:=hid hK;unfold zho at q5 hn;clear hR hu hM hl ht hK;go_enter Tryz.func43,Tryz.ntmps43;go_wp2_with fail;go_ret;exact⟨⟨_,rfl,HK.out⟩,Below.refl _ _⟩
end
