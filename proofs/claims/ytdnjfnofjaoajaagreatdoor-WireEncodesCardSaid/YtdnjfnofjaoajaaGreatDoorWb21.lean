/- Walks and laws, joined: Wb21. -/
import Derived.Test.YtdnjfnofjaoajaaGreatDoorWb20
set_option linter.unusedVariables false
set_option maxHeartbeats 16000000
namespace Go.Proofs.YtdnjfnofjaoajaaGreatDoor
open Lib (hid)
section
open Go.RowKit Go.Shelf
theorem zuh (e:Ent) (a:Option Addr) (n c:Nat) (w:World) (hI:Ivs w a n c e.2.2) (hG:Good e.2.2) (hm:e.2.1<18446744073709551616) (hn:2*e.2.2.length+3≤900000):
 Calls Tryz.prog 282 #[ky e (.slice a n c)] w fun x w'=>zcb w.heap.size (qz e) x w'∧Below w.heap.size w w':=by
 obtain⟨r,m,hs⟩:=e;have HI:=hid hI;have Hg:=hid hG;have Hn:=hid hn;have Hm:=hid hm;clear hI hG hn hm;go_enter Tryz.func282,Tryz.ntmps282;go_wp2_with fail;have hal:Below w.heap.size w (w.alloc (.cells #[.int .u64 r,.int .u64 m,.slice a n c] 101)):=(Below.refl _ _).alloc (Nat.le_refl _) _;have q1:(w.alloc (.cells #[.int .u64 r,.int .u64 m,.slice a n c] 101)).cell? ⟨w.heap.size,1,none⟩=some (.int .u64 m):=by simp[go_sem]
 have q2:(w.alloc (.cells #[.int .u64 r,.int .u64 m,.slice a n c] 101)).cell? ⟨w.heap.size,2,none⟩=some (.slice a n c):=by simp[go_sem]
 have Ha:=hid hal;clear hal;generalize w.alloc (.cells #[.int .u64 r,.int .u64 m,.slice a n c] 101)=W at*
 go_region_with (first
  | (go_at_call 286;refine(zue _ _).mono ?_;rintro e w1 ⟨rfl,hb1⟩
     have q3:=(hb1.cell (ze q2)).trans q2
     have Hb1:=hid (show Below W.heap.size W w1 from⟨hb1.os,hb1.tape,hb1.output,hb1.size,hb1.block⟩);clear hb1)
  | (go_at_call 285;refine(zud a n c hs (0,m) _ (HI.out.below (Ha.out.trans (Hb1.out.mono Ha.out.size))) Hg.out (Nat.zero_le _) Hm.out (by have:=Hn.out;simp at this;omega)).mono ?_
     rintro e w2 ⟨⟨v,rfl,ho⟩,hb2⟩;have Ho:=hid ho;have Hb2:=hid hb2;clear ho hb2))
 all_goals go_wp2
 all_goals go_ret
 all_goals exact⟨⟨v,rfl,y9 Ho.out (Nat.le_trans Ha.out.size Hb1.out.size)⟩,Ha.out.trans ((Hb1.out.trans (Hb2.out.mono Hb1.out.size)).mono Ha.out.size)⟩
set_option maxRecDepth 20000 in
theorem z4p (r:Nat) (a:Option Addr) (n c:Nat) (L:List Iv) (w:World) (hI:Ivs w a n c L) (hG:Good L) (hn:2*L.length+3≤900000):
 Calls Tryz.prog 268 #[.int .u64 r,.slice a n c] w fun x w'=>zc0 w.heap.size (ofE r L) x w'∧Below w.heap.size w w':=by
 rcases zcm L with rfl | ⟨l,t,rfl⟩
 · obtain rfl:n=0:=by simpa using hI.len.symm
   have e:ofE r []=none:=rfl;rw[e];clear hI hG hn e;go_enter Tryz.func268,Tryz.ntmps268;go_wp2;refine bodyPost_ret (v:=.tuple #[ky (0,0,[]) (.slice none 0 0),.bool false]) (by simp[results,Tryz.results268,go_sem]) rfl ?_;exact⟨rfl,(Below.refl _ _).alloc (Nat.le_refl _) _⟩
 · have hne:l++[t]≠[]:=by simp
   have htop:ki (l++[t])=t.2:=by simp[ki]
   have e:ofE r (l++[t])=some (r,t.2,opL jl [(0,t.2)] (l++[t])):=by unfold ofE;rw[if_neg hne,htop]
   rw[e];have hlen:=hI.len;rw[List.length_append,List.length_singleton] at hlen;obtain⟨bb,oo,rfl,hcell⟩:=hI.cells (by omega);obtain⟨-,c2⟩:=hcell l.length (by omega);have hnt:zb (l++[t]) l.length=t:=by simp[zb]
   rw[hnt] at c2;have HI:=hid hI;have Hg:=hid hG;have Hn:=hid hn;have Ht:=hid (hI.lt t (by simp)).2;obtain⟨k,hk⟩:∃k:Nat,k=l.length:=⟨_,rfl⟩;rw[←hk] at c2 hlen;have hsub:IntKind.i64.wrap ((n:Int) - 1)=(k:Int):=by have:=hI.room;have:=hI.most;rw[IntKind.wrap_i64];omega
   have hz:((n:Int) == 0)=false:=by rw[beq_eq_false_iff_ne];omega
   have h01:(k:Int)<(n:Int):=by omega
   have hkn:k<n:=by omega
   have hnc:=hI.room;obtain⟨tx,ty⟩:=t;simp only at c2 Ht htop ⊢;have hal:Below w.heap.size w (w.alloc (.cells #[.int .u64 0,.int .u64 0,.slice none 0 0] 101)):=(Below.refl _ _).alloc (Nat.le_refl _) _;have q1:=(hal.cell (ze c2)).trans c2;have Ha:=hid hal;clear hI hG hn hcell hne htop e hk hlen hal hnt;go_enter Tryz.func268,Tryz.ntmps268;go_wp2_with (go_at_call 286;refine(zue _ _).mono ?_;rintro e w1 ⟨rfl,hb1⟩;have Hb1:=hid hb1;clear hb1);refine(zud _ _ _ _ (0,ty) _ (HI.out.below (Ha.out.trans (Hb1.out.mono Ha.out.size))) Hg.out (Nat.zero_le _) Ht.out (by have:=Hn.out;simp at this ⊢;omega)).mono ?_;rintro e w2 ⟨⟨v,rfl,ho⟩,hb2⟩;have Ho:=hid ho;have Hb2:=hid (Hb1.out.trans (hb2.mono Hb1.out.size));have hrow:w2.heap[w.heap.size]?=some (.cells #[.int .u64 0,.int .u64 0,.slice none 0 0] 101):=(Hb2.out.block _ (by simp)).trans (z7 rfl);have z0:w2.cell? ⟨w.heap.size,0,none⟩=some (.int .u64 0):=by simp[World.cell?,hrow]
   have z1:w2.cell? ⟨w.heap.size,1,none⟩=some (.int .u64 0):=by simp[World.cell?,hrow]
   have z2:w2.cell? ⟨w.heap.size,2,none⟩=some (.slice none 0 0):=by simp[World.cell?,hrow]
   have z3:w2.frozen? ⟨w.heap.size,0,none⟩=false:=by simp[World.frozen?,hrow]
   have z4:w2.frozen? ⟨w.heap.size,1,none⟩=false:=by simp[World.frozen?,hrow]
   have z5:w2.frozen? ⟨w.heap.size,2,none⟩=false:=by simp[World.frozen?,hrow]
   have Hw:=hid (Ha.out.trans (Hb2.out.mono Ha.out.size));have Hs1:=hid (show w.heap.size<w1.heap.size from by have:=Hb1.out.size;simp at this;omega)
   obtain⟨vb,vn,vc,rfl⟩:∃vb vn vc,v=.slice vb vn vc:=by
    rcases ho.2 with ⟨rfl,_⟩ | ⟨g,cap,cur,rfl,_⟩
    · exact⟨_,_,_,rfl⟩
    · exact⟨_,_,_,rfl⟩
   clear ho hb2 hrow;go_wp2;refine bodyPost_ret (v:=.tuple #[.agg #[.int .u64 r,.int .u64 ty,.slice vb vn vc],.bool true]) (by simp[results,Tryz.results268,go_sem,z0,z1,z2]) rfl ?_;have Hh:∀(a:Addr) (u:Value) (W:World),a.block=w.heap.size→∀k,w1.heap.size≤k→(W.setCell a u).heap[k]?=W.heap[k]?:=fun a u W ha k hk=>Below.heap_setCell _ _ _ _ (by have:=Hs1.out;omega)
   refine⟨⟨_,rfl,y9 (qr Ho.out (fun k hk1 _=>?_)) (Nat.le_of_lt Hs1.out)⟩,((Hw.out.setCell (Nat.le_refl _) _).setCell (Nat.le_refl _) _).setCell (Nat.le_refl _) _⟩;rw[Hh _ _ _ rfl k hk1,Hh _ _ _ rfl k hk1,Hh _ _ _ rfl k hk1]
end
section
open Go.RowKit Go.Maps
def z4q (w:World) (va vb:Vec) (e:Ending) (w':World):Prop:=∃B D,e=.returned (.map (some B))∧w.heap.size≤B∧PairS w' w.heap.size B 1000 D (zaw va vb) (yi va) (yi vb)
set_option maxRecDepth 100000 in
theorem z4r (a b:Option Addr) (n c m d:Nat) (va vb:Vec) (w:World) (hA:Ents w a n c va) (hB:Ents w b m d vb) (fa:VecFits va) (fb:VecFits vb) (ca:ckV va=none) (cb:ckV vb=none):
 Calls Tryz.prog 266 #[.slice a n c,.slice b m d] w fun e w'=>z4q w va vb e w'∧Below w.heap.size w w':=by
 have HA:=hid hA;have HB:=hid hB;have Hla:=hid hA.len;have Hlb:=hid hB.len;have hn3:n≤300:=by rw[←hA.len];exact fa.len
 have hm3:m≤300:=by rw[←hB.len];exact fb.len
 have HFa:=hid fa;have HFb:=hid fb;have HCa:=hid (zkh.1 ca);have HCb:=hid (zkh.1 cb);have hmm:=@run_makeMap Tryz.prog;obtain⟨B,hBe⟩:∃B,B=w.heap.size:=⟨_,rfl⟩;have HBe:=hid hBe
 have Hst:=hid (show PairS (w.alloc (.map #[] 0)) B B 0 (.map []) ((va.take 0).map (·.1)) (yi (va.take 0)) (fun _=>[]) from by
  rw[hBe];exact PairS.start w w.heap.size)
 have Hb0:=hid (show Below B w (w.alloc (.map #[] 0)) from by rw[hBe];exact(Below.refl _ _).alloc (Nat.le_refl _) _);clear hA hB fa fb ca cb;go_enter Tryz.func266,Tryz.ntmps266;go_wp2;rw[←hBe];clear hBe;generalize w.alloc (.map #[] 0)=wm at*;refine wp_loop_rounds 3 ?_;rw[rounds_succ];go_wp2_with (refine zkm _ _ _ rfl rfl _ 0 2 83 101 _ rfl rfl Tryz.underlying369 (by omega) Tryz.underlying83 zr3 rfl ?_);go_loopw [9,10,21] (fun _ _ j wr=>∃k:Nat,k≤n∧j=.int .i64 k∧Hid (Below B w wr∧∃D,PairS wr B B (k) D ((va.take k).map (·.1)) (yi (va.take k)) (fun _=>[]))) (fun _ _ j _=>n - (intOf j).toNat)
 case atStart=>exact⟨0,by omega,rfl,Hb0.out,_,Hst.out⟩
 case round=>
  obtain⟨k,hk,rfl,hinv⟩:=hrel;obtain⟨hb,D,hP⟩:=hinv.out;by_cases hkn:k<n
  · have hkv:k<va.length:=by rw[Hla.out];exact hkn
    have HEr:=hid (HA.out.below (by rw[←HBe.out];exact hb));obtain⟨bb,oo,rfl⟩:=HEr.out.some (by omega);have hlt:=HA.out.lt (zc va k) (jb hkv);have hho:=HFa.out.holes (zc va k) (jb hkv);have hgd:=(zh3.1 (HCa.out.2 (zc va k) (jb hkv))).1;have Hrep:=hid (zr2 (v:=va) hkv);have Hkat:=hid (zr1 HCa.out.1 hkv);obtain⟨x,l,cc,hq⟩:=HEr.out.fix hkn;obtain⟨q1,q2,q3,q4⟩:=hq _ (Below.refl _ _);obtain⟨a1,n1,c1,a2,n2,c2,hat,hi1,hi2⟩:=hP.vals (zc va k).1;generalize he:zc va k=e at*;obtain⟨er,em,eh⟩:=e;simp only at q1 q2 q3 hat hi1 hi2 hlt;obtain⟨A1,hA1⟩:∃A1,A1=wr.alloc (.cells #[.int .u64 er,.int .u64 em,.slice x l cc] 101):=⟨_,rfl⟩;have hal1:Below wr.heap.size wr A1:=by rw[hA1];exact(Below.refl _ _).alloc (Nat.le_refl _) _
    have hs1:A1.heap.size=wr.heap.size+1:=by rw[hA1];simp
    obtain⟨A2,hA2⟩:∃A2,A2=A1.alloc (.cells #[.slice a1 n1 c1,.slice a2 n2 c2] 357):=⟨_,rfl⟩;have hal2:Below A1.heap.size A1 A2:=by rw[hA2];exact(Below.refl _ _).alloc (Nat.le_refl _) _
    have hs2:A2.heap.size=wr.heap.size+2:=by rw[hA2];simp[hs1]
    have hal:Below wr.heap.size wr A2:=hal1.trans (hal2.mono (by omega));have hr1:A1.heap[wr.heap.size]?=some (.cells #[.int .u64 er,.int .u64 em,.slice x l cc] 101):=by rw[hA1];exact z7 rfl
    have hr2:A2.heap[wr.heap.size+1]?=some (.cells #[.slice a1 n1 c1,.slice a2 n2 c2] 357):=by rw[hA2];exact z7 hs1.symm
    have hr1':A2.heap[wr.heap.size]?=some (.cells #[.int .u64 er,.int .u64 em,.slice x l cc] 101):=(hal2.block _ (by omega)).trans hr1;have hC:=hid (zuh (er,em,eh) x l cc A2 (q4.below hal) hgd hlt.max (by have:=hho;simp only at this ⊢;omega));have Hm1:=hid (hP.own.kept (zbq hal1) (by simp));have hm2:=hP.own.kept (zbq hal) (by simp);have HP:=hid hP;have Hb:=hid hb;have Hlt:=hid hlt;have hrep64:=hlt.rep;have Hi1:=hid hi1;have Hi2:=hid hi2;have Hr1:=hid hr1';have Hr2:=hid hr2;have Hs1:=hid hs1;have Hs2:=hid hs2;have Hal:=hid hal;have Hm2:=hid hm2;have y0:=zu (i:=0) hr1 rfl;have y1:=zu (i:=1) hr1 rfl;have y2:=zu (i:=2) hr1 rfl;have z0:=zu (i:=0) hr1' rfl;have z1:=zu (i:=1) hr1' rfl;have z2:=zu (i:=2) hr1' rfl;clear hinv hb hP hq q4 hlt hho hgd hi1 hi2 hal1 hal2 hal hr1 hr2 hr1' hm2 hs1 hs2 he;subst hA2 hA1;have h0:(0:Int)≤k:=by omega
    have h04:(k:Int)<(n:Int):=by omega
    go_wp2_with (at_lookup;refine znp rfl _ _ _ rfl Tryz.underlying352 B _ D rfl Hm1.out er hrep64 rfl _ hat ?_);refine hC.out.mono ?_;rintro e w3 ⟨⟨v3,rfl,ho3⟩,hb3⟩;clear y0 y1 y2 z0 z1 z2 q1 q2 q3;obtain⟨a3,c3,rfl,hi3⟩:=zdn (base':=B) ho3 (zes Hlt.out).2.2;have R1:=(hb3.block _ (by have:=Hs2.out;omega)).trans Hr1.out;have R2:=(hb3.block _ (by have:=Hs2.out;omega)).trans Hr2.out;have y0:=zu (i:=0) R1 rfl;have y1:=zu (i:=1) R1 rfl;have y2:=zu (i:=2) R1 rfl;have z0:=zu (i:=0) R2 rfl;have z1:=zu (i:=1) R2 rfl;have f0:w3.frozen? ⟨wr.heap.size+1,0,none⟩=false:=by simp[World.frozen?,R2]
    have f1:w3.frozen? ⟨wr.heap.size+1,1,none⟩=false:=by simp[World.frozen?,R2]
    have hBwr:B≤wr.heap.size:=by have:=Hb.out.size;have:=HBe.out;omega
    have Hst3:=hid ((Steady.of_below (base:=B) (P:=zb1) (Hal.out.trans (hb3.mono Hal.out.size))).trans (Steady.setCell (a:=⟨wr.heap.size+1,0,none⟩) (u:=.slice a3 (qz (er,em,eh)).length c3) R2 (by simp only;omega) (by intro h;cases h)));have HmB:B<wr.heap.size:=HP.out.own.lt;have Hm4:=hid (((Hm2.out.kept (zbq hb3) (by simp)).setCell (a:=⟨wr.heap.size+1,0,none⟩) (by simp only;omega) (.slice a3 (qz (er,em,eh)).length c3)));have Hb4:=hid (((Hb.out.trans ((Hal.out.trans (hb3.mono Hal.out.size)).mono hBwr)).setCell (p:=⟨wr.heap.size+1,0,none⟩) (by simp only;omega) (.slice a3 (qz (er,em,eh)).length c3)));have Hi3:=hid (hi3.steady (Steady.setCell (P:=zb1) (a:=⟨wr.heap.size+1,0,none⟩) (u:=.slice a3 (qz (er,em,eh)).length c3) R2 (by simp only;omega) (by intro h;cases h)) rfl);have q0:(w3.setCell ⟨wr.heap.size+1,0,none⟩ (.slice a3 (qz (er,em,eh)).length c3)).cell? ⟨wr.heap.size,0,none⟩=some (.int .u64 er):=(World.cell?_of_block (Below.heap_setCell _ _ _ _ (by simp))).trans y0;generalize hL:qz (er,em,eh)=L at*;have HL:=hid hL;clear hL R1 R2 hb3 ho3 hi3 hC hat;go_wp2_with (at_mapUpdate;refine wpList_mapUpdate_own _ rfl _ _ _ 352 rfl 52 357 zc5 Tryz.underlying352 rP B _ D rfl Hm4.out (by unfold maxLen;omega) _ _ _ rfl rfl (zfu hrep64) _ [] (zry _ _ _ _ _ _) ?_;intro w5 ho5 hg5);have Hb5:=hid (Hb4.out.grown hg5 (by have:=Hm4.out.lt;omega) (fun k hk=>by cases hk;exact Nat.le_refl _));have hsm:=zr0 Hm4.out (Nat.le_refl _) hg5 zb1;have st:=Hst3.out.trans hsm;have H5:=hid ((HP.out.put st (Hi3.out.steady hsm rfl) (Hi2.out.steady st rfl) ho5).congr (S' :=  (va.take (k+1)).map (·.1)) (G1':=yi (va.take (k+1))) (G2':=fun _=>[]) (fun r=>by rw[Hrep.out]) (fun r=>(Hkat.out r).symm) (fun r=>by split <;> rfl));clear hsm st ho5 hg5;go_roundw
    case rel=>exact⟨k+1,by omega,by go_num,Hb5.out,_,H5.out⟩
    case measure=>simp[intOf];omega
  · obtain rfl:k=n:=by omega
    have Hb1:=hid hb;have hall:va.take k=va:=List.take_of_length_le (by rw[Hla.out];exact Nat.le_refl _);rw[hall] at hP;clear hall hinv hb hkn;have HS1:=hid (show PairS wr B B (k+0) D (va.map (·.1)++(vb.take 0).map (·.1)) (yi va) (yi (vb.take 0)) from hP.congr (fun r=>by simp) (fun r=>rfl) (fun r=>rfl));clear hP Hst Hb0;generalize wr=wm at*;go_wp2;rw[rounds_succ];obtain⟨k0,hk0⟩:∃k0:Nat,k0=k:=⟨_,rfl⟩;rw[←hk0] at HS1;have HK0:=hid hk0;have hk0n:k0≤300:=by omega
    clear hk0;go_wp2_with (refine zkm _ _ _ rfl rfl _ 1 2 83 101 _ rfl rfl Tryz.underlying369 (by omega) Tryz.underlying83 zr3 rfl ?_);go_loopw [9,10,21] (fun _ _ j wr=>∃k:Nat,k≤m∧j=.int .i64 k∧Hid (Below B w wr∧∃D,PairS wr B B (k0+k) D (va.map (·.1)++(vb.take k).map (·.1)) (yi va) (yi (vb.take k)))) (fun _ _ j _=>m - (intOf j).toNat)
    case atStart=>exact⟨0,by omega,rfl,Hb1.out,D,HS1.out⟩
    case round=>
     obtain⟨k,hk,rfl,hinv⟩:=hrel;obtain⟨hb,D,hP⟩:=hinv.out;by_cases hkn:k<m
     · have hkv:k<vb.length:=by rw[Hlb.out];exact hkn
       have HEr:=hid (HB.out.below (by rw[←HBe.out];exact hb));obtain⟨bb,oo,rfl⟩:=HEr.out.some (by omega);have hlt:=HB.out.lt (zc vb k) (jb hkv);have hho:=HFb.out.holes (zc vb k) (jb hkv);have hgd:=(zh3.1 (HCb.out.2 (zc vb k) (jb hkv))).1;have Hrep:=hid (zr2 (v:=vb) hkv);have Hkat:=hid (zr1 HCb.out.1 hkv);obtain⟨x,l,cc,hq⟩:=HEr.out.fix hkn;obtain⟨q1,q2,q3,q4⟩:=hq _ (Below.refl _ _);obtain⟨a1,n1,c1,a2,n2,c2,hat,hi1,hi2⟩:=hP.vals (zc vb k).1;generalize he:zc vb k=e at*;obtain⟨er,em,eh⟩:=e;simp only at q1 q2 q3 hat hi1 hi2 hlt;obtain⟨A1,hA1⟩:∃A1,A1=wr.alloc (.cells #[.int .u64 er,.int .u64 em,.slice x l cc] 101):=⟨_,rfl⟩;have hal1:Below wr.heap.size wr A1:=by rw[hA1];exact(Below.refl _ _).alloc (Nat.le_refl _) _
       have hs1:A1.heap.size=wr.heap.size+1:=by rw[hA1];simp
       obtain⟨A2,hA2⟩:∃A2,A2=A1.alloc (.cells #[.slice a1 n1 c1,.slice a2 n2 c2] 357):=⟨_,rfl⟩;have hal2:Below A1.heap.size A1 A2:=by rw[hA2];exact(Below.refl _ _).alloc (Nat.le_refl _) _
       have hs2:A2.heap.size=wr.heap.size+2:=by rw[hA2];simp[hs1]
       have hal:Below wr.heap.size wr A2:=hal1.trans (hal2.mono (by omega));have hr1:A1.heap[wr.heap.size]?=some (.cells #[.int .u64 er,.int .u64 em,.slice x l cc] 101):=by rw[hA1];exact z7 rfl
       have hr2:A2.heap[wr.heap.size+1]?=some (.cells #[.slice a1 n1 c1,.slice a2 n2 c2] 357):=by rw[hA2];exact z7 hs1.symm
       have hr1':A2.heap[wr.heap.size]?=some (.cells #[.int .u64 er,.int .u64 em,.slice x l cc] 101):=(hal2.block _ (by omega)).trans hr1;have hC:=hid (zuh (er,em,eh) x l cc A2 (q4.below hal) hgd hlt.max (by have:=hho;simp only at this ⊢;omega));have Hm1:=hid (hP.own.kept (zbq hal1) (by simp));have hm2:=hP.own.kept (zbq hal) (by simp);have HP:=hid hP;have Hb:=hid hb;have Hlt:=hid hlt;have hrep64:=hlt.rep;have Hi1:=hid hi1;have Hi2:=hid hi2;have Hr1:=hid hr1';have Hr2:=hid hr2;have Hs1:=hid hs1;have Hs2:=hid hs2;have Hal:=hid hal;have Hm2:=hid hm2;have y0:=zu (i:=0) hr1 rfl;have y1:=zu (i:=1) hr1 rfl;have y2:=zu (i:=2) hr1 rfl;have z0:=zu (i:=0) hr1' rfl;have z1:=zu (i:=1) hr1' rfl;have z2:=zu (i:=2) hr1' rfl;clear hinv hb hP hq q4 hlt hho hgd hi1 hi2 hal1 hal2 hal hr1 hr2 hr1' hm2 hs1 hs2 he;subst hA2 hA1;have h0:(0:Int)≤k:=by omega
       have h04:(k:Int)<(m:Int):=by omega
       go_wp2_with (at_lookup;refine znp rfl _ _ _ rfl Tryz.underlying352 B _ D rfl Hm1.out er hrep64 rfl _ hat ?_);refine hC.out.mono ?_;rintro e w3 ⟨⟨v3,rfl,ho3⟩,hb3⟩;clear y0 y1 y2 z0 z1 z2 q1 q2 q3;obtain⟨a3,c3,rfl,hi3⟩:=zdn (base':=B) ho3 (zes Hlt.out).2.2;have R1:=(hb3.block _ (by have:=Hs2.out;omega)).trans Hr1.out;have R2:=(hb3.block _ (by have:=Hs2.out;omega)).trans Hr2.out;have y0:=zu (i:=0) R1 rfl;have y1:=zu (i:=1) R1 rfl;have y2:=zu (i:=2) R1 rfl;have z0:=zu (i:=0) R2 rfl;have z1:=zu (i:=1) R2 rfl;have f0:w3.frozen? ⟨wr.heap.size+1,0,none⟩=false:=by simp[World.frozen?,R2]
       have f1:w3.frozen? ⟨wr.heap.size+1,1,none⟩=false:=by simp[World.frozen?,R2]
       have hBwr:B≤wr.heap.size:=by have:=Hb.out.size;have:=HBe.out;omega
       have Hst3:=hid ((Steady.of_below (base:=B) (P:=zb1) (Hal.out.trans (hb3.mono Hal.out.size))).trans (Steady.setCell (a:=⟨wr.heap.size+1,1,none⟩) (u:=.slice a3 (qz (er,em,eh)).length c3) R2 (by simp only;omega) (by intro h;cases h)));have HmB:B<wr.heap.size:=HP.out.own.lt;have Hm4:=hid (((Hm2.out.kept (zbq hb3) (by simp)).setCell (a:=⟨wr.heap.size+1,1,none⟩) (by simp only;omega) (.slice a3 (qz (er,em,eh)).length c3)));have Hb4:=hid (((Hb.out.trans ((Hal.out.trans (hb3.mono Hal.out.size)).mono hBwr)).setCell (p:=⟨wr.heap.size+1,1,none⟩) (by simp only;omega) (.slice a3 (qz (er,em,eh)).length c3)));have Hi3:=hid (hi3.steady (Steady.setCell (P:=zb1) (a:=⟨wr.heap.size+1,1,none⟩) (u:=.slice a3 (qz (er,em,eh)).length c3) R2 (by simp only;omega) (by intro h;cases h)) rfl);have q0:(w3.setCell ⟨wr.heap.size+1,1,none⟩ (.slice a3 (qz (er,em,eh)).length c3)).cell? ⟨wr.heap.size,0,none⟩=some (.int .u64 er):=(World.cell?_of_block (Below.heap_setCell _ _ _ _ (by simp))).trans y0;generalize hL:qz (er,em,eh)=L at*;have HL:=hid hL;clear hL R1 R2 hb3 ho3 hi3 hC hat;go_wp2_with (at_mapUpdate;refine wpList_mapUpdate_own _ rfl _ _ _ 352 rfl 52 357 zc5 Tryz.underlying352 rP B _ D rfl Hm4.out (by unfold maxLen;omega) _ _ _ rfl rfl (zfu hrep64) _ [] (zry _ _ _ _ _ _) ?_;intro w5 ho5 hg5);have Hb5:=hid (Hb4.out.grown hg5 (by have:=Hm4.out.lt;omega) (fun k hk=>by cases hk;exact Nat.le_refl _));have hsm:=zr0 Hm4.out (Nat.le_refl _) hg5 zb1;have st:=Hst3.out.trans hsm;have H5:=hid ((HP.out.put st (Hi1.out.steady st rfl) (Hi3.out.steady hsm rfl) ho5).congr (S':=va.map (·.1)++(vb.take (k+1)).map (·.1)) (G1':=yi va) (G2':=yi (vb.take (k+1))) (fun r=>by rw[Hrep.out,List.append_assoc]) (fun r=>by split <;> first | rfl | (rename_i e;rw[e])) (fun r=>(Hkat.out r).symm));clear hsm st ho5 hg5;go_roundw
       case rel=>exact⟨k+1,by omega,by go_num,Hb5.out,_,H5.out⟩
       case measure=>simp[intOf];omega
     · obtain rfl:k=m:=by omega
       have Hb1:=hid hb;have hall:vb.take k=vb:=List.take_of_length_le (by rw[Hlb.out];exact Nat.le_refl _);rw[hall] at hP;clear hall hinv hb hkn;have HS2:=hid hP;clear hP HS1;go_wp2;rw[rounds_succ];go_wp2;go_ret;refine⟨⟨B,D,rfl,by rw[HBe.out];exact Nat.le_refl _,?_⟩,by rw[←HBe.out];exact Hb1.out⟩;rw[←HBe.out];have h:=HS2.out;refine PairS.congr ⟨h.own.mono (by omega),h.keys,h.vals⟩ (fun r=>?_) (fun r=>rfl) (fun r=>rfl);unfold zaw;rw[zdl]
structure Met (D:DataW Value) (left:Lit→Bool) (L:List Nat):Prop where
 asc:Asc L
 mem:∀x:Nat,x∈L↔(Maps.has D (.int .u64 (x:Int))=true∧left (.int .u64 (x:Int))=false)
theorem Met.start (D:DataW Value):Met D (Maps.has D) []:=⟨trivial,fun x=>by cases Maps.has D (.int .u64 (x:Int)) <;> simp⟩
theorem z4s (x y:Nat):Lit.sameKey (.int .u64 (x:Int)) (.int .u64 (y:Int))=decide (x=y):=by
 by_cases e:x=y
 · subst e;simp[WideAt.sameKey_self (show WideAt.IsKeyLit (.int .u64 (x:Int)) from trivial)]
 · rw[sameKey_ne (zfv e),decide_eq_false e]
theorem Met.new {D:DataW Value} {left:Lit→Bool} {L:List Nat} (h:Met D left L) {x:Nat} (hl:left (.int .u64 (x:Int))=true):x∉L:=fun hx=>by
 have:=((h.mem x).1 hx).2;rw[hl] at this;cases this
theorem Met.step {D:DataW Value} {left:Lit→Bool} {L:List Nat} (h:Met D left L) {x:Nat} (hh:Maps.has D (.int .u64 (x:Int))=true):Met D (fun z=>left z && !z.sameKey (.int .u64 (x:Int))) (jo L x):=by
 refine⟨zfs h.asc,fun y=>?_⟩;rw[zep,h.mem y,z4s];by_cases e:y=x
 · subst e;simp[hh]
 · simp[e]
theorem Met.all {D:DataW Value} {left:Lit→Bool} {L S:List Nat} (h:Met D left L) (hl:∀kl,left kl=false) (hS:Asc S) (hk:∀r:Nat,Maps.has D (.int .u64 (r:Int))=decide (r∈S)):L=S:=
 zgb h.asc hS fun x=>by rw[h.mem x,hk x,hl];simp
theorem Met.sub {D:DataW Value} {left:Lit→Bool} {L S:List Nat} (h:Met D left L) (hk:∀r:Nat,Maps.has D (.int .u64 (r:Int))=decide (r∈S)):∀x∈L,x∈S:=fun x hx=>by
 have h2:=((h.mem x).1 hx).1;rw[hk x] at h2;simpa using h2
theorem Met.len {D:DataW Value} {left:Lit→Bool} {L S:List Nat} (h:Met D left L) (hk:∀r:Nat,Maps.has D (.int .u64 (r:Int))=decide (r∈S)):L.length≤S.length:=
 zcz h.asc (fun x hx=>h.sub hk x hx)
theorem zui:∀(l:List Nat) (x:Nat),(jo l x).length≤l.length+1
 | [],x=>by simp[jo]
 | a :: l,x=>by
   rw[jo];split
   · simp
   · split
     · simp
     · have:=zui l x;simp;omega
theorem zuj:∀(l acc:List Nat),(l.foldl jo acc).length≤acc.length+l.length
 | [],acc=>by simp
 | x :: l,acc=>by
   have h1:=zuj l (jo acc x);have h2:=zui acc x;rw[List.foldl_cons,List.length_cons];omega
theorem z4t (va vb:Vec):(zaw va vb).length≤va.length+vb.length:=by
 have:=zuj (va.map (·.1)++vb.map (·.1)) [];unfold zaw zcs;simp at this ⊢;exact this
theorem zuk {va vb:Vec} (ha:LtV va) (hb:LtV vb):∀r∈zaw va vb,r<18446744073709551616:=fun r hr=>by
 unfold zaw at hr;rw[zdl,List.mem_append,List.mem_map,List.mem_map] at hr;rcases hr with ⟨e,he,rfl⟩ | ⟨e,he,rfl⟩
 · exact(ha e he).rep
 · exact(hb e he).rep
def doU (va vb:Vec) (r:Nat):Option Ent:=ofE r (opL gOr (yi va r) (yi vb r))
set_option maxRecDepth 100000 in
theorem z4u (a b:Option Addr) (n c m d:Nat) (va vb:Vec) (w:World) (hA:Ents w a n c va) (hB:Ents w b m d vb) (fa:VecFits va) (fb:VecFits vb) (ca:ckV va=none) (cb:ckV vb=none):
 Calls Tryz.prog 247 #[.slice a n c,.slice b m d,.func (.func 131) #[] #[]] w fun e w'=>(∃y,e=.returned y∧OwnV2 w' w.heap.size y (doV gOr va vb))∧Below w.heap.size w w':=by
 have hC:=hid (z4r a b n c m d va vb w hA hB fa fb ca cb)
 have Hla:=hid (show (zaw va vb).length≤600 from by
  have h1:=z4t va vb;have h2:=fa.len;have h3:=fb.len;omega)
 have HltA:=hid hA.lt;have HltB:=hid hB.lt;have HFa:=hid fa;have HFb:=hid fb;clear hA hB fa fb ca cb;go_enter Tryz.func247,Tryz.ntmps247;go_wp2_with fail;refine hC.out.mono ?_;rintro e w1 ⟨⟨B,D,rfl,hBw,hP⟩,hb1⟩;have hal2:Below w1.heap.size w1 (w1.alloc (.cells #[.slice none 0 0] 355)):=(Below.refl _ _).alloc (Nat.le_refl _) _;have hs2:(w1.alloc (.cells #[.slice none 0 0] 355)).heap.size=w1.heap.size+1:=by simp
 have hr2:(w1.alloc (.cells #[.slice none 0 0] 355)).heap[w1.heap.size]?=some (.cells #[.slice none 0 0] 355):=z7 rfl;have hP2:=hP.steady (Steady.of_below hal2) (hP.own.kept (zbq hal2) (by simp));have hBlt:=hP.own.lt;have hbw2:=hb1.trans (hal2.mono hb1.size);have hws:=hb1.size;obtain⟨N,hN⟩:∃N,N=w1.heap.size:=⟨_,rfl⟩;rw[←hN] at hs2 hr2 hBlt hws;obtain⟨W2,hW2⟩:∃W2,W2=w1.alloc (.cells #[.slice none 0 0] 355):=⟨_,rfl⟩;rw[←hW2] at hs2 hr2 hP2 hbw2;have HW2:=hid hW2;have HN:=hid hN;have HP2:=hid hP2;have Hr2:=hid hr2;have Hs2:=hid hs2;have Hbw2:=hid hbw2;clear hP hb1 hal2 hs2 hr2 hP2 hbw2 hW2 hN hC;go_wp2_with (at_range;rw[←HN.out,←HW2.out];refine wpList_range_own _ rfl _ _ rfl 52 357 zc5 Tryz.underlying352 rP B 1000 D rfl HP2.out.own ?_;intro w3 hrg3 hg3 hs3);go_frame
 rw[Hs2.out] at hrg3 hs3 ⊢;clear HW2 HN;have Hst:=hid hrg3;have Hk3:=hid (show w3.heap[N]?=some (.cells #[.slice none 0 0] 355) from(hg3.block N (by rw[Hs2.out];omega) (by simp)).trans Hr2.out);have Hs3:=hid hs3;have Hb3:=hid (show Below w.heap.size w w3 from Hbw2.out.grown hg3 (Hbw2.out.size) (fun k hk=>by cases hk));have HP3:=hid (HP2.out.steady (Steady.of_below (w:=W2) ⟨hg3.os,hg3.tape,hg3.output,hg3.size,fun k hk=>hg3.block k hk (by simp)⟩) hrg3.owns);clear hrg3 hs3 hg3 Hr2 HP2
 go_loopw [9] (fun _ wr=>∃(left:Lit→Bool) (cnt:Nat) (L:List Nat) (v:Value),Hid (wr.ranges Tryz.prog 52 rP B (N+1) 1000 D left cnt)∧Hid (wr.heap[N]?=some (.cells #[v] 355))∧
  Hid (wr.ownsRow (N+2) 52 1 v L.length (zi L))∧Hid (Met D left L)∧Hid (Kept (fun k=>k<N+2∧k≠N∧k≠N+1) w3 wr)) (fun _ wr=>wr.rangeLeft B (N+1))
 case atStart=>exact⟨_,_,[],_,Hst.out,Hk3.out,World.ownsRow_nil _ _ _ _,Met.start D,Kept.refl _ _⟩
 case round=>
  obtain⟨left,cnt,L,v,hrg,hv,ho,hM,hK⟩:=hrel;have Hrg:=hid hrg.out;clear hrg;go_wp2_with (at_next;refine znq rfl _ rfl rP B (N+1) 1000 D left cnt rfl Hrg.out ?_ ?_)
  · intro hl0;have hL:L=zaw va vb:=hM.out.all hl0 (zeq _) HP3.out.keys;subst hL;obtain⟨a',c',rfl,hU⟩:=zbf ho.out (zuk HltA.out HltB.out)
    have hst:Steady w.heap.size zb1 w3 wr:=z1b hK.out (fun k hk h=>by
     have hs3:=Hs3.out;rcases h with h | ⟨C,T,fr,hT,h⟩
     · exact⟨by omega,by omega,by omega⟩
     · refine⟨by omega,fun e=>?_,fun e=>?_⟩
       · subst e;rw[Hk3.out] at h;cases h;cases hT
       · subst e;obtain⟨_,_,_,_,_,_,_,_,_,h5,_⟩:=Hst.out;rw[h5] at h;cases h)
    have HP6:=hid (HP3.out.steady hst Hrg.out.owns);have Hb6:=hid (show Below w.heap.size w wr from Hb3.out.trans (hK.out.toBelow (fun k hk=>⟨by omega,by omega,by omega⟩) (Hb3.out.size)));have HU:=hid hU;have hv0:=y7 hv.out;have hwr:=Hb6.out.size;clear hl0 Hrg hv ho hM hK hU hst Hst Hk3 Hs3 Hb3 HP3 Hs2 Hbw2;generalize hR:zaw va vb=R at*;have HR:=hid hR;clear hR;have Hlt:=hid HU.out.lt;have hRl:=Hla.out;generalize wr=w6 at*;go_wp2;go_loopw [10,12,13,14,29] (fun y _ _ _ i wr2=>∃k:Nat,k≤R.length∧i=.int .i64 k∧Hid (Below w6.heap.size w6 wr2)∧Hid (OwnV2 wr2 w6.heap.size y ((R.take k).filterMap (doU va vb)))) (fun _ _ _ _ i _=>R.length - (intOf i).toNat)
    case atStart=>exact⟨0,by omega,rfl,Below.refl _ _,zso _ _⟩
    case round=>
     obtain⟨k,hk,rfl,Hb,Ho⟩:=hrel;by_cases hkn:k<R.length
     · obtain⟨bb,oo,rfl,hcell⟩:=(HU.out.below Hb.out).cells (by omega);have hc0:=hcell k hkn;have hx64:=Hlt.out _ (show nth R k∈R by simp[nth,hkn])
       have Hst:=hid (show (R.take (k+1)).filterMap (doU va vb)=(R.take k).filterMap (doU va vb)++(match doU va vb (nth R k) with | none=>[] | some e=>[e]) from by
        rw[List.take_succ_eq_append_getElem hkn,List.filterMap_append];congr 1;have:R[k]=nth R k:=by simp[nth,hkn]
        rw[this];cases h:doU va vb (nth R k) <;> simp[h])
       have HoL:=hid (show ((R.take k).filterMap (doU va vb)).length≤600 from by
        have h1:=List.length_filterMap_le (doU va vb) (R.take k);rw[List.length_take] at h1;omega)
       obtain⟨a1,n1,c1,a2,n2,c2,hat,hi1,hi2⟩:=HP6.out.vals (nth R k);have hroom:=HU.out.room;have Hm:=hid (HP6.out.own.kept (zbq Hb.out) (by simp));generalize (R.take k).filterMap (doU va vb)=V at*;generalize nth R k=x at*;have ha1:=zky HltA.out HFa.out x;have ha2:=zky HltB.out HFb.out x;have hC:=hid (zoj a1 a2 n1 c1 n2 c2 (yi va x) (yi vb x) wr (hi1.ivs.below Hb.out) (hi2.ivs.below Hb.out) (znr HltA.out x) (znr HltB.out x) (by omega));obtain⟨hg3,-,hl3⟩:=zai (g:=gOr) (zct HltA.out x) (zct HltB.out x) rfl;have hn3:=zj8 (zct HltA.out x) (zct HltB.out x);have HE:=hid (show doU va vb x=ofE x (opL gOr (yi va x) (yi vb x)) from rfl);generalize opL gOr (yi va x) (yi vb x)=O at*;have Hg3:=hid hg3;have Hl3:=hid hl3;have hO:O.length≤1002:=by omega
       clear hcell hi1 hi2 hg3 hl3 hn3 ha1 ha2;have h0:(0:Int)≤k:=by omega
       have h04:(k:Int)<(R.length:Int):=by omega
       go_wp2_with (first
        | (at_lookup;refine znp rfl _ _ _ rfl Tryz.underlying352 B 1000 D rfl Hm.out x hx64 rfl _ hat ?_)
        | (refine zkm _ _ _ rfl rfl _ 0 2 81 99 _ rfl rfl Tryz.underlying357 (by omega) Tryz.underlying81 zr4 rfl ?_)
        | (refine zkm _ _ _ rfl rfl _ 1 2 81 99 _ rfl rfl Tryz.underlying357 (by omega) Tryz.underlying81 zr4 rfl ?_))
       refine hC.out.mono ?_;rintro e w7 ⟨⟨v3,rfl,ho3⟩,hb7⟩;obtain⟨a3,c3,rfl,hI3⟩:=zah ho3 Hl3.out;have hD:=hid (z4p x a3 O.length c3 O w7 hI3 Hg3.out (by omega));have Hb7:=hid (Hb.out.trans (hb7.mono Hb.out.size));have Ho7:=hid (Ho.out.below hb7);clear ho3 hI3 hb7 hat hc0;go_wp2_with fail;refine hD.out.mono ?_;rintro e w8 ⟨hof,hb8⟩;have Hb8:=hid (Hb7.out.trans (hb8.mono Hb7.out.size));have Ho8:=hid (Ho7.out.below hb8);clear hb8;have heE:=HE.out
       cases hoE:ofE x O with
       | none=>
        rw[hoE] at hof heE;rw[heE] at Hst;simp only[List.append_nil] at Hst;obtain rfl:e=.returned (.tuple #[ky (0,0,[]) (.slice none 0 0),.bool false]):=hof;clear hoE heE HE;go_wp2;go_roundw
        case rel=>exact⟨k+1,by omega,by go_num,Hb8.out.alloc (by have:=Hb8.out.size;omega) _,by rw[Hst.out];exact Ho8.out.below ((Below.refl _ _).alloc (Nat.le_refl _) _)⟩
        case measure=>simp[intOf];omega
       | some f=>
        rw[hoE] at hof heE;rw[heE] at Hst
        have hlf:zq f.2.2:=by
         by_cases hne:O=[]
         · rw[(zhw Hg3.out Hl3.out (r:=x)).none hne] at hoE;cases hoE
         · obtain⟨f',hf',-,-,h3,-⟩:=(zhw Hg3.out Hl3.out (r:=x)).some hne;rw[hf'] at hoE;cases hoE;exact h3
        obtain⟨sa,sc,rfl,hs,hbk⟩:=z1q hof hlf;have Hbk:=hid (show 0<f.2.2.length→∀p,sa=some p→w6.heap.size≤p.block from fun _ p hp=>Nat.le_trans Hb7.out.size (hbk p hp));clear hbk;obtain⟨er,em,eh⟩:=f;simp only at hs Hbk;have Hs:=hid (hs 0)
        have hal2:Below w8.heap.size w8 ((w8.alloc (.cells #[.int .u64 er,.int .u64 em,.slice sa eh.length sc] 101)).alloc (.cells #[.int .u64 er,.int .u64 em,.slice sa eh.length sc] 101)):=
         ((Below.refl w8.heap.size w8).alloc (Nat.le_refl _) _).alloc (by simp) _
        have Hal2:=hid hal2;clear hoE heE HE hof hs hal2 hlf;go_wp2_with (at_builtin;refine z1p rfl _ _ rfl rfl w6.heap.size _ V rfl (Ho8.out.below Hal2.out) _ 1 (er,em,eh) sa eh.length sc (Hs.out.steady (P:=fun _=>True) (.of_below Hal2.out) trivial) Hbk.out rfl (yg (zg _ _ _ (by simp)) rfl rfl) (by have:=HoL.out;omega) (by have:=Hb8.out.size;simp;omega) ?_;intro v' w9 ho9 hg9);have Hb9:=hid (Below.grown (Hb8.out.trans (Hal2.out.mono Hb8.out.size)) hg9 (by have:=Hb8.out.size;have:=Hal2.out.size;omega) (fun k hk=>(Ho8.out.lt k hk).1));go_roundw
        case rel=>exact⟨k+1,by omega,by go_num,Hb9.out,by rw[Hst.out];exact ho9⟩
        case measure=>simp[intOf];omega
     · obtain rfl:k=R.length:=by omega
       have HF:=hid (show doV gOr va vb=(R.take R.length).filterMap (doU va vb) from by rw[List.take_length];unfold doV;rw[HR.out];rfl);go_wp2;go_ret;exact⟨⟨_,rfl,by rw[HF.out];exact Ho.out.lower hwr⟩,Hb6.out.trans (Hb.out.mono Hb6.out.size)⟩
  · intro x u w4 cnt4 hx hlx hhx hrg4 hlt4 hg4 hs4 hen;have hsz:=hK.out.size;have hv4:w4.heap[N]?=some (.cells #[v] 355):=(hg4.block N (by have:=Hs3.out;omega) (by simp)).trans hv.out;have ho4:w4.ownsRow (N+2) 52 1 v L.length (zi L):=qr ho.out (fun k hk1 hk2=>hg4.block k hk2 (by simp;omega));have hC:=hid (z3v N (N+2) v L x w4 hv4 ho4 (by omega) (by have:=Hs3.out;omega) (fun y hy=>zuk HltA.out HltB.out y (hM.out.sub HP3.out.keys y hy)) hM.out.asc (hM.out.new hlx) (by have:=hM.out.len HP3.out.keys;have:=Hla.out;omega));have Hx:=hid hx;have Hhx:=hid hhx;have Hrg4:=hid hrg4;have Hlt4:=hid hlt4;have Hg4:=hid hg4;have Hs4:=hid hs4;clear hx hlx hhx hrg4 hlt4 hg4 hs4 hv4 ho4 hsz;go_wp2_with fail;refine hC.out.mono ?_;rintro e w5 ⟨rfl,v5,hv5,ho5,hk5⟩;have hk45:w4.heap.size≤w5.heap.size:=hk5.size;have hrg5:w5.ranges Tryz.prog 52 rP B (N+1) 1000 D (fun z=>left z && !z.sameKey (.int .u64 (x:Int))) cnt4:=z1c Hrg4.out (hk5.row B (by have:=Hs3.out;have:=hK.out.size;have:=Hs4.out;omega) ⟨by omega,by omega⟩) (hk5.row (N+1) (by have:=Hs3.out;have:=hK.out.size;have:=Hs4.out;omega) ⟨by omega,by omega⟩);have HK5:=hid ((hK.out.grown Hg4.out (fun k hk hkw hkp=>by cases hk;exact hkp.2.2 rfl)).trans (hk5.mono (fun k hk hp=>⟨hp.1,hp.2.1⟩)));have Hrg5:=hid hrg5;have Hv5:=hid hv5;have Ho5:=hid ho5;have HM5:=hid (hM.out.step Hhx.out);clear hv5 ho5 hk5 hrg5 hen;go_wp2;go_roundw
    case rel=>exact⟨_,cnt4,_,v5,Hrg5.out,Hv5.out,Ho5.out,HM5.out,HK5.out⟩
    case measure=>rw[Hrg5.out.left_eq,Hrg.out.left_eq];exact Hlt4.out
end
end Go.Proofs.YtdnjfnofjaoajaaGreatDoor
