/- Part 18. -/
import Derived.Test.YtdnipikdddfhfaaGreatDoorWd17
set_option linter.unusedVariables false
set_option maxHeartbeats 16000000
namespace Go.Proofs.YtdnipikdddfhfaaGreatDoor
open Lib (hid)
section
open Go.RowKit
attribute [local go_sem] zad
theorem zzp (ao al x:Nat) (w:World) (h:al+x<18446744073709551616) (ha:ao<1000):
 Calls Tryz.prog 234 #[.agg #[.int .u64 (ao:Int),.int .u64 (al:Int)],.agg #[.int .u64 0,.int .u64 (x:Int)]] w fun e w'=>e=.returned (.agg #[.int .u64 (ao:Int),.int .u64 ((al+x:Nat):Int)])∧Below w.heap.size w w':=by
 have k1:IntKind.u64.wrap ((al:Int)+(x:Int))=((al+x:Nat):Int):=by rw[IntKind.wrap_u64];omega
 have k2:decide (((al+x:Nat):Int)<(al:Int))=false:=by rw[decide_eq_false_iff_not];omega
 have k3:decide (al+x<al)=false:=by rw[decide_eq_false_iff_not];omega
 clear h;go_enter Tryz.func234,Tryz.ntmps234;go_wp2_with fail;exact bodyPost_ret (v:=.agg #[.int .u64 (ao:Int),.int .u64 ((al+x:Nat):Int)]) (by simp[results,Tryz.results234,go_sem]) rfl ⟨rfl,((((Below.refl _ _).alloc (Nat.le_refl _) _).alloc (by simp) _).alloc (by simp;omega) _).alloc (by simp;omega) _⟩
theorem zzq (ao al x:Nat) (w:World) (h:¬al+x<18446744073709551616) (ha:ao<1000) (h1:al<18446744073709551616) (h2:x<18446744073709551616):
 Calls Tryz.prog 234 #[.agg #[.int .u64 (ao:Int),.int .u64 (al:Int)],.agg #[.int .u64 0,.int .u64 (x:Int)]] w fun e w'=>e=.returned (.agg #[.int .u64 ((ao+1:Nat):Int),.int .u64 ((al+x - 18446744073709551616:Nat):Int)])∧Below w.heap.size w w':=by
 have k1:IntKind.u64.wrap ((al:Int)+(x:Int))=((al+x - 18446744073709551616:Nat):Int):=by rw[IntKind.wrap_u64];omega
 have k2:decide (((al+x - 18446744073709551616:Nat):Int)<(al:Int))=true:=by rw[decide_eq_true_iff];omega
 have k3:decide (al+x - 18446744073709551616<al)=true:=by rw[decide_eq_true_iff];omega
 clear h h1 h2;generalize al+x - 18446744073709551616=y at*;go_enter Tryz.func234,Tryz.ntmps234;go_wp2_with fail;exact bodyPost_ret (v:=.agg #[.int .u64 ((ao+1:Nat):Int),.int .u64 (y:Int)]) (by simp[results,Tryz.results234,go_sem]) rfl ⟨rfl,((((Below.refl _ _).alloc (Nat.le_refl _) _).alloc (by simp) _).alloc (by simp;omega) _).alloc (by simp;omega) _⟩
def jl (s:Nat):Value:=if s<18446744073709551616 then .tuple #[.int .u64 ((s:Nat):Int),.bool true] else .tuple #[.int .u64 0,.bool false]
theorem zp5 (l:List Nat) (k:Nat) (h:k<l.length):(l.take (k+1)).sum=(l.take k).sum+nth l k:=by
 rw[zi0 l k h,List.sum_append];simp
set_option maxRecDepth 20000 in
theorem zzr (A:Option Addr) (n cp:Nat) (l:List Nat) (w:World) (hR:Rd w 1 A n (zo l)) (hl:l.length=n) (h64:∀x∈l,x<18446744073709551616) (hn:n≤10):
 Calls Tryz.prog 192 #[.slice A n cp] w fun e w'=>e=.returned (jl l.sum)∧Below w.heap.size w w':=by
 have HR:=hid hR;have Hl:=hid hl;have H64:=hid h64;clear hR hl h64;go_enter Tryz.func192,Tryz.ntmps192;go_wp2_with fail;have Hb0:=hid ((Below.refl w.heap.size w).alloc (Nat.le_refl _) (.cells #[.int .u64 0,.int .u64 0] 325));have Hr0:=hid (ju w 325 [.int .u64 0,.int .u64 0]);generalize w.alloc (.cells #[.int .u64 0,.int .u64 0] 325)=w0 at*;obtain⟨g,hg⟩:∃g,g=w.heap.size:=⟨_,rfl⟩;have Hg:=hid hg;rw[←hg] at Hr0 Hb0 ⊢;clear hg;go_loopw [6,9] (fun _ i wr=>∃k ao al:Nat,k≤n∧i=.int .i64 k∧Below g w wr∧Hid (Row wr g 325 [.int .u64 (ao:Int),.int .u64 (al:Int)])∧Hid (ao≤k∧al<18446744073709551616∧ao*18446744073709551616+al=(l.take k).sum)) (fun _ i _=>n - (intOf i).toNat)
 case atStart=>exact⟨0,0,0,by omega,rfl,Hb0.out,Hr0.out,Nat.le_refl _,by omega,rfl⟩
 case round=>
  obtain⟨k,ao,al,hk,rfl,hb,hr,hs⟩:=hrel;have Hb:=hid hb;clear hb;have q0:=hr.out.cell 0 rfl;have q1:=hr.out.cell 1 rfl;have z0:=hr.out.fz 0;have z1:=hr.out.fz 1;obtain⟨s1,s2,s3⟩:=hs.out;have Hs3:=hid s3;have s1':ao<1000:=by omega
  have Hs1:=hid s1;have Hs2:=hid s2;clear s3 s1 s2 hs;by_cases hkn:k<n
  · obtain⟨bb,oo,rfl,hc⟩:=(HR.out.below (show Below w.heap.size w wr from by rw[←Hg.out];exact Hb.out)).2 (by omega);have qx:=hc k _ (zdt l k (by rw[Hl.out];exact hkn));have hxl:=H64.out _ (zbb (show k<l.length by rw[Hl.out];exact hkn));have Hst:=hid (zp5 l k (by rw[Hl.out];exact hkn));clear hc;generalize nth l k=x at*;have Hx:=hid hxl;clear hxl;by_cases hlo:al+x<18446744073709551616
    · have HP:=hid (zzp ao al x wr hlo s1');have Hlo:=hid hlo;clear hlo;go_wp2_with fail;refine HP.out.mono ?_;rintro e w2 ⟨rfl,hb2⟩;have Hr2:=hid (((hr.out.later hb2).set 0 (.int .u64 (ao:Int))).set 1 (.int .u64 ((al+x:Nat):Int)));have f0:=(hr.out.later hb2).fz 0;have f1:=(hr.out.later hb2).fz 1;have p0:=(hr.out.later hb2).cell 0 rfl;have p1:=(hr.out.later hb2).cell 1 rfl;have Hb2:=hid (((Hb.out.trans (hb2.mono (Nat.le_trans (Nat.le_of_eq Hg.out) (by have:=hr.out.lt;have:=Hg.out;omega)))).setCell (p:=⟨g,0,none⟩) (Nat.le_refl _) (.int .u64 (ao:Int))).setCell (p:=⟨g,1,none⟩) (Nat.le_refl _) (.int .u64 ((al+x:Nat):Int)));clear hb2;go_wp2_with fail;go_roundw
      case rel=>exact⟨k+1,ao,al+x,by omega,by go_num,Hb2.out,Hr2.out,by have:=Hs1.out;omega,Hlo.out,by rw[Hst.out,←Hs3.out];omega⟩
      case measure=>simp[intOf];omega
    · have HP:=hid (zzq ao al x wr hlo s1' Hs2.out Hx.out);have Hlo:=hid hlo;clear hlo;go_wp2_with fail;refine HP.out.mono ?_;rintro e w2 ⟨rfl,hb2⟩;have Hr2:=hid (((hr.out.later hb2).set 0 (.int .u64 ((ao+1:Nat):Int))).set 1 (.int .u64 ((al+x - 18446744073709551616:Nat):Int)));have f0:=(hr.out.later hb2).fz 0;have f1:=(hr.out.later hb2).fz 1;have p0:=(hr.out.later hb2).cell 0 rfl;have p1:=(hr.out.later hb2).cell 1 rfl;have Hb2:=hid (((Hb.out.trans (hb2.mono (Nat.le_trans (Nat.le_of_eq Hg.out) (by have:=hr.out.lt;have:=Hg.out;omega)))).setCell (p:=⟨g,0,none⟩) (Nat.le_refl _) (.int .u64 ((ao+1:Nat):Int))).setCell (p:=⟨g,1,none⟩) (Nat.le_refl _) (.int .u64 ((al+x - 18446744073709551616:Nat):Int)));have Hy:=hid (show ao+1≤k+1∧al+x - 18446744073709551616<18446744073709551616∧(ao+1)*18446744073709551616+(al+x - 18446744073709551616)=ao*18446744073709551616+al+x from by have:=Hs2.out;have:=Hx.out;have:=Hlo.out;have:=Hs1.out;omega);clear hb2;generalize al+x - 18446744073709551616=y at*;generalize ao+1=ao1 at*;go_wp2_with fail;go_roundw
      case rel=>exact⟨k+1,ao1,y,by omega,by go_num,Hb2.out,Hr2.out,Hy.out.1,Hy.out.2.1,by rw[Hst.out,←Hs3.out];exact Hy.out.2.2⟩
      case measure=>simp[intOf];omega
  · obtain rfl:k=n:=by omega
    have Htk:=hid (show (l.take k).sum=l.sum from by rw[List.take_of_length_le (by rw[Hl.out];exact Nat.le_refl _)]);have Hbf:=hid (show Below w.heap.size w wr from by rw[←Hg.out];exact Hb.out);by_cases hz:ao=0
    · subst hz
      have Hs:=hid (show jl l.sum=.tuple #[.int .u64 ((al:Nat):Int),.bool true] from by
       have:=Hs3.out;have:=Hs2.out;rw[←Htk.out,←Hs3.out];unfold jl;rw[if_pos (by omega)];simp)
      go_wp2_with fail;go_ret2;exact⟨by rw[Hs.out];rfl,Hbf.out⟩
    · have h0:(0:Nat)<ao:=by omega
      have Hs:=hid (show jl l.sum=.tuple #[.int .u64 0,.bool false] from by
       rw[←Htk.out,←Hs3.out];unfold jl;rw[if_neg (by omega)])
      clear hz;go_wp2_with fail;go_ret2;exact⟨by rw[Hs.out];rfl,Hbf.out⟩
end
section
open Go.RowKit
theorem zkx (w:World) (x y:Value) (T:TypeId) (w':World) (h:Below (w.alloc (.cells #[x,y] T)).heap.size (w.alloc (.cells #[x,y] T)) w'):
 w'.cell? ⟨w.heap.size,0,none⟩=some x∧w'.cell? ⟨w.heap.size,1,none⟩=some y:=by
 have hrow:(w.alloc (.cells #[x,y] T)).heap[w.heap.size]?=some (.cells #[x,y] T):=yh rfl
 exact⟨(h.cell (p:=⟨w.heap.size,0,none⟩) (by simp)).trans (zx (i:=0) hrow rfl),
  (h.cell (p:=⟨w.heap.size,1,none⟩) (by simp)).trans (zx (i:=1) hrow rfl)⟩
set_option maxRecDepth 20000 in
theorem zzs (a:Option Addr) (n cap:Nat) (k:Kno) (w:World) (hE:Frags w a n cap k) (hD:Door w):
 Calls Tryz.prog 85 #[.slice a n cap] w fun x w'=>x=.returned (yt (zae (ckF k)))∧Below w.heap.size w w':=by
 have HE:=hid hE;have HD:=hid hD;have Hl:=hid hE.len;have hm:n≤9223372036854775807:=Nat.le_trans hE.room hE.most;have Hck:=hid (show ckF k=jy (zex k) k.length from rfl);clear hE hD;go_enter Tryz.func85,Tryz.ntmps85;go_wp2;go_loopw [3,4,5,6,9] (fun _ _ _ _ i wr=>∃d:Nat,d≤n∧i=.int .i64 d∧Below w.heap.size w wr∧Hid (∀j,j<d→zex k j=none)) (fun _ _ _ _ i _=>n - (intOf i).toNat)
 case atStart=>exact⟨0,by omega,rfl,Below.refl _ _,fun j h=>by omega⟩
 case round=>
  obtain⟨d,hd,rfl,hb,ht⟩:=hrel;have Hb:=hid hb;clear hb;by_cases hdn:d<n
  · have hdk:d<k.length:=by rw[Hl.out];exact hdn
    have HEr:=hid (HE.out.below Hb.out);obtain⟨bb,oo,rfl⟩:=HEr.out.some (by omega);obtain⟨x,m,c,y,m',c',hq⟩:=HEr.out.fix hdn;have Hat:=hid (show zex k d=match ck (zb k d).1 with | some x=>some (x.1,d) | none=>match ckV (zb k d).2 with | some x=>some (x.1,d) | none=>none from rfl);have hal:Below wr.heap.size wr (wr.alloc (.cells #[.slice x m c,.slice y m' c'] 97)):=(Below.refl _ _).alloc (Nat.le_refl _) _;have HX:=hid (zkx wr (.slice x m c) (.slice y m' c') 97);have HalW:=hid (Hb.out.trans (hal.mono Hb.out.size));have Hal:=hid hal;have hC:=hid (zm8 x m c (zb k d).1 _ (hq _ hal).2.1 (HD.out.below (Nat.le_refl _) HalW.out))
    have hV:=hid (fun w' (h:Below (wr.alloc (.cells #[.slice x m c,.slice y m' c'] 97)).heap.size (wr.alloc (.cells #[.slice x m c,.slice y m' c'] 97)) w')=>
     zzd y m' c' (zb k d).2 w' (hq _ (hal.trans (h.mono hal.size))).2.2.2 (HD.out.below (Nat.le_refl _) (HalW.out.trans (h.mono HalW.out.size))))
    have h0:(0:Int)≤d:=by omega
    have h04:(d:Int)<(n:Int):=by omega
    obtain⟨q1,-,q2,-⟩:=hq _ (Below.refl _ _);obtain⟨x0,x1⟩:=HX.out _ (Below.refl _ _);clear hq hal;generalize zb k d=f at*
    cases h:ck f.1 with
    | some z=>
     have hc0:=zos h;obtain⟨cd,ci⟩:=z;rw[h] at Hat hC;simp only[zae,yt] at Hat hC;simp only at hc0;have Hr:=hid (zcq hdk ht.out Hat.out);clear h hV;go_wp2_with fail;refine hC.out.mono ?_;rintro z w1 ⟨rfl,hb1⟩;have Hb1:=hid (HalW.out.trans (hb1.mono HalW.out.size));clear hb1;go_wp2_with fail;refine(zc4 (some ((cd:Int),some (ci:Int))) _ (HD.out.below (Nat.le_refl _) Hb1.out)).mono ?_;rintro z w2 ⟨rfl,hb2⟩;have Hb2:=hid (Hb1.out.trans (hb2.mono Hb1.out.size));clear hb2;simp only[zcm];go_wp2_with fail;refine(zby cd d _).mono ?_;rintro z w3 ⟨rfl,rfl⟩;go_wp2;go_ret
     exact⟨by rw[Hck.out,Hr.out];show _=Ending.returned (yt (some ((cd:Int),some (d:Int))));rw[←zks d hc0];rfl,Hb2.out⟩
    | none=>
     rw[h] at Hat hC;simp only[zae,yt] at Hat hC;clear h;go_wp2_with fail;refine hC.out.mono ?_;rintro z w1 ⟨rfl,hb1⟩;have Hb1:=hid hb1;have Hw1:=hid (HalW.out.trans (hb1.mono HalW.out.size));clear hb1 q1 q2 x0 x1;obtain⟨x0,x1⟩:=HX.out _ Hb1.out
     cases h:ckV f.2 with
     | some z=>
      have hc0:=zw5 h;obtain⟨cd,ci⟩:=z;rw[h] at Hat hV;simp only[zae,yt] at Hat hV;simp only at hc0;have Hr:=hid (zcq hdk ht.out Hat.out);clear h;go_wp2_with fail;refine(hV.out _ Hb1.out).mono ?_;rintro z w2 ⟨rfl,hb2⟩;have Hb2:=hid (Hw1.out.trans (hb2.mono Hw1.out.size));clear hb2;go_wp2_with fail;refine(zc4 (some ((cd:Int),some (ci:Int))) _ (HD.out.below (Nat.le_refl _) Hb2.out)).mono ?_;rintro z w3 ⟨rfl,hb3⟩;have Hb3:=hid (Hb2.out.trans (hb3.mono Hb2.out.size));clear hb3;simp only[zcm];go_wp2_with fail;refine(zby cd d _).mono ?_;rintro z w4 ⟨rfl,rfl⟩;go_wp2;go_ret
      exact⟨by rw[Hck.out,Hr.out];show _=Ending.returned (yt (some ((cd:Int),some (d:Int))));rw[←zks d hc0];rfl,Hb3.out⟩
     | none=>
      rw[h] at Hat hV;simp only[zae,yt] at Hat hV;have Hr:=hid (zfe ht.out Hat.out);clear h;go_wp2_with fail;refine(hV.out _ Hb1.out).mono ?_;rintro z w2 ⟨rfl,hb2⟩;have Hb2:=hid (Hw1.out.trans (hb2.mono Hw1.out.size));clear hb2;go_wp2;go_roundw
      case rel=>exact⟨d+1,by omega,by go_num,Hb2.out,Hr.out⟩
      case measure=>simp[intOf];omega
  · obtain rfl:d=n:=by omega
    have Hr:=hid (zcr (n:=k.length) (fun j hj=>ht.out j (by rw[←Hl.out];exact hj)));go_wp2;go_ret;exact⟨by rw[Hck.out,Hr.out];rfl,Hb.out⟩
def y9 (L:List Seg):List Iv:=L.map (·.1)
def ql (L:List Seg):List Nat:=L.map (·.2)
structure Own2 (w:World) (base:Nat) (L:List Seg) (v u:Value):Prop where
 ivs:w.ownsRow base 89 2 v L.length (ivC (y9 L))
 idx:w.ownsRow base 3 1 u L.length (qo (ql L))
 nil:L=[]→v=.slice none 0 0∧u=.slice none 0 0
theorem Own2.below {w w':World} {base:Nat} {L:List Seg} {v u:Value} (h:Own2 w base L v u) (hb:Below w.heap.size w w'):Own2 w' base L v u:=⟨qc h.ivs hb,qc h.idx hb,h.nil⟩
theorem zzt (L:List Seg) (l:List Iv) (i:Nat):(zb3 L l i).length=L.length+l.length:=by
 induction l generalizing L with
 | nil=>rfl
 | cons s l ih=>
  have e:zb3 L (s :: l) i=zb3 (zbg L s i) l i:=rfl;rw[e,ih,zzh,List.length_cons];omega
theorem zh0 (k:Kno):∀d,d≤k.length→(zav k d).length=zu (k.take d)
 | 0,_=>rfl
 | d+1,h=>by
   rw[zav,zzt,zh0 k d (by omega),List.take_succ_eq_append_getElem (by omega),zpe,ym (by omega)];simp[zu]
theorem zbq {w:World} {base sz n:Nat} {T:TypeId} {v:Value} {xs:List Value} (h:w.ownsRow base T sz v n xs) (hn:0<n):∃g cap,v=.slice (some ⟨g,0,none⟩) n cap∧base≤g∧g<w.heap.size∧n≤cap∧cap≤maxLen:=by
 rcases h.2 with ⟨_,h0⟩ | ⟨g,cap,cur,hv,hg,hh,hnc,hcm,_⟩
 · omega
 · exact⟨g,cap,hv,hg,(Array.getElem?_eq_some_iff.1 hh).1,hnc,hcm⟩
end
section
open Go.RowKit Go.Maps
def zzu (w:World) (va vb:Vec) (e:Ending) (w':World):Prop:=∃B D,e=.returned (.map (some B))∧w.heap.size≤B∧PairS w' w.heap.size B 1000 D (za3 va vb) (yb va) (yb vb)
set_option maxRecDepth 100000 in
theorem zzv (a b:Option Addr) (n c m d:Nat) (va vb:Vec) (w:World) (hA:Ents w a n c va) (hB:Ents w b m d vb) (fa:VecFits va) (fb:VecFits vb) (ca:ckV va=none) (cb:ckV vb=none):
 Calls Tryz.prog 268 #[.slice a n c,.slice b m d] w fun e w'=>zzu w va vb e w'∧Below w.heap.size w w':=by
 have HA:=hid hA;have HB:=hid hB;have Hla:=hid hA.len;have Hlb:=hid hB.len;have hn3:n≤300:=by rw[←hA.len];exact fa.len
 have hm3:m≤300:=by rw[←hB.len];exact fb.len
 have HFa:=hid fa;have HFb:=hid fb;have HCa:=hid (zho.1 ca);have HCb:=hid (zho.1 cb);have hmm:=@run_makeMap Tryz.prog;obtain⟨B,hBe⟩:∃B,B=w.heap.size:=⟨_,rfl⟩;have HBe:=hid hBe
 have Hst:=hid (show PairS (w.alloc (.map #[] 0)) B B 0 (.map []) ((va.take 0).map (·.1)) (yb (va.take 0)) (fun _=>[]) from by
  rw[hBe];exact PairS.start w w.heap.size)
 have Hb0:=hid (show Below B w (w.alloc (.map #[] 0)) from by rw[hBe];exact(Below.refl _ _).alloc (Nat.le_refl _) _);clear hA hB fa fb ca cb;go_enter Tryz.func268,Tryz.ntmps268;go_wp2;rw[←hBe];clear hBe;generalize w.alloc (.map #[] 0)=wm at*;refine wp_loop_rounds 3 ?_;rw[rounds_succ];go_wp2_with (refine zhp _ _ _ rfl rfl _ 0 2 95 93 _ rfl rfl Tryz.underlying383 (by omega) Tryz.underlying95 zo1 rfl ?_);go_loopw [9,10,21] (fun _ _ j wr=>∃k:Nat,k≤n∧j=.int .i64 k∧Hid (Below B w wr∧∃D,PairS wr B B (k) D ((va.take k).map (·.1)) (yb (va.take k)) (fun _=>[]))) (fun _ _ j _=>n - (intOf j).toNat)
 case atStart=>exact⟨0,by omega,rfl,Hb0.out,_,Hst.out⟩
 case round=>
  obtain⟨k,hk,rfl,hinv⟩:=hrel;obtain⟨hb,D,hP⟩:=hinv.out;by_cases hkn:k<n
  · have hkv:k<va.length:=by rw[Hla.out];exact hkn
    have HEr:=hid (HA.out.below (by rw[←HBe.out];exact hb));obtain⟨bb,oo,rfl⟩:=HEr.out.some (by omega);have hlt:=HA.out.lt (ze va k) (kn hkv);have hho:=HFa.out.holes (ze va k) (kn hkv);have hgd:=(zhn.1 (HCa.out.2 (ze va k) (kn hkv))).1;have Hrep:=hid (zo0 (v:=va) hkv);have Hkat:=hid (zoz HCa.out.1 hkv);obtain⟨x,l,cc,hq⟩:=HEr.out.fix hkn;obtain⟨q1,q2,q3,q4⟩:=hq _ (Below.refl _ _);obtain⟨a1,n1,c1,a2,n2,c2,hat,hi1,hi2⟩:=hP.vals (ze va k).1;generalize he:ze va k=e at*;obtain⟨er,em,eh⟩:=e;simp only at q1 q2 q3 hat hi1 hi2 hlt;obtain⟨A1,hA1⟩:∃A1,A1=wr.alloc (.cells #[.int .u64 er,.int .u64 em,.slice x l cc] 93):=⟨_,rfl⟩;have hal1:Below wr.heap.size wr A1:=by rw[hA1];exact(Below.refl _ _).alloc (Nat.le_refl _) _
    have hs1:A1.heap.size=wr.heap.size+1:=by rw[hA1];simp
    obtain⟨A2,hA2⟩:∃A2,A2=A1.alloc (.cells #[.slice a1 n1 c1,.slice a2 n2 c2] 369):=⟨_,rfl⟩;have hal2:Below A1.heap.size A1 A2:=by rw[hA2];exact(Below.refl _ _).alloc (Nat.le_refl _) _
    have hs2:A2.heap.size=wr.heap.size+2:=by rw[hA2];simp[hs1]
    have hal:Below wr.heap.size wr A2:=hal1.trans (hal2.mono (by omega));have hr1:A1.heap[wr.heap.size]?=some (.cells #[.int .u64 er,.int .u64 em,.slice x l cc] 93):=by rw[hA1];exact yh rfl
    have hr2:A2.heap[wr.heap.size+1]?=some (.cells #[.slice a1 n1 c1,.slice a2 n2 c2] 369):=by rw[hA2];exact yh hs1.symm
    have hr1':A2.heap[wr.heap.size]?=some (.cells #[.int .u64 er,.int .u64 em,.slice x l cc] 93):=(hal2.block _ (by omega)).trans hr1;have hC:=hid (zpx (er,em,eh) x l cc A2 (q4.below hal) hgd hlt.max (by have:=hho;simp only at this ⊢;omega));have Hm1:=hid (hP.own.kept (zau hal1) (by simp));have hm2:=hP.own.kept (zau hal) (by simp);have HP:=hid hP;have Hb:=hid hb;have Hlt:=hid hlt;have hrep64:=hlt.rep;have Hi1:=hid hi1;have Hi2:=hid hi2;have Hr1:=hid hr1';have Hr2:=hid hr2;have Hs1:=hid hs1;have Hs2:=hid hs2;have Hal:=hid hal;have Hm2:=hid hm2;have y0:=zx (i:=0) hr1 rfl;have y1:=zx (i:=1) hr1 rfl;have y2:=zx (i:=2) hr1 rfl;have z0:=zx (i:=0) hr1' rfl;have z1:=zx (i:=1) hr1' rfl;have z2:=zx (i:=2) hr1' rfl;clear hinv hb hP hq q4 hlt hho hgd hi1 hi2 hal1 hal2 hal hr1 hr2 hr1' hm2 hs1 hs2 he;subst hA2 hA1;have h0:(0:Int)≤k:=by omega
    have h04:(k:Int)<(n:Int):=by omega
    go_wp2_with (at_lookup;refine zj3 rfl _ _ _ rfl Tryz.underlying364 B _ D rfl Hm1.out er hrep64 rfl _ hat ?_);refine hC.out.mono ?_;rintro e w3 ⟨⟨v3,rfl,ho3⟩,hb3⟩;clear y0 y1 y2 z0 z1 z2 q1 q2 q3;obtain⟨a3,c3,rfl,hi3⟩:=zda (base':=B) ho3 (zc7 Hlt.out).2.2;have R1:=(hb3.block _ (by have:=Hs2.out;omega)).trans Hr1.out;have R2:=(hb3.block _ (by have:=Hs2.out;omega)).trans Hr2.out;have y0:=zx (i:=0) R1 rfl;have y1:=zx (i:=1) R1 rfl;have y2:=zx (i:=2) R1 rfl;have z0:=zx (i:=0) R2 rfl;have z1:=zx (i:=1) R2 rfl;have f0:w3.frozen? ⟨wr.heap.size+1,0,none⟩=false:=by simp[World.frozen?,R2]
    have f1:w3.frozen? ⟨wr.heap.size+1,1,none⟩=false:=by simp[World.frozen?,R2]
    have hBwr:B≤wr.heap.size:=by have:=Hb.out.size;have:=HBe.out;omega
    have Hst3:=hid ((Steady.of_below (base:=B) (P:=zat) (Hal.out.trans (hb3.mono Hal.out.size))).trans (Steady.setCell (a:=⟨wr.heap.size+1,0,none⟩) (u:=.slice a3 (jo (er,em,eh)).length c3) R2 (by simp only;omega) (by intro h;cases h)));have HmB:B<wr.heap.size:=HP.out.own.lt;have Hm4:=hid (((Hm2.out.kept (zau hb3) (by simp)).setCell (a:=⟨wr.heap.size+1,0,none⟩) (by simp only;omega) (.slice a3 (jo (er,em,eh)).length c3)));have Hb4:=hid (((Hb.out.trans ((Hal.out.trans (hb3.mono Hal.out.size)).mono hBwr)).setCell (p:=⟨wr.heap.size+1,0,none⟩) (by simp only;omega) (.slice a3 (jo (er,em,eh)).length c3)));have Hi3:=hid (hi3.steady (Steady.setCell (P:=zat) (a:=⟨wr.heap.size+1,0,none⟩) (u:=.slice a3 (jo (er,em,eh)).length c3) R2 (by simp only;omega) (by intro h;cases h)) rfl);have q0:(w3.setCell ⟨wr.heap.size+1,0,none⟩ (.slice a3 (jo (er,em,eh)).length c3)).cell? ⟨wr.heap.size,0,none⟩=some (.int .u64 er):=(World.cell?_of_block (Below.heap_setCell _ _ _ _ (by simp))).trans y0;generalize hL:jo (er,em,eh)=L at*;have HL:=hid hL;clear hL R1 R2 hb3 ho3 hi3 hC hat;go_wp2_with (at_mapUpdate;refine wpList_mapUpdate_own _ rfl _ _ _ 364 rfl 43 369 zb1 Tryz.underlying364 rP B _ D rfl Hm4.out (by unfold maxLen;omega) _ _ _ rfl rfl (zd4 hrep64) _ [] (zow _ _ _ _ _ _) ?_;intro w5 ho5 hg5);have Hb5:=hid (Hb4.out.grown hg5 (by have:=Hm4.out.lt;omega) (fun k hk=>by cases hk;exact Nat.le_refl _));have hsm:=zoy Hm4.out (Nat.le_refl _) hg5 zat;have st:=Hst3.out.trans hsm;have H5:=hid ((HP.out.put st (Hi3.out.steady hsm rfl) (Hi2.out.steady st rfl) ho5).congr (S' :=  (va.take (k+1)).map (·.1)) (G1':=yb (va.take (k+1))) (G2':=fun _=>[]) (fun r=>by rw[Hrep.out]) (fun r=>(Hkat.out r).symm) (fun r=>by split <;> rfl));clear hsm st ho5 hg5;go_roundw
    case rel=>exact⟨k+1,by omega,by go_num,Hb5.out,_,H5.out⟩
    case measure=>simp[intOf];omega
  · obtain rfl:k=n:=by omega
    have Hb1:=hid hb;have hall:va.take k=va:=List.take_of_length_le (by rw[Hla.out];exact Nat.le_refl _);rw[hall] at hP;clear hall hinv hb hkn;have HS1:=hid (show PairS wr B B (k+0) D (va.map (·.1)++(vb.take 0).map (·.1)) (yb va) (yb (vb.take 0)) from hP.congr (fun r=>by simp) (fun r=>rfl) (fun r=>rfl));clear hP Hst Hb0;generalize wr=wm at*;go_wp2;rw[rounds_succ];obtain⟨k0,hk0⟩:∃k0:Nat,k0=k:=⟨_,rfl⟩;rw[←hk0] at HS1;have HK0:=hid hk0;have hk0n:k0≤300:=by omega
    clear hk0;go_wp2_with (refine zhp _ _ _ rfl rfl _ 1 2 95 93 _ rfl rfl Tryz.underlying383 (by omega) Tryz.underlying95 zo1 rfl ?_);go_loopw [9,10,21] (fun _ _ j wr=>∃k:Nat,k≤m∧j=.int .i64 k∧Hid (Below B w wr∧∃D,PairS wr B B (k0+k) D (va.map (·.1)++(vb.take k).map (·.1)) (yb va) (yb (vb.take k)))) (fun _ _ j _=>m - (intOf j).toNat)
    case atStart=>exact⟨0,by omega,rfl,Hb1.out,D,HS1.out⟩
    case round=>
     obtain⟨k,hk,rfl,hinv⟩:=hrel;obtain⟨hb,D,hP⟩:=hinv.out;by_cases hkn:k<m
     · have hkv:k<vb.length:=by rw[Hlb.out];exact hkn
       have HEr:=hid (HB.out.below (by rw[←HBe.out];exact hb));obtain⟨bb,oo,rfl⟩:=HEr.out.some (by omega);have hlt:=HB.out.lt (ze vb k) (kn hkv);have hho:=HFb.out.holes (ze vb k) (kn hkv);have hgd:=(zhn.1 (HCb.out.2 (ze vb k) (kn hkv))).1;have Hrep:=hid (zo0 (v:=vb) hkv);have Hkat:=hid (zoz HCb.out.1 hkv);obtain⟨x,l,cc,hq⟩:=HEr.out.fix hkn;obtain⟨q1,q2,q3,q4⟩:=hq _ (Below.refl _ _);obtain⟨a1,n1,c1,a2,n2,c2,hat,hi1,hi2⟩:=hP.vals (ze vb k).1;generalize he:ze vb k=e at*;obtain⟨er,em,eh⟩:=e;simp only at q1 q2 q3 hat hi1 hi2 hlt;obtain⟨A1,hA1⟩:∃A1,A1=wr.alloc (.cells #[.int .u64 er,.int .u64 em,.slice x l cc] 93):=⟨_,rfl⟩;have hal1:Below wr.heap.size wr A1:=by rw[hA1];exact(Below.refl _ _).alloc (Nat.le_refl _) _
       have hs1:A1.heap.size=wr.heap.size+1:=by rw[hA1];simp
       obtain⟨A2,hA2⟩:∃A2,A2=A1.alloc (.cells #[.slice a1 n1 c1,.slice a2 n2 c2] 369):=⟨_,rfl⟩;have hal2:Below A1.heap.size A1 A2:=by rw[hA2];exact(Below.refl _ _).alloc (Nat.le_refl _) _
       have hs2:A2.heap.size=wr.heap.size+2:=by rw[hA2];simp[hs1]
       have hal:Below wr.heap.size wr A2:=hal1.trans (hal2.mono (by omega));have hr1:A1.heap[wr.heap.size]?=some (.cells #[.int .u64 er,.int .u64 em,.slice x l cc] 93):=by rw[hA1];exact yh rfl
       have hr2:A2.heap[wr.heap.size+1]?=some (.cells #[.slice a1 n1 c1,.slice a2 n2 c2] 369):=by rw[hA2];exact yh hs1.symm
       have hr1':A2.heap[wr.heap.size]?=some (.cells #[.int .u64 er,.int .u64 em,.slice x l cc] 93):=(hal2.block _ (by omega)).trans hr1;have hC:=hid (zpx (er,em,eh) x l cc A2 (q4.below hal) hgd hlt.max (by have:=hho;simp only at this ⊢;omega));have Hm1:=hid (hP.own.kept (zau hal1) (by simp));have hm2:=hP.own.kept (zau hal) (by simp);have HP:=hid hP;have Hb:=hid hb;have Hlt:=hid hlt;have hrep64:=hlt.rep;have Hi1:=hid hi1;have Hi2:=hid hi2;have Hr1:=hid hr1';have Hr2:=hid hr2;have Hs1:=hid hs1;have Hs2:=hid hs2;have Hal:=hid hal;have Hm2:=hid hm2;have y0:=zx (i:=0) hr1 rfl;have y1:=zx (i:=1) hr1 rfl;have y2:=zx (i:=2) hr1 rfl;have z0:=zx (i:=0) hr1' rfl;have z1:=zx (i:=1) hr1' rfl;have z2:=zx (i:=2) hr1' rfl;clear hinv hb hP hq q4 hlt hho hgd hi1 hi2 hal1 hal2 hal hr1 hr2 hr1' hm2 hs1 hs2 he;subst hA2 hA1;have h0:(0:Int)≤k:=by omega
       have h04:(k:Int)<(m:Int):=by omega
       go_wp2_with (at_lookup;refine zj3 rfl _ _ _ rfl Tryz.underlying364 B _ D rfl Hm1.out er hrep64 rfl _ hat ?_);refine hC.out.mono ?_;rintro e w3 ⟨⟨v3,rfl,ho3⟩,hb3⟩;clear y0 y1 y2 z0 z1 z2 q1 q2 q3;obtain⟨a3,c3,rfl,hi3⟩:=zda (base':=B) ho3 (zc7 Hlt.out).2.2;have R1:=(hb3.block _ (by have:=Hs2.out;omega)).trans Hr1.out;have R2:=(hb3.block _ (by have:=Hs2.out;omega)).trans Hr2.out;have y0:=zx (i:=0) R1 rfl;have y1:=zx (i:=1) R1 rfl;have y2:=zx (i:=2) R1 rfl;have z0:=zx (i:=0) R2 rfl;have z1:=zx (i:=1) R2 rfl;have f0:w3.frozen? ⟨wr.heap.size+1,0,none⟩=false:=by simp[World.frozen?,R2]
       have f1:w3.frozen? ⟨wr.heap.size+1,1,none⟩=false:=by simp[World.frozen?,R2]
       have hBwr:B≤wr.heap.size:=by have:=Hb.out.size;have:=HBe.out;omega
       have Hst3:=hid ((Steady.of_below (base:=B) (P:=zat) (Hal.out.trans (hb3.mono Hal.out.size))).trans (Steady.setCell (a:=⟨wr.heap.size+1,1,none⟩) (u:=.slice a3 (jo (er,em,eh)).length c3) R2 (by simp only;omega) (by intro h;cases h)));have HmB:B<wr.heap.size:=HP.out.own.lt;have Hm4:=hid (((Hm2.out.kept (zau hb3) (by simp)).setCell (a:=⟨wr.heap.size+1,1,none⟩) (by simp only;omega) (.slice a3 (jo (er,em,eh)).length c3)));have Hb4:=hid (((Hb.out.trans ((Hal.out.trans (hb3.mono Hal.out.size)).mono hBwr)).setCell (p:=⟨wr.heap.size+1,1,none⟩) (by simp only;omega) (.slice a3 (jo (er,em,eh)).length c3)));have Hi3:=hid (hi3.steady (Steady.setCell (P:=zat) (a:=⟨wr.heap.size+1,1,none⟩) (u:=.slice a3 (jo (er,em,eh)).length c3) R2 (by simp only;omega) (by intro h;cases h)) rfl);have q0:(w3.setCell ⟨wr.heap.size+1,1,none⟩ (.slice a3 (jo (er,em,eh)).length c3)).cell? ⟨wr.heap.size,0,none⟩=some (.int .u64 er):=(World.cell?_of_block (Below.heap_setCell _ _ _ _ (by simp))).trans y0;generalize hL:jo (er,em,eh)=L at*;have HL:=hid hL;clear hL R1 R2 hb3 ho3 hi3 hC hat;go_wp2_with (at_mapUpdate;refine wpList_mapUpdate_own _ rfl _ _ _ 364 rfl 43 369 zb1 Tryz.underlying364 rP B _ D rfl Hm4.out (by unfold maxLen;omega) _ _ _ rfl rfl (zd4 hrep64) _ [] (zow _ _ _ _ _ _) ?_;intro w5 ho5 hg5);have Hb5:=hid (Hb4.out.grown hg5 (by have:=Hm4.out.lt;omega) (fun k hk=>by cases hk;exact Nat.le_refl _));have hsm:=zoy Hm4.out (Nat.le_refl _) hg5 zat;have st:=Hst3.out.trans hsm;have H5:=hid ((HP.out.put st (Hi1.out.steady st rfl) (Hi3.out.steady hsm rfl) ho5).congr (S':=va.map (·.1)++(vb.take (k+1)).map (·.1)) (G1':=yb va) (G2':=yb (vb.take (k+1))) (fun r=>by rw[Hrep.out,List.append_assoc]) (fun r=>by split <;> first | rfl | (rename_i e;rw[e])) (fun r=>(Hkat.out r).symm));clear hsm st ho5 hg5;go_roundw
       case rel=>exact⟨k+1,by omega,by go_num,Hb5.out,_,H5.out⟩
       case measure=>simp[intOf];omega
     · obtain rfl:k=m:=by omega
       have Hb1:=hid hb;have hall:vb.take k=vb:=List.take_of_length_le (by rw[Hlb.out];exact Nat.le_refl _);rw[hall] at hP;clear hall hinv hb hkn;have HS2:=hid hP;clear hP HS1;go_wp2;rw[rounds_succ];go_wp2;go_ret;refine⟨⟨B,D,rfl,by rw[HBe.out];exact Nat.le_refl _,?_⟩,by rw[←HBe.out];exact Hb1.out⟩;rw[←HBe.out];have h:=HS2.out;refine PairS.congr ⟨h.own.mono (by omega),h.keys,h.vals⟩ (fun r=>?_) (fun r=>rfl) (fun r=>rfl);unfold za3;rw[zc6]
end
section
def zb4 (l:List Int) (k:Nat):Int:=l.getD k 0
theorem zh1 {l:List Int} {k:Nat} (h:k<l.length):zb4 l k=l[k]:=by simp[zb4,h]
def qq (l:List Vec) (k:Nat):Vec:=l.getD k []
theorem zcx {l:List Vec} {k:Nat} (h:k<l.length):qq l k=l[k]:=by simp[qq,h]
theorem zky {l:List Vec} {k:Nat} (h:k<l.length):qq l k∈l:=by rw[zcx h];exact List.getElem_mem h
def itB (l:List Iv) (ix:List Int) (i:Nat):Nat→List Iv
 | 0=>[]
 | d+1=>itB l ix i d++if zb4 ix d=(i:Int) then [za l d] else []
def ze0 (vs:List Vec) (l:List Iv) (ix:List Int) (d:Nat):Kno:=(List.range vs.length).map fun i=>(itB l ix i d,qq vs i)
def zh2 (vs:List Vec) (l:List Iv) (ix:List Int):Kno:=ze0 vs l ix l.length
theorem zzw {k:Kno} (hc:CanK k) {i j:Nat} (hi:i<k.length) (hj:j<k.length) (e:zb k i=zb k j):i=j:=by
 have one:∀{i j:Nat},i<j→j<k.length→zb k i=zb k j→False:=fun {i j} hij hj e=>by
  have hl:=List.pairwise_iff_getElem.1 hc.asc i j (by omega) hj hij;rw[←ym (by omega),←ym hj,e] at hl;unfold kk at hl;rw[zg3] at hl;cases hl
 rcases Nat.lt_trichotomy i j with h | h | h
 · exact(one h hj e).elim
 · exact h
 · exact(one h hi e.symm).elim
def zkz (p q:Seg):Prop:=(p.1.2<q.1.1∧(p.2=q.2→p.1.2+1<q.1.1))∨(q.1.2<p.1.1∧(p.2=q.2→q.1.2+1<p.1.1))
theorem zzx {p q:Seg} (h:zkz p q):zkz q p:=by
 rcases h with ⟨h1,h2⟩ | ⟨h1,h2⟩
 · exact .inr ⟨h1,fun e=>h2 e.symm⟩
 · exact .inl ⟨h1,fun e=>h2 e.symm⟩
theorem zp6 {l:List Iv} (h:Good l):l.Pairwise fun s t=>s.2+1<t.1:=by
 rw[List.pairwise_iff_getElem];intro i j hi hj hij;have:=zeu h hij hj;rwa [yw hi,yw hj] at this
theorem zzy {k:Kno} (hc:CanK k) {i j:Nat} (hi:i<k.length) (hj:j<k.length) (hij:i≠j) {s t:Iv} (hs:s∈(zb k i).1) (ht:t∈(zb k j).1):s.2<t.1∨t.2<s.1:=by
 have h1:=(hc.items _ (yx hi)).1.ok s hs;have h2:=(hc.items _ (yx hj)).1.ok t ht;rcases Nat.lt_or_ge s.2 t.1 with h | h
 · exact .inl h
 rcases Nat.lt_or_ge t.2 s.1 with h' | h'
 · exact .inr h'
 exfalso;refine hij (zzw hc hi hj (hc.apart _ (yx hi) _ (yx hj) (max s.1 t.1) (mem_iff.2 ⟨s,hs,?_,?_⟩) (mem_iff.2 ⟨t,ht,?_,?_⟩))) <;> omega
theorem zp7 {k:Kno} (hc:CanK k):∀d,d≤k.length→(zav k d).Pairwise zkz
 | 0,_=>List.Pairwise.nil
 | d+1,h=>by
   obtain⟨h1,h2,h3⟩:=zcg k d (by omega);obtain⟨-,g2⟩:=zku h1 d (zb k d).1;have e:zav k (d+1)=zb3 (zav k d) (zb k d).1 d:=rfl;rw[e];refine(List.Perm.pairwise_iff (fun {x y} h=>zzx h) g2).2 (List.pairwise_append.2 ⟨zp7 hc d (by omega),?_,fun p hp q hq=>?_⟩)
   · refine List.pairwise_map.2 ((zp6 (hc.items _ (yx h)).1).imp fun {s t} hst=>.inl ⟨?_,fun _=>hst⟩);simp only;omega
   · obtain⟨t,ht,rfl⟩:=List.mem_map.1 hq;obtain⟨p1,p2⟩:=h3 p hp;have hne:p.2≠d:=by omega
     rcases zzy hc (by omega:p.2<k.length) h hne p2 ht with hh | hh
     · exact .inl ⟨hh,fun e=>absurd e hne⟩
     · exact .inr ⟨hh,fun e=>absurd e hne⟩
theorem zp8 {k:Kno} (hc:CanK k):(zi k).Pairwise fun p q=>p.1.2<q.1.1∧(p.2=q.2→p.1.2+1<q.1.1):=by
 obtain⟨h1,h2,h3⟩:=zcg k k.length (Nat.le_refl _);have h4:=zp7 hc k.length (Nat.le_refl _);have ok:∀p∈zi k,p.1.1≤p.1.2:=fun p hp=>(hc.items _ (yx (h3 p hp).1)).1.ok _ (h3 p hp).2
 rw[List.pairwise_iff_getElem] at h1 h4 ⊢;intro i j hi hj hij;have e1:=h1 i j hi hj hij;have o1:=ok _ (List.getElem_mem hi);have o2:=ok _ (List.getElem_mem hj);unfold zi at o1 o2 ⊢;rcases h4 i j hi hj hij with h | h
 · exact h
 · exact absurd h.1 (by omega)
def j7 (k:Kno):List Iv:=(zi k).map (·.1)
def ze1 (k:Kno):List Int:=(zi k).map fun p=>(p.2:Int)
theorem zd8 (k:Kno):(j7 k).length=(zi k).length:=by simp[j7]
theorem zzz (k:Kno):(ze1 k).length=(zi k).length:=by simp[ze1]
theorem zh3 {k:Kno} {i:Nat} (h:i<(zi k).length):za (j7 k) i=(zi k)[i].1:=by rw[yw (by rw[zd8];exact h)];simp[j7]
theorem zz0 {k:Kno} {i:Nat} (h:i<(zi k).length):zb4 (ze1 k) i=((zi k)[i].2:Int):=by rw[zh1 (by rw[zzz];exact h)];simp[ze1]
theorem zp9 (k:Kno) (i:Nat):∀d,d≤(zi k).length→itB (j7 k) (ze1 k) i d=(((zi k).take d).filter fun p=>decide (p.2=i)).map (·.1)
 | 0,_=>by simp[itB]
 | d+1,h=>by
   rw[itB,zp9 k i d (by omega),zh3 h,zz0 h,List.take_succ_eq_append_getElem h,List.filter_append,List.map_append];congr 1;by_cases e:(zi k)[d].2=i
   · rw[if_pos (by omega),List.filter_cons_of_pos (by simpa using e)];rfl
   · rw[if_neg (by omega),List.filter_cons_of_neg (by simpa using e)];rfl
theorem zqa (k:Kno) (i:Nat):∀d,d≤k.length→(((zav k d).filter fun p=>decide (p.2=i)).map (·.1)).Perm (if i<d then (zb k i).1 else [])
 | 0,_=>by simp[zav]
 | d+1,h=>by
   obtain⟨h1,h2,h3⟩:=zcg k d (by omega);obtain⟨-,g2⟩:=zku h1 d (zb k d).1;have e:zav k (d+1)=zb3 (zav k d) (zb k d).1 d:=rfl;rw[e];refine((g2.filter _).map _).trans ?_;rw[List.filter_append,List.map_append];have ih:=zqa k i d (by omega);refine(ih.append_right _).trans ?_;by_cases hd:d=i
   · subst hd;rw[if_neg (by omega),if_pos (by omega),List.filter_eq_self.2 (fun a ha=>by obtain⟨s,_,rfl⟩:=List.mem_map.1 ha;simp),List.map_map];simp[Function.comp_def]
   · rw[List.filter_eq_nil_iff.2 (fun a ha=>by obtain⟨s,_,rfl⟩:=List.mem_map.1 ha;simpa using hd)];by_cases hi:i<d
     · rw[if_pos hi,if_pos (by omega)];simp
     · rw[if_neg hi,if_neg (by omega)];simp
theorem zz1 {k:Kno} (hc:CanK k):zh2 (k.map (·.2)) (j7 k) (ze1 k)=k:=by
 obtain⟨h1,h2,h3⟩:=zcg k k.length (Nat.le_refl _);unfold zh2 ze0;refine List.ext_getElem (by simp) fun i hi hi'=>?_
 rw[List.getElem_map,List.getElem_range,zd8,zp9 k i _ (Nat.le_refl _),List.take_length];have hp:=zqa k i k.length (Nat.le_refl _);rw[if_pos hi'] at hp;have hgood:=(hc.items _ (yx hi')).1
 have e:((zi k).filter fun p=>decide (p.2=i)).map (·.1)=(zb k i).1:=by
  refine zkv (f:=(·.1)) hp (List.pairwise_map.2 (h1.filter _)) ?_ fun s hs t ht e=>?_
  · refine(zp6 hgood).imp_of_mem fun {s t} hs ht hst=>?_
    have:=hgood.ok s hs;omega
  · exact zp0 hgood (hp.mem_iff.1 hs) (hp.mem_iff.1 ht) e
 rw[e,zcx (by simpa using hi'),List.getElem_map,ym hi']
theorem zqb (vs:List Vec) (l:List Iv) (ix:List Int) (d:Nat):(ze0 vs l ix d).length=vs.length:=by simp[ze0]
theorem zz2 {vs:List Vec} {l:List Iv} {ix:List Int} {d i:Nat} (h:i<vs.length):zb (ze0 vs l ix d) i=(itB l ix i d,qq vs i):=by
 rw[ym (by rw[zqb];exact h)];simp[ze0]
theorem zk0 (l:List Iv) (ix:List Int) (i:Nat):∀d,(itB l ix i d).length≤d
 | 0=>by simp[itB]
 | d+1=>by
   have:=zk0 l ix i d;rw[itB,List.length_append];split <;> simp <;> omega
theorem zqc {l:List Iv} {ix:List Int} {i:Nat} {s:Iv}:∀{d},d≤l.length→s∈itB l ix i d→s∈l
 | 0,_,h=>by cases h
 | d+1,hd,h=>by
   rw[itB] at h;rcases List.mem_append.1 h with h | h
   · exact zqc (by omega) h
   · split at h
     · rw[List.mem_singleton] at h;rw[h];exact zas hd
     · cases h
