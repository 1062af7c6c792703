/- Part 49. -/
import Derived.Test.YtmfhggnlainmiaaGreatDoorPk34
import Derived.Test.YtmfhggnlainmiaaGreatDoorPk28
import Derived.Test.YtmfhggnlainmiaaGreatDoorPk46
import Derived.Test.YtmfhggnlainmiaaGreatDoorPk36
set_option linter.unusedVariables false
set_option maxHeartbeats 16000000
namespace Go.Proofs.YtmfhggnlainmiaaGreatDoor
open Lib (hid)
section
open Go.RowKit
theorem yfz (a:Option Addr) (n cap p q:Nat) (l:List Nat) (w:World) (hB:Byts w a n cap l) (hp:p≤n) (hq:n+50≤q) (hn:n≤2000000000000000000) (hs:q≤4000000000000000000):
 Calls Tryz.prog 95 #[.slice a n cap,.int .i64 p,.int .i64 q] w fun e w'=>e=.returned (.tuple #[.int .i64 ((yf (l.drop p) 0 0).1:Nat),.int .u64 ((yf (l.drop p) 0 0).2.1:Nat),.int .i64 ((p+(yf (l.drop p) 0 0).2.2:Nat):Int)])∧w=w':=by
 have h:=ztl a n cap p q l w hB hp (by omega) hn hs;rw[List.take_of_length_le (by rw[hB.len];omega),show ∀k,stG q n k=k from fun k=>if_neg (fun h=>by have:=h.2;omega)] at h;exact h
set_option maxRecDepth 100000 in
theorem yf0 (a:Option Addr) (n cap p:Nat) (most:Int) (l:List Nat) (w:World) (hB:Byts w a n cap l) (hp:p≤n) (hn:n≤1000000000000) (hm0: -9223372036854775808≤most) (hm1:most≤9223372036854775807):
 Calls Tryz.prog 92 #[.slice a n cap,.int .i64 p,.int .i64 most] w fun e w'=>
  e=.returned (.tuple #[.int .i64 ((jj l p most).1:Nat),.int .i64 ((jj l p most).2.1:Nat),.int .i64 (je (jj l p most).2.2),.int .i64 (j9 (jj l p most).2.2)])∧Below w.heap.size w w':=by
 have HB:=hid hB;have Hm:=hid (And.intro hm0 hm1);clear hm0 hm1;obtain⟨hl,hlt,hnc,hcm,hnil,hc⟩:=hB;clear hnil hcm;have Hl:=hid hl;clear hl;have Hlt:=hid hlt;clear hlt;have Hc:=hid hc;clear hc
 have HS:=hid (fun (w:World) (k:Nat) (hk:k<5)=>show (w.alloc (.cells (u8s qw).toArray 5)).cell? ⟨w.heap.size,k,none⟩=some (.int .u8 ((nth qw k:Nat):Int)) from by
  rw[World.cell?_alloc_new];have:=zk2 qw k hk;simpa using this)
 go_enter Tryz.func92,Tryz.ntmps92;go_wp2_with fail;refine(z07 _).mono ?_;rintro e w' ⟨rfl,rfl⟩;have Hb0:=hid ((Below.refl w.heap.size w).alloc (Nat.le_refl _) (.cells (u8s qw).toArray 5));have HSw:=hid (HS.out w);clear HS;generalize w.alloc (.cells (u8s qw).toArray 5)=w0 at*;go_wp2_with fail;go_loopw [11] (fun i wr=>∃k q:Nat,k≤5∧i=.int .i64 k∧wr=w0.drewN q∧Hid (∀j,j<k→za0 l p j=none)) (fun i _=>5 - (intOf i).toNat)
 case atStart=>exact⟨0,0,by omega,rfl,rfl,fun j h=>by omega⟩
 case round=>
  obtain⟨k,q,hk,rfl,rfl,hH⟩:=hrel;by_cases hk5:k<5
  · by_cases hkn:p+k<n
    · have t1:decide ((n:Int)≤(p:Int)+(k:Int))=false:=by rw[decide_eq_false_iff_not];omega
      have hBr:=HB.out.below Hb0.out;obtain⟨b,o,rfl,hcell⟩:=hBr.cells (by omega);have hc:=hcell (p+k) hkn;have hs:=HSw.out k hk5;clear hcell hBr;have h0:(0:Int)≤(p:Int)+(k:Int):=by omega
      by_cases he:nth l (p+k)=nth qw k
      · have Hnext:=hid (show ∀j,j<k+1→za0 l p j=none from fun j hj=>by
         by_cases hjk:j<k
         · exact hH.out j hjk
         · obtain rfl:j=k:=by omega
           exact zhs (by rw[Hl.out];exact hkn) he)
        rw[he] at hc;generalize nth qw k=c at*;clear he;go_wp2_with fail;go_quiet (fail);go_wp2_with fail;go_roundw
        case rel=>exact⟨k+1,_,by omega,by go_num,rfl,Hnext.out⟩
        case measure=>simp[intOf];omega
      · have Hbad:=hid (zhz (most:=most) (zfc hk5 hH.out (zow (by rw[Hl.out];exact hkn) he)));have hne:(((nth l (p+k):Nat):Int) != ((nth qw k:Nat):Int))=true:=by rw[bne_iff_ne];omega
        generalize nth qw k=c at*;generalize nth l (p+k)=d at*;clear he;by_cases hk4:k=4
        · have t2:((k:Int) == 4)=true:=by rw[beq_iff_eq];omega
          rw[if_pos hk4] at Hbad;clear hk4;go_wp2_with fail;go_quiet (fail);go_wp2_with fail;refine bodyPost_ret (v:=.tuple #[.int .i64 0,.int .i64 0,.int .i64 13,.int .i64 ((p:Int)+(k:Int))]) (by simp[results,Tryz.results92,go_sem]) rfl ?_;refine⟨?_,below_drewN Hb0.out _⟩;rw[Hbad.out]
          rfl
        · have t2:((k:Int) == 4)=false:=by rw[beq_eq_false_iff_ne];omega
          rw[if_neg hk4] at Hbad;clear hk4;go_wp2_with fail;go_quiet (fail);go_wp2_with fail;refine bodyPost_ret (v:=.tuple #[.int .i64 0,.int .i64 0,.int .i64 12,.int .i64 ((p:Int)+(k:Int))]) (by simp[results,Tryz.results92,go_sem]) rfl ?_;refine⟨?_,below_drewN Hb0.out _⟩;rw[Hbad.out]
          rfl
    · have t1:decide ((n:Int)≤(p:Int)+(k:Int))=true:=by rw[decide_eq_true_iff];omega
      have Hbad:=hid (zhz (most:=most) (zfc hk5 hH.out (zgw (by rw[Hl.out];omega))));go_wp2_with fail;refine bodyPost_ret (v:=.tuple #[.int .i64 0,.int .i64 0,.int .i64 5,.int .i64 (p:Int)]) (by simp[results,Tryz.results92,go_sem]) rfl ?_;refine⟨?_,below_drewN Hb0.out _⟩;rw[Hbad.out]
      rfl
  · obtain rfl:k=5:=by omega
    rw[show ((5:Nat):Int)=5 from rfl];have hnone:=zov hH.out
    have hp5:p+5≤n:=by
     have:=hH.out 4 (by omega);unfold za0 at this;by_cases h:l.length≤p+4
     · rw[if_pos h] at this;cases this
     · rw[Hl.out] at h;omega
    have HR:=hid (z0x l p most hnone _ _ _ rfl);have hst:=zo5 (l.drop (p+5)) 0 0;have hxl:=zsz (l.drop (p+5)) 0 0 (by omega);have hjl:=zo6 (l.drop (p+5)) 0 0;rw[List.length_drop,Hl.out] at hjl;have HSc:=hid (yfz a n cap (p+5) (n+100) l (w0.drewN q) (HB.out.below (below_drewN Hb0.out q)) hp5 (by omega) (by omega) (by omega));generalize yf (l.drop (p+5)) 0 0=r at*;obtain⟨st,x,j⟩:=r;have Hxl:=hid hxl;clear hxl hnone hH;go_wp2_with fail;refine HSc.out.mono ?_;rintro e w' ⟨rfl,rfl⟩;have hst':st=0∨st=1∨st=2:=hst;clear hst;have hjl':j≤0+(n - (p+5)):=hjl;clear hjl;rcases hst' with rfl | rfl | rfl
    · have Hbad:=hid (show jj l p most=(0,0,some (5,some (p:Int))) from HR.out);go_wp2_with fail;refine bodyPost_ret (v:=.tuple #[.int .i64 0,.int .i64 0,.int .i64 5,.int .i64 (p:Int)]) (by simp[results,Tryz.results92,go_sem]) rfl ?_;refine⟨?_,below_drewN Hb0.out _⟩;rw[Hbad.out]
      rfl
    · have Hx:=hid (show x<18446744073709551616 from Hxl.out);by_cases hneg:most<0
      · have hmax:max most 0=0:=by omega
        have Hmax:=hid hmax;clear hmax;by_cases hlim:0<x
        · have Hbad:=hid (show jj l p most=(0,0,some (7,some ((p+5:Nat):Int))) from by rw[HR.out];exact if_pos (by rw[Hmax.out];omega));go_wp2_with fail;refine bodyPost_ret (v:=.tuple #[.int .i64 0,.int .i64 0,.int .i64 7,.int .i64 ((p:Int)+5)]) (by simp[results,Tryz.results92,go_sem]) rfl ?_;refine⟨?_,below_drewN Hb0.out _⟩;rw[Hbad.out]
          rfl
        · obtain rfl:x=0:=by omega
          have Hgood:=hid (show jj l p most=(p+5+j,0,none) from by rw[HR.out];exact if_neg (by rw[Hmax.out];omega));go_wp2_with fail;refine bodyPost_ret (v:=.tuple #[.int .i64 ((p:Int)+5+(j:Int)),.int .i64 0,.int .i64 0,.int .i64 (-1)]) (by simp[results,Tryz.results92,go_sem]) rfl ?_;refine⟨?_,below_drewN Hb0.out _⟩;rw[Hgood.out]
          rfl
      · obtain⟨m,rfl⟩:=Int.eq_ofNat_of_zero_le (show 0≤most by omega);have hm63:m<9223372036854775808:=by have:=Hm.out.2;omega
        have hmax:max (m:Int) 0=(m:Int):=by omega
        have Hmax:=hid hmax;clear hmax;by_cases hlim:m<x
        · have Hbad:=hid (show jj l p m=(0,0,some (7,some ((p+5:Nat):Int))) from by rw[HR.out];exact if_pos (by rw[Hmax.out];omega));go_wp2_with fail;refine bodyPost_ret (v:=.tuple #[.int .i64 0,.int .i64 0,.int .i64 7,.int .i64 ((p:Int)+5)]) (by simp[results,Tryz.results92,go_sem]) rfl ?_;refine⟨?_,below_drewN Hb0.out _⟩;rw[Hbad.out]
          rfl
        · have Hgood:=hid (show jj l p m=(p+5+j,x,none) from by rw[HR.out];exact if_neg (by rw[Hmax.out];omega));have hx63:x<9223372036854775808:=by omega
          go_wp2_with fail;refine bodyPost_ret (v:=.tuple #[.int .i64 ((p:Int)+5+(j:Int)),.int .i64 (x:Int),.int .i64 0,.int .i64 (-1)]) (by simp[results,Tryz.results92,go_sem]) rfl ?_;refine⟨?_,below_drewN Hb0.out _⟩;rw[Hgood.out]
          rfl
    · have Hbad:=hid (show jj l p most=(0,0,some (6,some ((p+5:Nat):Int))) from HR.out);go_wp2_with fail;refine bodyPost_ret (v:=.tuple #[.int .i64 0,.int .i64 0,.int .i64 6,.int .i64 ((p:Int)+5)]) (by simp[results,Tryz.results92,go_sem]) rfl ?_;refine⟨?_,below_drewN Hb0.out _⟩;rw[Hbad.out]
      rfl
end
section
open Go.RowKit
attribute [local go_sem] y9
theorem zkl {fn:Func} {t u v x:Tmp} (h:fn.results= #[.tmp t,.tmp u,.tmp v,.tmp x]) (tmps:Array Value) (P:Program) (w:World):
 (results fn tmps).run P w=.ok (.tuple #[tmps.getD t undef,tmps.getD u undef,tmps.getD v undef,tmps.getD x undef]) w:=by
 simp[results,h]
theorem yf1 {l:List Nat} {p st k:Nat} {most:Int} (h:jy l p most=.ok (st,k)):jj l p most=(st,k,none):=by rw[zs4,h]
theorem yf2 {l:List Nat} {p:Nat} {most:Int} {e:Nat×Nat} (h:jy l p most=.error e):jj l p most=(0,0,some ((e.1:Int),some (e.2:Int))):=by rw[zs4,h]
def z18 (l:List Nat) (L:zc) (base:Nat) (e:Ending) (w':World):Prop:=
 ∃ks es x V E,kq l L ks es x∧e=.returned (.tuple #[V,E,.int .i64 (x.1:Nat),.int .i64 (x.2:Nat)])∧KnosM w' base V ks∧w'.ownsRow base 3 1 E es.length (qi es)
theorem zkm {l:List Nat} {L:zc} {w w':World} {base:Nat} {V E:Value} {ks:List Kno} {es:List Nat} {x:Nat×Nat} {e:Ending} (hM:TwoM w w' base V E ks es) (hP:kq l L ks es x) (he:e=.returned (.tuple #[V,E,.int .i64 (x.1:Nat),.int .i64 (x.2:Nat)])):z18 l L w.heap.size e w'∧Below w.heap.size w w':=
 ⟨⟨ks,es,x,V,E,hP,he,hM.kn.mono hM.lo,qt hM.en hM.lo⟩,zfs (Below.refl _ _) hM.gr⟩
set_option maxRecDepth 20000 in
theorem ztr (a:Option Addr) (n cap:Nat) (l:List Nat) (L:zc) (w:World) (hB:Byts w a n cap l) (hL:LimsI L) (hn:n≤900000) (hF:L.1≤1099511627776):
 Calls Tryz.prog 48 #[.slice a n cap,lmV L] w fun e w'=>z18 l L w.heap.size e w'∧Below w.heap.size w w':=by
 have HH:=hid (fun q W (h:Below w.heap.size w W) (hq:q≤n)=>yf0 a n cap q L.1 l W (hB.below h) hq (by omega) hL.1.1 hL.1.2)
 have HRd:=hid (fun W g E q (h:Below w.heap.size w W) (hg:w.heap.size≤g) (hE:E≤4000000000000000000) (hC:CurM W g (.slice a n cap) E (.ok q)) (hq:q≤n) (hqE:q≤E)=>
  z15 (fun W' hW=>(⟨hB.below (h.grown hW h.size (fun k hk=>by cases hk;omega)),by omega,hE⟩:Rf W' a n cap E l)) hC hq hqE hn hL)
 unfold lmV at HRd ⊢;have Hl:=hid hB.lt;have Hlen:=hid hB.len;have HB:=hid (fun W (h:Below w.heap.size w W)=>hB.below h);obtain⟨wB,hwB⟩:∃wB,wB=w.alloc (.cells #[.int .i64 L.1,.int .i64 L.2.1,.int .i64 L.2.2.1,.int .i64 L.2.2.2.1,.int .i64 L.2.2.2.2] 24):=⟨_,rfl⟩
 have HT0:=hid (show TwoM w wB (w.heap.size+1) (.slice none 0 0) (.slice none 0 0) [] [] from⟨by omega,by rw[hwB];simp,zl5 _ _,World.ownsRow_nil _ _ _ _,by
  rw[hwB];exact vg (vy w none) ((Below.refl _ w).alloc (Nat.le_refl _) _)⟩)
 have HG0:=hid (show Row wB w.heap.size 24 [.int .i64 L.1,.int .i64 L.2.1,.int .i64 L.2.2.1,.int .i64 L.2.2.2.1,.int .i64 L.2.2.2.2] from by rw[hwB];exact y7 w _ _);have HwB:=hid hwB;have Hn:=hid hn;have HFm:=hid hF;clear hwB hB hL hn hF;go_enter Tryz.func48,Tryz.ntmps48;go_upto_region 1 with fail
 rw[←HwB.out];go_wp2_with fail;go_loopw [8,9,10] (fun o E i wr=>∃(ks:List Kno) (es:List Nat) (q:Nat),i=.int .i64 q∧Hid (TwoM w wr (w.heap.size+1) o E ks es)∧Hid (Row wr w.heap.size 24 [.int .i64 L.1,.int .i64 L.2.1,.int .i64 L.2.2.1,.int .i64 L.2.2.2.1,.int .i64 L.2.2.2.2])∧Hid (zbv l L ks es 0 q∧q≤n)) (fun o E i _=>n - (intOf i).toNat)
 case atStart=>exact⟨[],[],0,rfl,HT0,HG0,hid ⟨rfl,Nat.zero_le _⟩⟩
 case round=>
  obtain⟨ks,es,q,rfl,hM,hG,hI⟩:=hrel;have Hb:=hid (zfs (Below.refl _ _) hM.out.gr);have hH:=HH.out q wr Hb.out hI.out.2;have Hsz:=hid hM.out.gr.size;have l0:=hG.out.cell 0 rfl
  cases hh:jy l q L.1 with
  | error x=>
   rw[yf2 hh] at hH;simp only[je,j9] at hH;have HHq:=hid hH;have hone:qo l L q=if x.1=5 then .error (0,q) else .error x:=by unfold qo;rw[hh]
   clear hH;by_cases h5:x.1=5
   · rw[if_pos h5] at hone;have HP:=hid (show kq l L ks es (0,q) from⟨q,hI.out.1,hone⟩);have hd:((x.1:Int) == 5)=true:=by rw[beq_iff_eq];omega
     clear h5 hone hh;go_wp2_with fail;refine HHq.out.mono ?_;rintro e w2 ⟨rfl,hb2⟩;have HM2:=hid (hM.out.later hb2);clear hb2;go_wp2_with fail;refine bodyPost_ret (zkl rfl _ _ _) rfl ?_;exact zkm HM2.out HP.out rfl
   · rw[if_neg h5] at hone;have HP:=hid (show kq l L ks es x from⟨q,hI.out.1,hone⟩);have hx0:x.1≠0:=by rcases zs5 hh with e | ⟨e,-⟩ | ⟨e,-⟩ | ⟨e | e,-⟩ <;> simp[e]
     have hd:((x.1:Int) == 5)=false:=by rw[beq_eq_false_iff_ne];omega
     have hd2:((x.1:Int) != 0)=true:=by rw[bne_iff_ne];omega
     clear h5 hone hh hx0;go_wp2_with fail;refine HHq.out.mono ?_;rintro e w2 ⟨rfl,hb2⟩;have HM2:=hid (hM.out.later hb2);clear hb2;go_wp2_with fail;refine bodyPost_ret (zkl rfl _ _ _) rfl ?_
     exact zkm HM2.out HP.out rfl
  | ok y=>
   obtain⟨st,k⟩:=y;have hok:=zfd Hl.out hh;rw[yf1 hh] at hH;simp only[je,j9] at hH;have HHq:=hid hH;have hmx:(k:Int)≤1099511627776:=by have:=hok.2.2.2.1;have:=HFm.out;omega
   have hstn:st≤n:=by have:=Hlen.out;omega
   have hadd:IntKind.i64.wrap ((st:Int)+(k:Int))=((st+k:Nat):Int):=by have:=Hn.out;rw[IntKind.wrap_i64];omega
   have Hdat:=hid (show (k:Int)≤1099511627776∧st≤n∧q+6≤st∧st+k≤4000000000000000000 from⟨hmx,hstn,hok.1,by have:=Hn.out;omega⟩);have Hhh:=hid hh;clear hH hmx hstn hok hh;go_wp2_with fail;refine HHq.out.mono ?_;rintro e w2 ⟨rfl,hb2⟩;have HM2:=hid (hM.out.later hb2);have HG2:=hid (hG.out.later hb2);have Hb2:=hid (Hb.out.trans (hb2.mono Hsz.out));clear hb2 l0;go_upto_region 10 with fail
   obtain⟨wC,hwC⟩:∃wC,wC=w2.alloc (.cells #[.slice a n cap,.int .i64 (st:Int),.int .i64 ((st:Int)+(k:Int)),.int .i64 0,.int .i64 0,.bool false] 145):=⟨_,rfl⟩;have hal:=(Below.refl w2.heap.size w2).alloc (Nat.le_refl _) (.cells #[.slice a n cap,.int .i64 (st:Int),.int .i64 ((st:Int)+(k:Int)),.int .i64 0,.int .i64 0,.bool false] 145);rw[←hwC] at hal;have HC:=hid (show CurM wC w2.heap.size (.slice a n cap) (st+k) (.ok st) from by rw[hwC];exact y7 w2 145 (ze9 (.slice a n cap) (st:Int) ((st:Int)+(k:Int)) 0 0 false));have HwC:=hid hwC;have HMC:=hid (HM2.out.later hal);have HGC:=hid (HG2.out.later hal);have Hgs:=hid (show w.heap.size≤w2.heap.size from HM2.out.gr.size);have Hgn:=hid (show some w.heap.size≠some w2.heap.size from fun e=>by have:=HM2.out.hi;injection e;omega);have HbC:=hid (Hb2.out.trans (hal.mono Hgs.out));rw[←HwC.out];clear hwC hal;generalize w2.heap.size=g at*;have l0:=HGC.out.cell 0 rfl;have l1:=HGC.out.cell 1 rfl;have l2:=HGC.out.cell 2 rfl;have l3:=HGC.out.cell 3 rfl;have l4:=HGC.out.cell 4 rfl;go_wp2_with fail;refine(HRd.out wC g (st+k) st HbC.out Hgs.out Hdat.out.2.2.2 HC.out Hdat.out.2.1 (Nat.le_add_right _ _)).mono ?_;rintro e w3 hres;unfold za7 qu at hres;obtain⟨hg3,hres⟩:=hres;have HM3:=hid (HMC.out.grown HC.out (by rintro(h | h | h) <;> cases h) (by decide) (by decide) hg3 Hgs.out);have HG3:=hid (HGC.out.grown hg3 Hgn.out);clear hg3 l0 l1 l2 l3 l4
   cases hdec:jc (ze l (st+k)) (st+k) L st with
   | error x=>
    rw[hdec] at hres;obtain⟨⟨qc,hC3⟩,rfl⟩:=hres;have hone:=zhw Hhh.out hdec;have c3:=hC3.cell 3 rfl;have c4:=hC3.cell 4 rfl;have c5:=hC3.cell 5 rfl;by_cases h0:x.1=0
    · rw[if_pos h0] at hone;have HP:=hid (show kq l L ks es (0,q) from⟨q,hI.out.1,hone⟩);simp only[h0,decide_true] at c3 c5;clear hone hdec hC3 h0 c4;go_wp2_with fail;refine bodyPost_ret (zkl rfl _ _ _) rfl ?_;exact zkm HM3.out HP.out rfl
    · rw[if_neg h0] at hone;have HP:=hid (show kq l L ks es x from⟨q,hI.out.1,hone⟩);have hd:((x.1:Int) != 0)=true:=by rw[bne_iff_ne];omega
      rw[if_neg h0] at c4;clear hone hdec hC3 h0 c5;go_wp2_with fail;go_quiet (fail);go_wp2_with fail;refine bodyPost_ret (zkl rfl _ _ _) rfl ?_
      exact zkm (HM3.out.later (z7 (Below.refl _ _) _)) HP.out rfl
   | ok y=>
    obtain⟨kk,qe⟩:=y;rw[hdec] at hres;obtain⟨hC3,K,rfl,hK⟩:=hres;obtain⟨ka,kc,rfl,-⟩:=hK.frags;have hpay:=zo1 Hl.out hdec;have c3:=Row.cell hC3 3 rfl;have c5:=Row.cell hC3 5 rfl;have HK3:=hid hK;have Hdec:=hid hdec;have hEn:st+k≤n:=by have:=hpay.2.1;have:=Hlen.out;omega
    have hsub:IntKind.i64.wrap ((n:Int) - (st:Int))=((n - st:Nat):Int):=by have:=Hn.out;rw[IntKind.wrap_i64];omega
    have hsub2:IntKind.i64.wrap (((n - st:Nat):Int) - (k:Int))=((n - st - k:Nat):Int):=by have:=Hn.out;rw[IntKind.wrap_i64];omega
    clear hC3 hK hdec;by_cases hsh:l.length<st+k+4
    · have hd1:decide (((n - st - k:Nat):Int)<4)=true:=by have:=Hlen.out;rw[decide_eq_true_iff];omega
      have hd2:decide (n - st - k<4)=true:=by have:=Hlen.out;rw[decide_eq_true_iff];omega
      have HP:=hid (show kq l L ks es (0,q) from⟨q,hI.out.1,by unfold qo;rw[Hhh.out];simp only;rw[Hdec.out];simp only;rw[if_pos hsh]⟩);clear hsh hpay hEn;go_wp2_with fail;refine bodyPost_ret (zkl rfl _ _ _) rfl ?_;exact zkm HM3.out HP.out rfl
    · have hd1:decide (((n - st - k:Nat):Int)<4)=false:=by have:=Hlen.out;rw[decide_eq_false_iff_not];omega
      have hd2:decide (n - st - k<4)=false:=by have:=Hlen.out;rw[decide_eq_false_iff_not];omega
      obtain⟨sk,hsk⟩:∃sk,sk=st+k:=⟨_,rfl⟩;obtain⟨r,hr⟩:∃r,r=decide (jo (sum ((l.drop st).take k))=(l.drop sk).take 4):=⟨_,rfl⟩
      have Hone:=hid (show qo l L q=if r=true then .ok (kk,sk+4) else .error (14,sk) from by
       unfold qo;rw[Hhh.out];simp only;rw[Hdec.out];simp only;rw[if_neg hsh,hr,←hsk];split <;> rename_i h <;> simp[h])
      have hrm:=(HB.out _ Hb.out).room
      have hpay2:∀W,Below w.heap.size w W→Byts W (a.map fun x=>x.add st) k (cap - st) ((l.drop st).take k):=fun W h=>by
       have hx:=zo9 (HB.out W h) (s:=st) (e:=st+k) (by omega) hEn;unfold zed at hx;rw[show st+k - st=k by omega,if_neg (by have:=Hlen.out;omega)] at hx;exact hx
      have HPay:=hid hpay2;have hes:st+k - st=k:=by omega
      have hec:st+k+4≤cap:=by have:=Hlen.out;omega
      have Hfit:=hid (show sk+4≤n from by have:=Hlen.out;omega);have Hb3:=hid (zfs (Below.refl _ _) HM3.out.gr);have Hsk:=hid hsk;have Hr:=hid hr;clear hsh hpay hEn hrm hpay2 hr;go_wp2_with fail;refine(z05 _ _ _ _ _ (HPay.out _ Hb3.out)).mono ?_;rintro e w4 ⟨rfl,rfl⟩;have Hslt:=hid (show sum ((l.drop st).take k)<4294967296 from not_lt (zi2 (by omega) (HPay.out _ Hb3.out).lt));go_wp2_with fail;refine(z06 _ _ Hslt.out).mono ?_;rintro e w4 ⟨rfl,rfl⟩;obtain⟨S,hS⟩:∃S,S=jo (sum ((l.drop st).take k)):=⟨_,rfl⟩;have hSl:S.length=4:=by rw[hS];rfl
      have hSlt:∀x∈S,x<256:=by rw[hS];exact zht Hslt.out
      rw[←hS];have hal:=(Below.refl w3.heap.size w3).alloc (Nat.le_refl _) (.cells (u8s S).toArray 5);have HBS:=hid (show Byts (w3.alloc (.cells (u8s S).toArray 5)) (some ⟨w3.heap.size,0,none⟩) 4 4 S from zcn _ _ _ _ _ _ _ rfl hSl rfl hSlt (by omega));have HM4:=hid (HM3.out.later hal);have HG4:=hid (HG3.out.later hal);have HK4:=hid (HK3.out.later hal);have HBl:=hid (HB.out _ (Hb3.out.trans (hal.mono HM3.out.gr.size)));have HS:=hid hS;have HSl:=hid hSl;clear hS hSl hSlt hal;generalize w3.alloc (.cells (u8s S).toArray 5)=W at*;go_wp2_with fail;go_loopw [18] (fun i wr=>∃j d:Nat,j≤4∧i=.int .i64 j∧wr=W.drewN d∧Hid (∀t,t<j→nth S t=nth l (sk+t))) (fun i _=>4 - (intOf i).toNat)
      case atStart=>exact⟨0,0,by omega,rfl,rfl,hid fun t ht=>by omega⟩
      case round=>
       obtain⟨j,d,hj,rfl,rfl,ht⟩:=hrel;by_cases hj4:j<4
       · obtain⟨g1,o1,e1,hc1⟩:=HBS.out.cells (by omega);cases e1;obtain⟨g2,o2,e2,hc2⟩:=HBl.out.cells (by have:=Hfit.out;omega);cases e2;have hcS:=hc1 j hj4;rw[Nat.zero_add] at hcS;obtain⟨sj,hsj⟩:∃sj:Nat,sj=st+k+j:=⟨_,rfl⟩;have hsjn:sj<n:=by have:=Hfit.out;have:=Hsk.out;omega
         have hcl:=hc2 sj hsjn;have hadj:IntKind.i64.wrap ((st:Int)+(k:Int)+(j:Int))=((sj:Nat):Int):=by have:=Hn.out;rw[IntKind.wrap_i64];omega
         clear hc1 hc2;by_cases he:nth l sj=nth S j
         · have Ht:=hid (show ∀t,t<j+1→nth S t=nth l (sk+t) from fun t h=>by
            rcases Nat.lt_or_ge t j with h' | h'
            · exact ht.out t h'
            · obtain rfl:t=j:=by omega
              rw[Hsk.out,←hsj,he])
           rw[he] at hcl;generalize nth S j=c at*;clear he hsj;go_wp2_with fail;go_quiet (fail);go_wp2_with fail;go_roundw
           case rel=>exact⟨j+1,_,by omega,by go_num,rfl,Ht⟩
           case measure=>simp[intOf];omega
         · have hrf:r=false:=by
            rw[Hr.out];refine decide_eq_false fun heq=>he ?_
            rw[←HS.out] at heq;rw[heq,hsj,←Hsk.out];simp[nth,hj4]
           have hone:=Hone.out;rw[hrf] at hone;have HP:=hid (show kq l L ks es (14,sk) from⟨q,hI.out.1,hone⟩);have hne2:(((nth l sj:Nat):Int) != ((nth S j:Nat):Int))=true:=by rw[bne_iff_ne];omega
           generalize nth S j=c at*;generalize nth l sj=c' at*;clear he hsj hone hrf;go_wp2_with fail;go_quiet (fail);go_wp2_with fail;refine bodyPost_ret (zkl rfl _ _ _) rfl ?_;exact zkm (HM4.out.later (z7 (Below.refl _ _) _)) HP.out (by rw[Hsk.out];rfl)
       · obtain rfl:j=4:=by omega
         have hrt:r=true:=by
          rw[Hr.out];refine decide_eq_true ?_;rw[←HS.out];have h0:=ht.out 0 (by omega);have h1:=ht.out 1 (by omega);have h2:=ht.out 2 (by omega);have h3:=ht.out 3 (by omega);have hl:=Hlen.out;have hf:=Hfit.out;have hS4:=HSl.out;rw[zfb l sk (by omega),zfb l (sk+1) (by omega),zfb l (sk+1+1) (by omega),zfb l (sk+1+1+1) (by omega)];simp only[List.take_succ_cons,List.take_zero];rcases S with _ | ⟨x0,_ | ⟨x1,_ | ⟨x2,_ | ⟨x3,_ | ⟨x4,S⟩⟩⟩⟩⟩ <;> simp at hS4
          simp[nth] at h0 h1 h2 h3 ⊢;exact⟨h0,h1,h2,h3⟩
         have hone:=Hone.out;rw[hrt,if_pos rfl] at hone;have hq:=zs6 Hl.out hone;have hlk:=zkd Hl.out hI.out.1;have hle:=zo8 hI.out.1;have hI2:=hid (show zbv l L (ks++[kk]) (es++[sk+4]) 0 (sk+4)∧sk+4≤n from⟨zo0 hI.out.1 hone,Hfit.out⟩);have Hqq:=hid hq.1;have hs4:sk+4=st+k+4:=by rw[Hsk.out]
         obtain⟨q4,hq4⟩:∃q4,q4=sk+4:=⟨_,rfl⟩;rw[←hq4] at hI2 Hqq;have ha4:IntKind.i64.wrap ((st:Int)+(k:Int)+4)=(q4:Int):=by have:=Hn.out;have:=Hfit.out;rw[IntKind.wrap_i64];omega
         have hbd:=z7 (Below.refl W.heap.size W) d;have HM5:=hid (HM4.out.later hbd);have HG5:=hid (HG4.out.later hbd);have HK5:=hid (HK4.out.later hbd);obtain⟨oa,oc,rfl⟩:=HM5.out.kn.slice;obtain⟨ea,ec,rfl⟩:=jh HM5.out.en;obtain⟨o',w5,e1,E',w6,e2,hM6,hrow⟩:=HM5.out.push HK5.out q4 (by have:=hI.out.2;have:=Hn.out;omega) (by have:=hI.out.2;have:=Hn.out;omega);have HG6:=hid (hrow _ _ _ (by decide) (by decide) HG5.out);have HM6:=hid hM6;clear hrow hM6 hlk hle hq hone hrt hs4 hq4 hbd;go_wp2_with (first | (at_builtin;refine qf _ _ 26 rfl rfl _ _ rfl rfl _ _ e1 ?_) | (at_builtin;refine qf _ _ 79 rfl rfl _ _ rfl rfl _ _ e2 ?_));clear e1 e2;go_roundw
         case rel=>exact⟨ks++[kk],es++[q4],q4,rfl,HM6,HG6,hI2⟩
         case measure=>have:=Hqq.out;have:=hI2.out.2;simp[intOf];omega
end
section
open Go.RowKit
attribute [local go_sem] y9 Tryz.eqGuard_if
def CdP (l:List Nat) (L:zc) (p c:Nat):Prop:=∃ks es o,kq (l.take p) L ks es (c,o)
theorem z19 (l:List Nat) (L:zc):CdP l L 0 0:=⟨[],[],0,(zi4 L).pars (by decide)⟩
def zpo (l:List Nat) (L:zc) (h:Nat):Prop:=
 (CdP l L l.length 0∧h=l.length)∨(h≤l.length∧(∃c,c≠0∧CdP l L l.length c)∧(∃c,c≠0∧CdP l L h c)∧∃low,h=low+1∧CdP l L low 0)
set_option maxRecDepth 20000 in
theorem z2a (a:Option Addr) (n cap:Nat) (l:List Nat) (L:zc) (w:World) (hB:Byts w a n cap l) (hL:LimsI L) (hn:n≤1000) (hF:L.1≤1099511627776):
 Calls Tryz.prog 50 #[.slice a n cap,lmV L] w fun e w'=>(∃h:Nat,e=.returned (.int .i64 (h:Int))∧zpo l L h)∧Below w.heap.size w w':=by
 obtain⟨wB,hwB⟩:∃wB,wB=w.alloc (.cells #[.int .i64 L.1,.int .i64 L.2.1,.int .i64 L.2.2.1,.int .i64 L.2.2.2.1,.int .i64 L.2.2.2.2] 24):=⟨_,rfl⟩;have hbB:Below w.heap.size w wB:=by rw[hwB];exact(Below.refl _ _).alloc (Nat.le_refl _) _
 have HG:=hid (show Row wB w.heap.size 24 [.int .i64 L.1,.int .i64 L.2.1,.int .i64 L.2.2.1,.int .i64 L.2.2.2.1,.int .i64 L.2.2.2.2] from by rw[hwB];exact y7 w _ _);have HwB:=hid hwB;have HbB:=hid hbB;have l0:=HG.out.cell 0 rfl;have l1:=HG.out.cell 1 rfl;have l2:=HG.out.cell 2 rfl;have l3:=HG.out.cell 3 rfl;have l4:=HG.out.cell 4 rfl;have Hsz:=hid hbB.size;have HR:=hid (fun W y (hy:y≤n) (h:Below w.heap.size w W)=>ztr a y cap (l.take y) L W (zke (hB.below h) hy) hL (by omega) hF);have Hlen:=hid hB.len;have Hcp:=hid hB.room;have hnm:n≤9223372036854775807:=by omega
 have Hn:=hid hn;unfold lmV at HR ⊢;clear hB hL hwB hbB hn hF;go_enter Tryz.func50,Tryz.ntmps50;go_upto_region 1 with fail
 rw[←HwB.out];go_wp2_with fail;refine(HR.out _ n (Nat.le_refl n) HbB.out).mono ?_;rintro e w1 ⟨⟨ks,es,⟨x1,x2⟩,V,E,hP,rfl,-,-⟩,hb1⟩;have HG1:=hid (HG.out.later hb1);have Hb1:=hid (HbB.out.trans (hb1.mono Hsz.out));have HP:=hid (show CdP l L n x1 from⟨_,_,_,hP⟩);clear hb1 l0 l1 l2 l3 l4 hP;by_cases h0:x1=0
 · have hd:((x1:Int) == 0)=true:=by rw[beq_iff_eq];omega
   have Hf:=hid (show zpo l L n from .inl ⟨by rw[Hlen.out,←h0];exact HP.out,Hlen.out.symm⟩);clear h0;go_wp2_with fail;go_ret;exact⟨⟨n,rfl,Hf.out⟩,Hb1.out⟩
 · have hd:((x1:Int) == 0)=false:=by rw[beq_eq_false_iff_ne];omega
   have H0:=hid h0;clear h0;go_wp2_with fail;go_loopw [9,10,11,12,13,14,15] (fun lo hi _ _ _ _ _ wr=>∃p q:Nat,p<q∧q≤n∧lo=.int .i64 p∧hi=.int .i64 q∧Hid (Below w.heap.size w wr)∧Hid (CdP l L p 0)∧Hid (∃c,c≠0∧CdP l L q c)∧Hid (Row wr w.heap.size 24 [.int .i64 L.1,.int .i64 L.2.1,.int .i64 L.2.2.1,.int .i64 L.2.2.2.1,.int .i64 L.2.2.2.2])) (fun lo hi _ _ _ _ _ _=>(intOf hi).toNat - (intOf lo).toNat)
   case atStart=>
    refine⟨0,n,?_,Nat.le_refl n,rfl,rfl,Hb1,hid (z19 l L),hid ⟨x1,H0.out,HP.out⟩,HG1⟩;rcases Nat.eq_zero_or_pos n with hz | hz
    · exfalso;obtain⟨k1,e1,o1,p1⟩:=HP.out;obtain⟨k2,e2,o2,p2⟩:=z19 l L;rw[hz] at p1;obtain⟨-,-,h⟩:=zdl p2 p1;injection h with h;exact H0.out h
    · exact hz
   case round=>
    obtain⟨p,q,hpq,hqn,rfl,rfl,hb,hp,hq,hG⟩:=hrel;have hsub:IntKind.i64.wrap ((q:Int) - (p:Int))=((q - p:Nat):Int):=by rw[IntKind.wrap_i64];omega
    have hadd:IntKind.i64.wrap ((p:Int)+(q:Int))=((p+q:Nat):Int):=by have:=Hn.out;rw[IntKind.wrap_i64];omega
    obtain⟨m,hm⟩:∃m,(p+q) / 2=m:=⟨_,rfl⟩;have hquo:((p+q:Nat):Int) / 2=(m:Int):=by omega
    have hquo3:wrap64 (Int.tdiv ((p:Int)+(q:Int)) 2)=(m:Int):=by rw[Int.tdiv_eq_ediv_of_nonneg (by omega)];unfold wrap64;have:=Hn.out;omega
    have hquo2:Int.tdiv ((p+q:Nat):Int) 2=(m:Int):=by rw[Int.tdiv_eq_ediv_of_nonneg (by omega)];omega
    by_cases h1:1<q - p
    · have hd1:decide (1<((q - p:Nat):Int))=true:=by rw[decide_eq_true_iff];omega
      have hd2:decide (1<q - p)=true:=decide_eq_true h1;have hmc:m≤cap:=by have:=Hcp.out;omega
      have Hmn:=hid (show m≤n∧p<m∧m<q from by omega);have d0:=hG.out.cell 0 rfl;have d1:=hG.out.cell 1 rfl;have d2:=hG.out.cell 2 rfl;have d3:=hG.out.cell 3 rfl;have d4:=hG.out.cell 4 rfl;clear h1 hm;go_upto_region 8 with fail
      rw[hquo3];clear hquo3
      go_region_with (go_at_call 48
                      refine(HR.out wr.drew _ Hmn.out.1 hb.out.drew).mono ?_;rintro e w5 ⟨⟨ks,es,⟨y1,y2⟩,V,E,hP,rfl,hKv,hEv⟩,hb5⟩;obtain⟨va,vc,rfl⟩:=hKv.slice;obtain⟨ea,ec,rfl⟩:=jh hEv;have Hb5:=hid (hb.out.drew.trans (hb5.mono hb.out.drew.size));have HG5:=hid (show Row w5 w.heap.size 24 [.int .i64 L.1,.int .i64 L.2.1,.int .i64 L.2.2.1,.int .i64 L.2.2.2.1,.int .i64 L.2.2.2.2] from hG.out.later ((Below.refl wr.heap.size wr).drew.trans hb5));have HPm:=hid (show CdP l L m y1 from⟨_,_,_,hP⟩);clear hb5 hP hKv hEv)
      clear d0 d1 d2 d3 d4 hsub hadd hquo hquo2;by_cases hy:y1=0
      · have hdy:((y1:Int) != 0)=false:=by rw[bne_eq_false_iff_eq];omega
        have HPm:=hid (show CdP l L m 0 from by rw[←hy];exact HPm.out);clear hy;go_wp2_with fail;go_roundw
        case rel=>exact⟨m,q,Hmn.out.2.2,hqn,rfl,rfl,Hb5,HPm,hq,HG5⟩
        case measure=>simp[intOf];have:=Hmn.out;omega
      · have hdy:((y1:Int) != 0)=true:=by rw[bne_iff_ne];omega
        have HPm:=hid (show ∃c,c≠0∧CdP l L m c from⟨y1,hy,HPm.out⟩);clear hy;go_wp2_with fail;go_roundw
        case rel=>exact⟨p,m,Hmn.out.2.1,Hmn.out.1,rfl,rfl,Hb5,hp,HPm,HG5⟩
        case measure=>simp[intOf];have:=Hmn.out;omega
    · have hd1:decide (1<((q - p:Nat):Int))=false:=by rw[decide_eq_false_iff_not];omega
      have hd2:decide (1<q - p)=false:=decide_eq_false h1;have Hf:=hid (show zpo l L q from .inr ⟨by rw[Hlen.out];exact hqn,⟨x1,H0.out,by rw[Hlen.out];exact HP.out⟩,hq.out,p,by omega,hp.out⟩);clear h1 hm;go_wp2_with fail;go_ret;exact⟨⟨q,rfl,Hf.out⟩,hb.out⟩
end
section
theorem z2b {L:zc} {l t u:List Nat} {s:Dc} {ks:List Kno} {es:List Nat} {h:Nat} (hS:SI L t s ks es) (e:t++u=l) (hu:s.st<4→u=[]) (hT:zpo l L h):h=s.tk:=by
 have hne:∀{m:List Nat} {c c':Nat},(∃ks es o,kq m L ks es (c,o))→(∃ks es o,kq m L ks es (c',o))→c=c':=fun ⟨_,_,_,a⟩ ⟨_,_,_,b⟩=>by
  obtain⟨-,-,h⟩:=zdl b a;injection h
 have hall:∀{c:Nat},CdP l L l.length c→∃ks es o,kq l L ks es (c,o):=fun hc=>by
  unfold CdP at hc;rwa [List.take_length] at hc
 by_cases h4:s.st=4
 · obtain⟨b1,b2,t',c,rfl,b3⟩:=hS.bad h4;have hp:=hS.parsX h4
   have hbig:∀p,(t'++[c]).length≤p→∃ks es o,kq (l.take p) L ks es (s.vc,o):=fun p hp'=>by
    have:=zs9 ((l.take p).drop (t'++[c]).length) hp b2;have e1:(l.take p).take (t'++[c]).length=t'++[c]:=by rw[List.take_take,Nat.min_eq_left hp',←e,List.take_left]
    have hx:=List.take_append_drop (t'++[c]).length (l.take p);rw[e1] at hx;rw[hx] at this;exact⟨_,_,_,this⟩
   have hsm:∀p k,p≤t'.length→k≠0→¬CdP l L p k:=fun p k hp' hk ⟨ks',es',o',hx⟩=>by
    have:=zs9 (t'.drop p) hx hk;rw[show l.take p=t'.take p by rw[←e,List.append_assoc,List.take_append_of_le_length hp'],List.take_append_drop] at this;exact hk (hne ⟨_,_,_,this⟩ ⟨_,_,_,b3⟩)
   have htk:=hS.tk;rw[List.length_append,List.length_singleton] at htk;have hlen:(t'++[c]).length≤l.length:=by rw[←e];simp
   rcases hT with ⟨c0,-⟩ | ⟨hl,-,⟨k,k0,hk⟩,low,rfl,hlow⟩
   · exact absurd (hne (hbig l.length hlen) c0) b2
   · have h1:¬low+1≤t'.length:=fun h'=>hsm _ k h' k0 hk
     have h2:¬(t'++[c]).length≤low:=fun h'=>b2 (hne (hbig low h') hlow)
     rw[List.length_append,List.length_singleton] at h2;omega
 · have hs:=hS.st;have h5:s.st<4:=by omega
   rw[hu h5,List.append_nil] at e;subst e;rcases hT with ⟨-,rfl⟩ | ⟨-,⟨c,c0,hc⟩,-⟩
   · exact hS.tk.symm
   · exact absurd (hne (hall hc) ⟨_,_,_,hS.pars h5⟩) c0
