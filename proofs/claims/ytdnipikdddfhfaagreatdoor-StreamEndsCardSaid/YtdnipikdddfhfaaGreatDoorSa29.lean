/- Part 29. -/
import Derived.Test.YtdnipikdddfhfaaGreatDoorSa28
import Derived.Test.YtdnipikdddfhfaaGreatDoorSa22
set_option linter.unusedVariables false
set_option maxHeartbeats 16000000
namespace Go.Proofs.YtdnipikdddfhfaaGreatDoor
open Lib (hid)
section
open Go.RowKit
attribute [local go_sem] yq
theorem zdl {fn:Func} {t u v x:Tmp} (h:fn.results= #[.tmp t,.tmp u,.tmp v,.tmp x]) (tmps:Array Value) (P:Program) (w:World):
 (results fn tmps).run P w=.ok (.tuple #[tmps.getD t undef,tmps.getD u undef,tmps.getD v undef,tmps.getD x undef]) w:=by
 simp[results,h]
theorem zyx {l:List Nat} {p st k:Nat} {most:Int} (h:yu l p most=.ok (st,k)):vq l p most=(st,k,none):=by rw[zo3,h]
theorem zyy {l:List Nat} {p:Nat} {most:Int} {e:Nat×Nat} (h:yu l p most=.error e):vq l p most=(0,0,some ((e.1:Int),some (e.2:Int))):=by rw[zo3,h]
def zpa (l:List Nat) (L:za) (base:Nat) (e:Ending) (w':World):Prop:=
 ∃ks es x V E,vy l L ks es x∧e=.returned (.tuple #[V,E,.int .i64 (x.1:Nat),.int .i64 (x.2:Nat)])∧KnosM w' base V ks∧w'.ownsRow base 3 1 E es.length (qz es)
theorem zdm {l:List Nat} {L:za} {w w':World} {base:Nat} {V E:Value} {ks:List Kno} {es:List Nat} {x:Nat×Nat} {e:Ending} (hM:TwoM w w' base V E ks es) (hP:vy l L ks es x) (he:e=.returned (.tuple #[V,E,.int .i64 (x.1:Nat),.int .i64 (x.2:Nat)])):zpa l L w.heap.size e w'∧Below w.heap.size w w':=
 ⟨⟨ks,es,x,V,E,hP,he,hM.kn.mono hM.lo,zad hM.en hM.lo⟩,zdu (Below.refl _ _) hM.gr⟩
set_option maxRecDepth 20000 in
theorem zyz (a:Option Addr) (n cap:Nat) (l:List Nat) (L:za) (w:World) (hB:Byts w a n cap l) (hL:LimsI L) (hn:n≤900000) (hF:L.1≤1099511627776):
 Calls Tryz.prog 34 #[.slice a n cap,lmV L] w fun e w'=>zpa l L w.heap.size e w'∧Below w.heap.size w w':=by
 have HH:=hid (fun q W (h:Below w.heap.size w W) (hq:q≤n)=>zxz a n cap q L.1 l W (hB.below h) hq (by omega) hL.1.1 hL.1.2)
 have HRd:=hid (fun W g E q (h:Below w.heap.size w W) (hg:w.heap.size≤g) (hE:E≤4000000000000000000) (hC:CurM W g (.slice a n cap) E (.ok q)) (hq:q≤n) (hqE:q≤E)=>
  zyu (fun W' hW=>(⟨hB.below (h.grown hW h.size (fun k hk=>by cases hk;omega)),by omega,hE⟩:Rf W' a n cap E l)) hC hq hqE hn hL)
 unfold lmV at HRd ⊢;have Hl:=hid hB.lt;have Hlen:=hid hB.len;have HB:=hid (fun W (h:Below w.heap.size w W)=>hB.below h);obtain⟨wB,hwB⟩:∃wB,wB=w.alloc (.cells #[.int .i64 L.1,.int .i64 L.2.1,.int .i64 L.2.2.1,.int .i64 L.2.2.2.1,.int .i64 L.2.2.2.2] 24):=⟨_,rfl⟩
 have HT0:=hid (show TwoM w wB (w.heap.size+1) (.slice none 0 0) (.slice none 0 0) [] [] from⟨by omega,by rw[hwB];simp,zh5 _ _,World.ownsRow_nil _ _ _ _,by
  rw[hwB];exact ym (y7 w none) ((Below.refl _ w).alloc (Nat.le_refl _) _)⟩)
 have HG0:=hid (show Row wB w.heap.size 24 [.int .i64 L.1,.int .i64 L.2.1,.int .i64 L.2.2.1,.int .i64 L.2.2.2.1,.int .i64 L.2.2.2.2] from by rw[hwB];exact yo w _ _);have HwB:=hid hwB;have Hn:=hid hn;have HFm:=hid hF;clear hwB hB hL hn hF;go_enter Tryz.func34,Tryz.ntmps34;go_upto_region 1 with fail
 rw[←HwB.out];go_wp2_with fail;go_loopw [8,9,10] (fun o E i wr=>∃(ks:List Kno) (es:List Nat) (q:Nat),i=.int .i64 q∧Hid (TwoM w wr (w.heap.size+1) o E ks es)∧Hid (Row wr w.heap.size 24 [.int .i64 L.1,.int .i64 L.2.1,.int .i64 L.2.2.1,.int .i64 L.2.2.2.1,.int .i64 L.2.2.2.2])∧Hid (ku l L ks es 0 q∧q≤n)) (fun o E i _=>n - (intOf i).toNat)
 case atStart=>exact⟨[],[],0,rfl,HT0,HG0,hid ⟨rfl,Nat.zero_le _⟩⟩
 case round=>
  obtain⟨ks,es,q,rfl,hM,hG,hI⟩:=hrel;have Hb:=hid (zdu (Below.refl _ _) hM.out.gr);have hH:=HH.out q wr Hb.out hI.out.2;have Hsz:=hid hM.out.gr.size;have l0:=hG.out.cell 0 rfl
  cases hh:yu l q L.1 with
  | error x=>
   rw[zyy hh] at hH;simp only[zat,zds] at hH;have HHq:=hid hH;have hone:qg l L q=if x.1=5 then .error (0,q) else .error x:=by unfold qg;rw[hh]
   clear hH;by_cases h5:x.1=5
   · rw[if_pos h5] at hone;have HP:=hid (show vy l L ks es (0,q) from⟨q,hI.out.1,hone⟩);have hd:((x.1:Int) == 5)=true:=by rw[beq_iff_eq];omega
     clear h5 hone hh;go_wp2_with fail;refine HHq.out.mono ?_;rintro e w2 ⟨rfl,hb2⟩;have HM2:=hid (hM.out.later hb2);clear hb2;go_wp2_with fail;refine bodyPost_ret (zdl rfl _ _ _) rfl ?_;exact zdm HM2.out HP.out rfl
   · rw[if_neg h5] at hone;have HP:=hid (show vy l L ks es x from⟨q,hI.out.1,hone⟩);have hx0:x.1≠0:=by rcases zys hh with e | ⟨e,-⟩ | ⟨e,-⟩ | ⟨e | e,-⟩ <;> simp[e]
     have hd:((x.1:Int) == 5)=false:=by rw[beq_eq_false_iff_ne];omega
     have hd2:((x.1:Int) != 0)=true:=by rw[bne_iff_ne];omega
     clear h5 hone hh hx0;go_wp2_with fail;refine HHq.out.mono ?_;rintro e w2 ⟨rfl,hb2⟩;have HM2:=hid (hM.out.later hb2);clear hb2;go_wp2_with fail;refine bodyPost_ret (zdl rfl _ _ _) rfl ?_
     exact zdm HM2.out HP.out rfl
  | ok y=>
   obtain⟨st,k⟩:=y;have hok:=zb7 Hl.out hh;rw[zyx hh] at hH;simp only[zat,zds] at hH;have HHq:=hid hH;have hmx:(k:Int)≤1099511627776:=by have:=hok.2.2.2.1;have:=HFm.out;omega
   have hstn:st≤n:=by have:=Hlen.out;omega
   have hadd:IntKind.i64.wrap ((st:Int)+(k:Int))=((st+k:Nat):Int):=by have:=Hn.out;rw[IntKind.wrap_i64];omega
   have Hdat:=hid (show (k:Int)≤1099511627776∧st≤n∧q+6≤st∧st+k≤4000000000000000000 from⟨hmx,hstn,hok.1,by have:=Hn.out;omega⟩);have Hhh:=hid hh;clear hH hmx hstn hok hh;go_wp2_with fail;refine HHq.out.mono ?_;rintro e w2 ⟨rfl,hb2⟩;have HM2:=hid (hM.out.later hb2);have HG2:=hid (hG.out.later hb2);have Hb2:=hid (Hb.out.trans (hb2.mono Hsz.out));clear hb2 l0;go_upto_region 10 with fail
   obtain⟨wC,hwC⟩:∃wC,wC=w2.alloc (.cells #[.slice a n cap,.int .i64 (st:Int),.int .i64 ((st:Int)+(k:Int)),.int .i64 0,.int .i64 0,.bool false] 106):=⟨_,rfl⟩;have hal:=(Below.refl w2.heap.size w2).alloc (Nat.le_refl _) (.cells #[.slice a n cap,.int .i64 (st:Int),.int .i64 ((st:Int)+(k:Int)),.int .i64 0,.int .i64 0,.bool false] 106);rw[←hwC] at hal;have HC:=hid (show CurM wC w2.heap.size (.slice a n cap) (st+k) (.ok st) from by rw[hwC];exact yo w2 106 (za1 (.slice a n cap) (st:Int) ((st:Int)+(k:Int)) 0 0 false));have HwC:=hid hwC;have HMC:=hid (HM2.out.later hal);have HGC:=hid (HG2.out.later hal);have Hgs:=hid (show w.heap.size≤w2.heap.size from HM2.out.gr.size);have Hgn:=hid (show some w.heap.size≠some w2.heap.size from fun e=>by have:=HM2.out.hi;injection e;omega);have HbC:=hid (Hb2.out.trans (hal.mono Hgs.out));rw[←HwC.out];clear hwC hal;generalize w2.heap.size=g at*;have l0:=HGC.out.cell 0 rfl;have l1:=HGC.out.cell 1 rfl;have l2:=HGC.out.cell 2 rfl;have l3:=HGC.out.cell 3 rfl;have l4:=HGC.out.cell 4 rfl;go_wp2_with fail;refine(HRd.out wC g (st+k) st HbC.out Hgs.out Hdat.out.2.2.2 HC.out Hdat.out.2.1 (Nat.le_add_right _ _)).mono ?_;rintro e w3 hres;unfold jh zr at hres;obtain⟨hg3,hres⟩:=hres;have HM3:=hid (HMC.out.grown HC.out (by rintro(h | h | h) <;> cases h) (by decide) (by decide) hg3 Hgs.out);have HG3:=hid (HGC.out.grown hg3 Hgn.out);clear hg3 l0 l1 l2 l3 l4
   cases hdec:yd (zb l (st+k)) (st+k) L st with
   | error x=>
    rw[hdec] at hres;obtain⟨⟨qc,hC3⟩,rfl⟩:=hres;have hone:=zcq Hhh.out hdec;have c3:=hC3.cell 3 rfl;have c4:=hC3.cell 4 rfl;have c5:=hC3.cell 5 rfl;by_cases h0:x.1=0
    · rw[if_pos h0] at hone;have HP:=hid (show vy l L ks es (0,q) from⟨q,hI.out.1,hone⟩);simp only[h0,decide_true] at c3 c5;clear hone hdec hC3 h0 c4;go_wp2_with fail;refine bodyPost_ret (zdl rfl _ _ _) rfl ?_;exact zdm HM3.out HP.out rfl
    · rw[if_neg h0] at hone;have HP:=hid (show vy l L ks es x from⟨q,hI.out.1,hone⟩);have hd:((x.1:Int) != 0)=true:=by rw[bne_iff_ne];omega
      rw[if_neg h0] at c4;clear hone hdec hC3 h0 c5;go_wp2_with fail;go_quiet (fail);go_wp2_with fail;refine bodyPost_ret (zdl rfl _ _ _) rfl ?_
      exact zdm (HM3.out.later (zq (Below.refl _ _) _)) HP.out rfl
   | ok y=>
    obtain⟨kk,qe⟩:=y;rw[hdec] at hres;obtain⟨hC3,K,rfl,hK⟩:=hres;obtain⟨ka,kc,rfl,-⟩:=hK.frags;have hpay:=znq Hl.out hdec;have c3:=Row.cell hC3 3 rfl;have c5:=Row.cell hC3 5 rfl;have HK3:=hid hK;have Hdec:=hid hdec;have hEn:st+k≤n:=by have:=hpay.2.1;have:=Hlen.out;omega
    have hsub:IntKind.i64.wrap ((n:Int) - (st:Int))=((n - st:Nat):Int):=by have:=Hn.out;rw[IntKind.wrap_i64];omega
    have hsub2:IntKind.i64.wrap (((n - st:Nat):Int) - (k:Int))=((n - st - k:Nat):Int):=by have:=Hn.out;rw[IntKind.wrap_i64];omega
    clear hC3 hK hdec;by_cases hsh:l.length<st+k+4
    · have hd1:decide (((n - st - k:Nat):Int)<4)=true:=by have:=Hlen.out;rw[decide_eq_true_iff];omega
      have hd2:decide (n - st - k<4)=true:=by have:=Hlen.out;rw[decide_eq_true_iff];omega
      have HP:=hid (show vy l L ks es (0,q) from⟨q,hI.out.1,by unfold qg;rw[Hhh.out];simp only;rw[Hdec.out];simp only;rw[if_pos hsh]⟩);clear hsh hpay hEn;go_wp2_with fail;refine bodyPost_ret (zdl rfl _ _ _) rfl ?_;exact zdm HM3.out HP.out rfl
    · have hd1:decide (((n - st - k:Nat):Int)<4)=false:=by have:=Hlen.out;rw[decide_eq_false_iff_not];omega
      have hd2:decide (n - st - k<4)=false:=by have:=Hlen.out;rw[decide_eq_false_iff_not];omega
      obtain⟨sk,hsk⟩:∃sk,sk=st+k:=⟨_,rfl⟩;obtain⟨r,hr⟩:∃r,r=decide (qu (sum ((l.drop st).take k))=(l.drop sk).take 4):=⟨_,rfl⟩
      have Hone:=hid (show qg l L q=if r=true then .ok (kk,sk+4) else .error (14,sk) from by
       unfold qg;rw[Hhh.out];simp only;rw[Hdec.out];simp only;rw[if_neg hsh,hr,←hsk];split <;> rename_i h <;> simp[h])
      have hrm:=(HB.out _ Hb.out).room
      have hpay2:∀W,Below w.heap.size w W→Byts W (a.map fun x=>x.add st) k (cap - st) ((l.drop st).take k):=fun W h=>by
       have hx:=zyw (HB.out W h) (s:=st) (e:=st+k) (by omega) hEn;unfold zij at hx;rw[show st+k - st=k by omega,if_neg (by have:=Hlen.out;omega)] at hx;exact hx
      have HPay:=hid hpay2;have hes:st+k - st=k:=by omega
      have hec:st+k+4≤cap:=by have:=Hlen.out;omega
      have Hfit:=hid (show sk+4≤n from by have:=Hlen.out;omega);have Hb3:=hid (zdu (Below.refl _ _) HM3.out.gr);have Hsk:=hid hsk;have Hr:=hid hr;clear hsh hpay hEn hrm hpay2 hr;go_wp2_with fail;refine(zxm _ _ _ _ _ (HPay.out _ Hb3.out)).mono ?_;rintro e w4 ⟨rfl,rfl⟩;have Hslt:=hid (show sum ((l.drop st).take k)<4294967296 from zgc (zcy (by omega) (HPay.out _ Hb3.out).lt));go_wp2_with fail;refine(zxo _ _ Hslt.out).mono ?_;rintro e w4 ⟨rfl,rfl⟩;obtain⟨S,hS⟩:∃S,S=qu (sum ((l.drop st).take k)):=⟨_,rfl⟩;have hSl:S.length=4:=by rw[hS];rfl
      have hSlt:∀x∈S,x<256:=by rw[hS];exact zeu Hslt.out
      rw[←hS];have hal:=(Below.refl w3.heap.size w3).alloc (Nat.le_refl _) (.cells (u8s S).toArray 5);have HBS:=hid (show Byts (w3.alloc (.cells (u8s S).toArray 5)) (some ⟨w3.heap.size,0,none⟩) 4 4 S from za4 _ _ _ _ _ _ _ rfl hSl rfl hSlt (by omega));have HM4:=hid (HM3.out.later hal);have HG4:=hid (HG3.out.later hal);have HK4:=hid (HK3.out.later hal);have HBl:=hid (HB.out _ (Hb3.out.trans (hal.mono HM3.out.gr.size)));have HS:=hid hS;have HSl:=hid hSl;clear hS hSl hSlt hal;generalize w3.alloc (.cells (u8s S).toArray 5)=W at*;go_wp2_with fail;go_loopw [18] (fun i wr=>∃j d:Nat,j≤4∧i=.int .i64 j∧wr=W.drewN d∧Hid (∀t,t<j→nth S t=nth l (sk+t))) (fun i _=>4 - (intOf i).toNat)
      case atStart=>exact⟨0,0,by omega,rfl,rfl,hid fun t ht=>by omega⟩
      case round=>
       obtain⟨j,d,hj,rfl,rfl,ht⟩:=hrel;by_cases hj4:j<4
       · obtain⟨g1,o1,e1,hc1⟩:=HBS.out.cells (by omega);cases e1;obtain⟨g2,o2,e2,hc2⟩:=HBl.out.cells (by have:=Hfit.out;omega);cases e2;have hcS:=hc1 j hj4;rw[Nat.zero_add] at hcS;obtain⟨sj,hsj⟩:∃sj:Nat,sj=st+k+j:=⟨_,rfl⟩;have hsjn:sj<n:=by have:=Hfit.out;have:=Hsk.out;omega
         have hcl:=hc2 sj hsjn;have hadj:IntKind.i64.wrap ((st:Int)+(k:Int)+(j:Int))=((sj:Nat):Int):=by have:=Hn.out;rw[IntKind.wrap_i64];omega
         clear hc1 hc2;by_cases he:nth l sj=nth S j
         · have Ht:=hid (show ∀t,t<j+1→nth S t=nth l (sk+t) from fun t h=>by
            rcases Nat.lt_or_ge t j with h' | h'
            · exact ht.out t h'
            · obtain rfl:t=j:=by omega
              rw[Hsk.out,←hsj,he])
           rw[he] at hcl;generalize nth S j=c at*;clear he hsj;go_wp2_with fail;go_quiet (fail);go_wp2_with fail;go_roundw
           case rel=>exact⟨j+1,_,by omega,by go_num,rfl,Ht⟩
           case measure=>simp[intOf];omega
         · have hrf:r=false:=by
            rw[Hr.out];refine decide_eq_false fun heq=>he ?_
            rw[←HS.out] at heq;rw[heq,hsj,←Hsk.out];simp[nth,hj4]
           have hone:=Hone.out;rw[hrf] at hone;have HP:=hid (show vy l L ks es (14,sk) from⟨q,hI.out.1,hone⟩);have hne2:(((nth l sj:Nat):Int) != ((nth S j:Nat):Int))=true:=by rw[bne_iff_ne];omega
           generalize nth S j=c at*;generalize nth l sj=c' at*;clear he hsj hone hrf;go_wp2_with fail;go_quiet (fail);go_wp2_with fail;refine bodyPost_ret (zdl rfl _ _ _) rfl ?_;exact zdm (HM4.out.later (zq (Below.refl _ _) _)) HP.out (by rw[Hsk.out];rfl)
       · obtain rfl:j=4:=by omega
         have hrt:r=true:=by
          rw[Hr.out];refine decide_eq_true ?_;rw[←HS.out];have h0:=ht.out 0 (by omega);have h1:=ht.out 1 (by omega);have h2:=ht.out 2 (by omega);have h3:=ht.out 3 (by omega);have hl:=Hlen.out;have hf:=Hfit.out;have hS4:=HSl.out;rw[zeo l sk (by omega),zeo l (sk+1) (by omega),zeo l (sk+1+1) (by omega),zeo l (sk+1+1+1) (by omega)];simp only[List.take_succ_cons,List.take_zero];rcases S with _ | ⟨x0,_ | ⟨x1,_ | ⟨x2,_ | ⟨x3,_ | ⟨x4,S⟩⟩⟩⟩⟩ <;> simp at hS4
          simp[nth] at h0 h1 h2 h3 ⊢;exact⟨h0,h1,h2,h3⟩
         have hone:=Hone.out;rw[hrt,if_pos rfl] at hone;have hq:=zo6 Hl.out hone;have hlk:=zo7 Hl.out hI.out.1;have hle:=zo4 hI.out.1;have hI2:=hid (show ku l L (ks++[kk]) (es++[sk+4]) 0 (sk+4)∧sk+4≤n from⟨zht hI.out.1 hone,Hfit.out⟩);have Hqq:=hid hq.1;have hs4:sk+4=st+k+4:=by rw[Hsk.out]
         obtain⟨q4,hq4⟩:∃q4,q4=sk+4:=⟨_,rfl⟩;rw[←hq4] at hI2 Hqq;have ha4:IntKind.i64.wrap ((st:Int)+(k:Int)+4)=(q4:Int):=by have:=Hn.out;have:=Hfit.out;rw[IntKind.wrap_i64];omega
         have hbd:=zq (Below.refl W.heap.size W) d;have HM5:=hid (HM4.out.later hbd);have HG5:=hid (HG4.out.later hbd);have HK5:=hid (HK4.out.later hbd);obtain⟨oa,oc,rfl⟩:=HM5.out.kn.slice;obtain⟨ea,ec,rfl⟩:=jm HM5.out.en;obtain⟨o',w5,e1,E',w6,e2,hM6,hrow⟩:=HM5.out.push HK5.out q4 (by have:=hI.out.2;have:=Hn.out;omega) (by have:=hI.out.2;have:=Hn.out;omega);have HG6:=hid (hrow _ _ _ (by decide) (by decide) HG5.out);have HM6:=hid hM6;clear hrow hM6 hlk hle hq hone hrt hs4 hq4 hbd;go_wp2_with (first | (at_builtin;refine yv _ _ 55 rfl rfl _ _ rfl rfl _ _ e1 ?_) | (at_builtin;refine yv _ _ 60 rfl rfl _ _ rfl rfl _ _ e2 ?_));clear e1 e2;go_roundw
         case rel=>exact⟨ks++[kk],es++[q4],q4,rfl,HM6,HG6,hI2⟩
         case measure=>have:=Hqq.out;have:=hI2.out.2;simp[intOf];omega
end
section
open Go.RowKit
attribute [local go_sem] yq Tryz.eqGuard_if
theorem zy0 {L:za} {t u l:List Nat} {s:Dc} {ks:List Kno} {es:List Nat} (h:SI L t s ks es) (e:t++u=l) (hu:s.st<4→u=[]):
 (s.vc=0∧s.vo=l.length∧zal s=.nilIface)∨(s.vc=0∧s.vo≠l.length∧zal s=vt vu 5 (l.length:Nat))∨(s.vc≠0∧zal s=vt vu (s.vc:Nat) (s.vo:Nat)):=by
 by_cases h4:s.st=4
 · have hv:=(h.bad h4).2.1;refine .inr (.inr ⟨hv,?_⟩);unfold zal zc2;rw[if_pos h4,if_neg (by omega)]
 · have hs:=h.st;have h5:s.st<4:=by omega
   rw[hu h5,List.append_nil] at e;obtain⟨v1,v2⟩:=h.ver h5;have hk:=h.tk;have hf:=h.fin;subst e;unfold zal zc2;by_cases ho:s.fin=t.length
   · refine .inl ⟨v1,by rw[v2,ho],?_⟩;rw[if_neg h4,if_neg (by omega)]
   · refine .inr (.inl ⟨v1,by rw[v2];exact ho,?_⟩);rw[if_neg h4,if_pos (by omega),if_neg (by decide),hk]
set_option maxRecDepth 20000 in
theorem zy1 (a:Option Addr) (n cap:Nat) (l:List Nat) (L:za) (w:World) (hB:Byts w a n cap l) (hL:LimsI L) (hD:Door w):
 Calls Tryz.prog 9 #[.slice a n cap,lmV L] w fun e w'=>e=.returned (.bool true)∧Below w.heap.size w w':=by
 obtain⟨wB,hwB⟩:∃wB,wB=w.alloc (.cells #[.int .i64 L.1,.int .i64 L.2.1,.int .i64 L.2.2.1,.int .i64 L.2.2.2.1,.int .i64 L.2.2.2.2] 24):=⟨_,rfl⟩;have hbB:Below w.heap.size w wB:=by rw[hwB];exact(Below.refl _ _).alloc (Nat.le_refl _) _
 have HG:=hid (show Row wB w.heap.size 24 [.int .i64 L.1,.int .i64 L.2.1,.int .i64 L.2.2.1,.int .i64 L.2.2.2.1,.int .i64 L.2.2.2.2] from by rw[hwB];exact yo w _ _);have HwB:=hid hwB;have HbB:=hid hbB;have HA:=hid (fun W (h:Below w.heap.size w W)=>zoh W (hD.below (Nat.le_refl _) h));have hnm:n≤9223372036854775807:=Nat.le_trans hB.room hB.most;have HS0:=hid (fun W b hb=>zn9 a none n cap 0 0 L W hnm (by decide) b hb);have l0:=HG.out.cell 0 rfl;have l1:=HG.out.cell 1 rfl;have l2:=HG.out.cell 2 rfl;have l3:=HG.out.cell 3 rfl;have l4:=HG.out.cell 4 rfl;unfold lmV at HS0;by_cases hsm:n≤1000∧L.1≤1099511627776∧0≤100
 · obtain⟨t0,u0,ks0,es0,ht0,hlt0,hSI,-,hu0⟩:=zo9 (L:=L) (t:=[]) (s:=dc0) (ks:=[]) (es:=[]) l (fun c h=>(by cases h)) hB.lt (zfw L);obtain⟨sE,hsE⟩:∃sE,zu L dc0 l=sE:=⟨_,rfl⟩;have hvc:sE.vc≤20:=by rw[←hsE];exact(zel L l dc0 (Nat.zero_le _)).1
   rw[hsE] at hSI hu0;rw[List.nil_append] at ht0;have hPa:=zyv ht0 hSI hu0;have hcases:=zy0 hSI ht0 hu0;rw[hB.len] at hcases;have HPa:=hid hPa;have HS:=hid (fun W=>HS0.out W true (by rw[decide_eq_true hsm]));have HNw:=hid (fun V=>zh8 L V)
   have HFd:=(fun W d (h1:Below w.heap.size w W) (h2:w.heap.size≤d) (h3:d<W.heap.size) (h4:DcR W d L dc0 none (.slice none 0 0))=>zf2 (B:=W.heap.size) (t:=[]) (ks:=[]) (es:=[])
    (show DecM W W.heap.size d L [] dc0 [] [] from⟨_,_,h4,zfw _,fun c h=>(by cases h),Nat.zero_le _,fun h=>by rcases h with h | h <;> cases h⟩) (Nat.le_refl _) h3 (by have:=zd (p:=⟨0,0,none⟩) hD;have:0<w.heap.size:=this;have:=h1.size;omega) (by have:=zd (p:=⟨0,0,none⟩) hD;have:0<w.heap.size:=this;omega)
    (hD.below (Nat.le_refl _) h1) hL a n cap l (hB.below h1) (fun hn0 b o k e=>by
      obtain⟨b',o',e',hc'⟩:=hB.cells hn0;rw[e'] at e;injection e with e;injection e with e;subst e;have:b'<w.heap.size:=zd (hc' 0 hn0);omega) (.inr (by decide)) (by simp only[List.length_nil];omega))
   rw[show ({ dc0 with out:=[],sn:=0 }:Dc)=dc0 from rfl,hsE] at HFd;have HR:=hid (fun W (h:Below w.heap.size w W)=>zyz a n cap l L W (hB.below h) hL (by omega) hsm.2.1);have HD:=hid (fun W (h:Below w.heap.size w W)=>hD.below (Nat.le_refl _) h);unfold lmV at HNw HR ⊢;have Hsz:=hid hbB.size;obtain⟨v,hv⟩:∃v,zal sE=v:=⟨_,rfl⟩;rw[hv] at hcases;have HFi:=hid (fun W B d t k e (h:DecM W B d L t sE k e)=>zia sE v hv h);have Hvc:=hid hvc;clear hB hL hD hwB hbB hSI hPa hu0 hsE hvc hv hsm;rcases hcases with ⟨v1,v2,rfl⟩ | ⟨v1,v2,rfl⟩ | ⟨v1,rfl⟩
   · have d1:((sE.vc:Int) == 0)=true:=by rw[beq_iff_eq];omega
     have d2:((sE.vo:Int) == (n:Int))=true:=by rw[beq_iff_eq];omega
     clear v1 v2;go_enter Tryz.func9,Tryz.ntmps9;go_upto_region 1 with fail
     rw[←HwB.out];go_wp2_with fail;refine(HS.out _).mono ?_;rintro e w1 ⟨rfl,hb1⟩;have HG1:=hid (HG.out.later hb1);have Hb1:=hid (HbB.out.trans (hb1.mono Hsz.out));clear hb1 l0 l1 l2 l3 l4;have l0:=HG1.out.cell 0 rfl;have l1:=HG1.out.cell 1 rfl;have l2:=HG1.out.cell 2 rfl;have l3:=HG1.out.cell 3 rfl;have l4:=HG1.out.cell 4 rfl;go_wp2_with fail;refine(HNw.out _).mono ?_;rintro e w2 ⟨d,hd1,hd2,rfl,hr2,hb2⟩;have HG2:=hid (HG1.out.later hb2);have Hb2:=hid (Hb1.out.trans (hb2.mono Hb1.out.size));have Hd:=hid (show w.heap.size<d∧d<w2.heap.size from⟨Nat.lt_of_lt_of_le HG1.out.lt hd1,hd2⟩);have HF:=hid (HFd w2 d Hb2.out (Nat.le_of_lt Hd.out.1) hd2 hr2);clear hb2 hd1 hd2 hr2 HFd l0 l1 l2 l3 l4;go_wp2_with fail;refine HF.out.mono ?_;rintro e w3 ⟨V3,t3,u3,f3,rfl,-,-,-,hM3,hlo3⟩;have HG3:=hid (HG2.out.lo hlo3 HG2.out.lt (Nat.ne_of_lt Hd.out.1));have Hb3:=hid (Hb2.out.trans (hlo3.toBelow Hb2.out.size (Nat.le_of_lt Hd.out.1)));have HM3:=hid hM3;clear hM3 hlo3;go_wp2_with fail;refine(HFi.out _ _ _ _ _ _ HM3.out).mono ?_;rintro e w4 ⟨rfl,hb4⟩;have HG4:=hid (HG3.out.later hb4);have Hb4:=hid (Hb3.out.trans (hb4.mono Hb3.out.size));clear hb4;have l0:=HG4.out.cell 0 rfl;have l1:=HG4.out.cell 1 rfl;have l2:=HG4.out.cell 2 rfl;have l3:=HG4.out.cell 3 rfl;have l4:=HG4.out.cell 4 rfl;go_wp2_with fail;refine(HR.out _ Hb4.out).mono ?_;rintro e w5 ⟨⟨ks2,es2,x2,V2,E2,hP2,rfl,hK2,hE2⟩,hb5⟩;obtain⟨rfl,rfl,rfl⟩:=zii HPa.out hP2;have Hb5:=hid (Hb4.out.trans (hb5.mono Hb4.out.size));clear hb5 hP2 hK2 hE2 l0 l1 l2 l3 l4;go_wp2_with fail;refine(HA.out _ Hb5.out).mono ?_;rintro e w6 ⟨rfl,hb6⟩;have Hb6:=hid (Hb5.out.trans (hb6.mono Hb5.out.size));clear hb6;go_wp2_with fail;go_ret;exact⟨rfl,Hb6.out⟩
   · have d1:((sE.vc:Int) == 0)=true:=by rw[beq_iff_eq];omega
     have d2:((sE.vo:Int) == (n:Int))=false:=by rw[beq_eq_false_iff_ne];omega
     have hCo:=fun W (h:Below w.heap.size w W)=>zgq vu 5 (n:Nat) W (HD.out W h)
     have hAt:=fun W (h:Below w.heap.size w W)=>zgr vu 5 (n:Nat) W (HD.out W h)
     have hTx:=fun W=>zoo vu 5 (n:Nat) W (by have:=Hvc.out;omega) (by decide)
     rw[zom] at hTx;unfold vt at hCo hAt HFi;have HCo:=hid hCo;have HAt:=hid hAt;have HTx:=hid hTx;have HTe:=hid (fun W=>zic 5 W (by have:=Hvc.out;omega));have hz:=zib 5 (by have:=Hvc.out;omega);have mN:=Tryz.methodEsN (.agg #[.string vu,.iface 112 (.agg #[.int .i64 5,.int .i64 (n:Nat)])]);clear v1 v2 hCo hAt hTx;go_enter Tryz.func9,Tryz.ntmps9;go_upto_region 1 with fail
     rw[←HwB.out];go_wp2_with fail;refine(HS.out _).mono ?_;rintro e w1 ⟨rfl,hb1⟩;have HG1:=hid (HG.out.later hb1);have Hb1:=hid (HbB.out.trans (hb1.mono Hsz.out));clear hb1 l0 l1 l2 l3 l4;have l0:=HG1.out.cell 0 rfl;have l1:=HG1.out.cell 1 rfl;have l2:=HG1.out.cell 2 rfl;have l3:=HG1.out.cell 3 rfl;have l4:=HG1.out.cell 4 rfl;go_wp2_with fail;refine(HNw.out _).mono ?_;rintro e w2 ⟨d,hd1,hd2,rfl,hr2,hb2⟩;have HG2:=hid (HG1.out.later hb2);have Hb2:=hid (Hb1.out.trans (hb2.mono Hb1.out.size));have Hd:=hid (show w.heap.size<d∧d<w2.heap.size from⟨Nat.lt_of_lt_of_le HG1.out.lt hd1,hd2⟩);have HF:=hid (HFd w2 d Hb2.out (Nat.le_of_lt Hd.out.1) hd2 hr2);clear hb2 hd1 hd2 hr2 HFd l0 l1 l2 l3 l4;go_wp2_with fail;refine HF.out.mono ?_;rintro e w3 ⟨V3,t3,u3,f3,rfl,-,-,-,hM3,hlo3⟩;have HG3:=hid (HG2.out.lo hlo3 HG2.out.lt (Nat.ne_of_lt Hd.out.1));have Hb3:=hid (Hb2.out.trans (hlo3.toBelow Hb2.out.size (Nat.le_of_lt Hd.out.1)));have HM3:=hid hM3;clear hM3 hlo3;go_wp2_with fail;refine(HFi.out _ _ _ _ _ _ HM3.out).mono ?_;rintro e w4 ⟨rfl,hb4⟩;have HG4:=hid (HG3.out.later hb4);have Hb4:=hid (Hb3.out.trans (hb4.mono Hb3.out.size));clear hb4;have l0:=HG4.out.cell 0 rfl;have l1:=HG4.out.cell 1 rfl;have l2:=HG4.out.cell 2 rfl;have l3:=HG4.out.cell 3 rfl;have l4:=HG4.out.cell 4 rfl;go_wp2_with fail;refine(HR.out _ Hb4.out).mono ?_;rintro e w5 ⟨⟨ks2,es2,x2,V2,E2,hP2,rfl,hK2,hE2⟩,hb5⟩;obtain⟨rfl,rfl,rfl⟩:=zii HPa.out hP2;have Hb5:=hid (Hb4.out.trans (hb5.mono Hb4.out.size));clear hb5 hP2 hK2 hE2 l0 l1 l2 l3 l4;go_wp2_with fail;refine(HA.out _ Hb5.out).mono ?_;rintro e w6 ⟨rfl,hb6⟩;have Hb6:=hid (Hb5.out.trans (hb6.mono Hb5.out.size));clear hb6;go_wp2_with fail;refine(HCo.out _ Hb6.out).mono ?_;rintro e w7 ⟨rfl,hb7⟩;have Hb7:=hid (Hb6.out.trans (hb7.mono Hb6.out.size));clear hb7;go_wp2_with fail;refine(HAt.out _ Hb7.out).mono ?_;rintro e w8 ⟨rfl,hb8⟩;have Hb8:=hid (Hb7.out.trans (hb8.mono Hb7.out.size));clear hb8;go_wp2_with fail;refine(HTx.out _).mono ?_;rintro e w9 ⟨rfl,hb9⟩;have Hb9:=hid (Hb8.out.trans (hb9.mono Hb8.out.size));clear hb9;go_wp2_with fail;refine(HTe.out _).mono ?_;rintro e w10 ⟨rfl,rfl⟩;go_wp2_with fail;go_ret;exact⟨rfl,Hb9.out⟩
   · have d1:((sE.vc:Int) == 0)=false:=by rw[beq_eq_false_iff_ne];omega
     have hCo:=fun W (h:Below w.heap.size w W)=>zgq vu (sE.vc:Nat) (sE.vo:Nat) W (HD.out W h)
     have hAt:=fun W (h:Below w.heap.size w W)=>zgr vu (sE.vc:Nat) (sE.vo:Nat) W (HD.out W h)
     have hTx:=fun W=>zoo vu sE.vc (sE.vo:Nat) W (by have:=Hvc.out;omega) (by decide)
     rw[zom] at hTx;unfold vt at hCo hAt HFi;have HCo:=hid hCo;have HAt:=hid hAt;have HTx:=hid hTx;have HTe:=hid (fun W=>zic sE.vc W (by have:=Hvc.out;omega));have hz:=zib sE.vc (by have:=Hvc.out;omega);have mN:=Tryz.methodEsN (.agg #[.string vu,.iface 112 (.agg #[.int .i64 (sE.vc:Nat),.int .i64 (sE.vo:Nat)])]);clear v1 hCo hAt hTx;go_enter Tryz.func9,Tryz.ntmps9;go_upto_region 1 with fail
     rw[←HwB.out];go_wp2_with fail;refine(HS.out _).mono ?_;rintro e w1 ⟨rfl,hb1⟩;have HG1:=hid (HG.out.later hb1);have Hb1:=hid (HbB.out.trans (hb1.mono Hsz.out));clear hb1 l0 l1 l2 l3 l4;have l0:=HG1.out.cell 0 rfl;have l1:=HG1.out.cell 1 rfl;have l2:=HG1.out.cell 2 rfl;have l3:=HG1.out.cell 3 rfl;have l4:=HG1.out.cell 4 rfl;go_wp2_with fail;refine(HNw.out _).mono ?_;rintro e w2 ⟨d,hd1,hd2,rfl,hr2,hb2⟩;have HG2:=hid (HG1.out.later hb2);have Hb2:=hid (Hb1.out.trans (hb2.mono Hb1.out.size));have Hd:=hid (show w.heap.size<d∧d<w2.heap.size from⟨Nat.lt_of_lt_of_le HG1.out.lt hd1,hd2⟩);have HF:=hid (HFd w2 d Hb2.out (Nat.le_of_lt Hd.out.1) hd2 hr2);clear hb2 hd1 hd2 hr2 HFd l0 l1 l2 l3 l4;go_wp2_with fail;refine HF.out.mono ?_;rintro e w3 ⟨V3,t3,u3,f3,rfl,-,-,-,hM3,hlo3⟩;have HG3:=hid (HG2.out.lo hlo3 HG2.out.lt (Nat.ne_of_lt Hd.out.1));have Hb3:=hid (Hb2.out.trans (hlo3.toBelow Hb2.out.size (Nat.le_of_lt Hd.out.1)));have HM3:=hid hM3;clear hM3 hlo3;go_wp2_with fail;refine(HFi.out _ _ _ _ _ _ HM3.out).mono ?_;rintro e w4 ⟨rfl,hb4⟩;have HG4:=hid (HG3.out.later hb4);have Hb4:=hid (Hb3.out.trans (hb4.mono Hb3.out.size));clear hb4;have l0:=HG4.out.cell 0 rfl;have l1:=HG4.out.cell 1 rfl;have l2:=HG4.out.cell 2 rfl;have l3:=HG4.out.cell 3 rfl;have l4:=HG4.out.cell 4 rfl;go_wp2_with fail;refine(HR.out _ Hb4.out).mono ?_;rintro e w5 ⟨⟨ks2,es2,x2,V2,E2,hP2,rfl,hK2,hE2⟩,hb5⟩;obtain⟨rfl,rfl,rfl⟩:=zii HPa.out hP2;have Hb5:=hid (Hb4.out.trans (hb5.mono Hb4.out.size));clear hb5 hP2 hK2 hE2 l0 l1 l2 l3 l4;go_wp2_with fail;refine(HA.out _ Hb5.out).mono ?_;rintro e w6 ⟨rfl,hb6⟩;have Hb6:=hid (Hb5.out.trans (hb6.mono Hb5.out.size));clear hb6;go_wp2_with fail;refine(HCo.out _ Hb6.out).mono ?_;rintro e w7 ⟨rfl,hb7⟩;have Hb7:=hid (Hb6.out.trans (hb7.mono Hb6.out.size));clear hb7;go_wp2_with fail;refine(HAt.out _ Hb7.out).mono ?_;rintro e w8 ⟨rfl,hb8⟩;have Hb8:=hid (Hb7.out.trans (hb8.mono Hb7.out.size));clear hb8;go_wp2_with fail;refine(HTx.out _).mono ?_;rintro e w9 ⟨rfl,hb9⟩;have Hb9:=hid (Hb8.out.trans (hb9.mono Hb8.out.size));clear hb9;go_wp2_with fail;refine(HTe.out _).mono ?_;rintro e w10 ⟨rfl,rfl⟩;go_wp2_with fail;go_ret;exact⟨rfl,Hb9.out⟩
 · have HS:=hid (fun W=>HS0.out W false (by rw[decide_eq_false hsm]));have Hsz:=hid hbB.size;clear hB hL hD hwB hbB hsm;unfold lmV;go_enter Tryz.func9,Tryz.ntmps9;go_upto_region 1 with fail
   rw[←HwB.out];go_wp2_with fail;refine(HS.out _).mono ?_;rintro e w1 ⟨rfl,hb1⟩;have Hb1:=hid (HbB.out.trans (hb1.mono Hsz.out));clear hb1 l0 l1 l2 l3 l4;go_wp2_with fail;refine(HA.out _ Hb1.out).mono ?_;rintro e w2 ⟨rfl,hb2⟩;have Hb2:=hid (Hb1.out.trans (hb2.mono Hb1.out.size));clear hb2;go_wp2_with fail;go_ret;exact⟨rfl,Hb2.out⟩
end
