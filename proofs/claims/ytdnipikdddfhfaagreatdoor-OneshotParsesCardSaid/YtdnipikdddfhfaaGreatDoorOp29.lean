/- Part 29. -/
import Derived.Test.YtdnipikdddfhfaaGreatDoorOp28
import Derived.Test.YtdnipikdddfhfaaGreatDoorOp22
set_option linter.unusedVariables false
set_option maxHeartbeats 16000000
namespace Go.Proofs.YtdnipikdddfhfaaGreatDoor
open Lib (hid)
section
open Go.RowKit
attribute [local go_sem] jc
theorem TwoM.grown {w wr w':World} {base g:Nat} {o E:Value} {ks:List Kno} {es:List Nat} {T:TypeId} {C:List Value} (h:TwoM w wr base o E ks es) (hr:Row wr g T C) (hT:¬qw T) (h1:T≠27) (h2:T≠3) (hg:wr.grownBy w' (some g)) (hgb:w.heap.size≤g):TwoM w w' base o E ks es:=by
 obtain⟨Ks,k1,k2⟩:=h.kn
 exact⟨h.lo,Nat.le_trans h.hi hg.size,⟨Ks,yi k1 fun j hj=>hg.block j (k1.lt j hj).2 (fun e=>by injection e with e;exact hr.ne_own k1 h1 j hj e),k2.steady (zbw (hr.notT hT) (Nat.zero_le _) hg)⟩,
  yi h.en fun j hj=>hg.block j (h.en.lt j hj).2 (fun e=>by injection e with e;exact hr.ne_own h.en h2 j hj e),za4 h.gr hg fun k hk=>by injection hk with hk;omega⟩
theorem zdj {fn:Func} {t u v x:Tmp} (h:fn.results= #[.tmp t,.tmp u,.tmp v,.tmp x]) (tmps:Array Value) (P:Program) (w:World):
 (results fn tmps).run P w=.ok (.tuple #[tmps.getD t undef,tmps.getD u undef,tmps.getD v undef,tmps.getD x undef]) w:=by
 simp[results,h]
theorem zxz {l:List Nat} {p st k:Nat} {most:Int} (h:yk l p most=.ok (st,k)):yr l p most=(st,k,none):=by rw[zhy,h]
theorem zx0 {l:List Nat} {p:Nat} {most:Int} {e:Nat×Nat} (h:yk l p most=.error e):yr l p most=(0,0,some ((e.1:Int),some (e.2:Int))):=by rw[zhy,h]
def zn4 (l:List Nat) (L:zb) (base:Nat) (e:Ending) (w':World):Prop:=
 ∃ks es x V E,jq l L ks es x∧e=.returned (.tuple #[V,E,.int .i64 (x.1:Nat),.int .i64 (x.2:Nat)])∧KnosM w' base V ks∧w'.ownsRow base 3 1 E es.length (qa es)
theorem zdk {l:List Nat} {L:zb} {w w':World} {base:Nat} {V E:Value} {ks:List Kno} {es:List Nat} {x:Nat×Nat} {e:Ending} (hM:TwoM w w' base V E ks es) (hP:jq l L ks es x) (he:e=.returned (.tuple #[V,E,.int .i64 (x.1:Nat),.int .i64 (x.2:Nat)])):zn4 l L w.heap.size e w'∧Below w.heap.size w w':=
 ⟨⟨ks,es,x,V,E,hP,he,hM.kn.mono hM.lo,vw hM.en hM.lo⟩,zbm (Below.refl _ _) hM.gr⟩
set_option maxRecDepth 20000 in
theorem zx1 (a:Option Addr) (n cap:Nat) (l:List Nat) (L:zb) (w:World) (hB:Byts w a n cap l) (hL:LimsI L) (hn:n≤900000) (hF:L.1≤1099511627776):
 Calls Tryz.prog 34 #[.slice a n cap,lmV L] w fun e w'=>zn4 l L w.heap.size e w'∧Below w.heap.size w w':=by
 have HH:=hid (fun q W (h:Below w.heap.size w W) (hq:q≤n)=>zw2 a n cap q L.1 l W (hB.below h) hq (by omega) hL.1.1 hL.1.2)
 have HRd:=hid (fun W g E q (h:Below w.heap.size w W) (hg:w.heap.size≤g) (hE:E≤4000000000000000000) (hC:CurM W g (.slice a n cap) E (.ok q)) (hq:q≤n) (hqE:q≤E)=>
  zxw (fun W' hW=>(⟨hB.below (h.grown hW h.size (fun k hk=>by cases hk;omega)),by omega,hE⟩:Rf W' a n cap E l)) hC hq hqE hn hL)
 unfold lmV at HRd ⊢;have Hl:=hid hB.lt;have Hlen:=hid hB.len;have HB:=hid (fun W (h:Below w.heap.size w W)=>hB.below h);obtain⟨wB,hwB⟩:∃wB,wB=w.alloc (.cells #[.int .i64 L.1,.int .i64 L.2.1,.int .i64 L.2.2.1,.int .i64 L.2.2.2.1,.int .i64 L.2.2.2.2] 24):=⟨_,rfl⟩
 have HT0:=hid (show TwoM w wB (w.heap.size+1) (.slice none 0 0) (.slice none 0 0) [] [] from⟨by omega,by rw[hwB];simp,znf _ _,World.ownsRow_nil _ _ _ _,by
  rw[hwB];exact yp (qf w none) ((Below.refl _ w).alloc (Nat.le_refl _) _)⟩)
 have HG0:=hid (show Row wB w.heap.size 24 [.int .i64 L.1,.int .i64 L.2.1,.int .i64 L.2.2.1,.int .i64 L.2.2.2.1,.int .i64 L.2.2.2.2] from by rw[hwB];exact zu w _ _);have HwB:=hid hwB;have Hn:=hid hn;have HFm:=hid hF;clear hwB hB hL hn hF;go_enter Tryz.func34,Tryz.ntmps34;go_upto_region 1 with fail
 rw[←HwB.out];go_wp2_with fail;go_loopw [8,9,10] (fun o E i wr=>∃(ks:List Kno) (es:List Nat) (q:Nat),i=.int .i64 q∧Hid (TwoM w wr (w.heap.size+1) o E ks es)∧Hid (Row wr w.heap.size 24 [.int .i64 L.1,.int .i64 L.2.1,.int .i64 L.2.2.1,.int .i64 L.2.2.2.1,.int .i64 L.2.2.2.2])∧Hid (vt l L ks es 0 q∧q≤n)) (fun o E i _=>n - (intOf i).toNat)
 case atStart=>exact⟨[],[],0,rfl,HT0,HG0,hid ⟨rfl,Nat.zero_le _⟩⟩
 case round=>
  obtain⟨ks,es,q,rfl,hM,hG,hI⟩:=hrel;have Hb:=hid (zbm (Below.refl _ _) hM.out.gr);have hH:=HH.out q wr Hb.out hI.out.2;have Hsz:=hid hM.out.gr.size;have l0:=hG.out.cell 0 rfl
  cases hh:yk l q L.1 with
  | error x=>
   rw[zx0 hh] at hH;simp only[kw,zdr] at hH;have HHq:=hid hH;have hone:zy l L q=if x.1=5 then .error (0,q) else .error x:=by unfold zy;rw[hh]
   clear hH;by_cases h5:x.1=5
   · rw[if_pos h5] at hone;have HP:=hid (show jq l L ks es (0,q) from⟨q,hI.out.1,hone⟩);have hd:((x.1:Int) == 5)=true:=by rw[beq_iff_eq];omega
     clear h5 hone hh;go_wp2_with fail;refine HHq.out.mono ?_;rintro e w2 ⟨rfl,hb2⟩;have HM2:=hid (hM.out.later hb2);clear hb2;go_wp2_with fail;refine bodyPost_ret (zdj rfl _ _ _) rfl ?_;exact zdk HM2.out HP.out rfl
   · rw[if_neg h5] at hone;have HP:=hid (show jq l L ks es x from⟨q,hI.out.1,hone⟩);have hx0:x.1≠0:=by rcases zhz hh with e | ⟨e,-⟩ | ⟨e,-⟩ | ⟨e | e,-⟩ <;> simp[e]
     have hd:((x.1:Int) == 5)=false:=by rw[beq_eq_false_iff_ne];omega
     have hd2:((x.1:Int) != 0)=true:=by rw[bne_iff_ne];omega
     clear h5 hone hh hx0;go_wp2_with fail;refine HHq.out.mono ?_;rintro e w2 ⟨rfl,hb2⟩;have HM2:=hid (hM.out.later hb2);clear hb2;go_wp2_with fail;refine bodyPost_ret (zdj rfl _ _ _) rfl ?_
     exact zdk HM2.out HP.out rfl
  | ok y=>
   obtain⟨st,k⟩:=y;have hok:=zb2 Hl.out hh;rw[zxz hh] at hH;simp only[kw,zdr] at hH;have HHq:=hid hH;have hmx:(k:Int)≤1099511627776:=by have:=hok.2.2.2.1;have:=HFm.out;omega
   have hstn:st≤n:=by have:=Hlen.out;omega
   have hadd:IntKind.i64.wrap ((st:Int)+(k:Int))=((st+k:Nat):Int):=by have:=Hn.out;rw[IntKind.wrap_i64];omega
   have Hdat:=hid (show (k:Int)≤1099511627776∧st≤n∧q+6≤st∧st+k≤4000000000000000000 from⟨hmx,hstn,hok.1,by have:=Hn.out;omega⟩);have Hhh:=hid hh;clear hH hmx hstn hok hh;go_wp2_with fail;refine HHq.out.mono ?_;rintro e w2 ⟨rfl,hb2⟩;have HM2:=hid (hM.out.later hb2);have HG2:=hid (hG.out.later hb2);have Hb2:=hid (Hb.out.trans (hb2.mono Hsz.out));clear hb2 l0;go_upto_region 10 with fail
   obtain⟨wC,hwC⟩:∃wC,wC=w2.alloc (.cells #[.slice a n cap,.int .i64 (st:Int),.int .i64 ((st:Int)+(k:Int)),.int .i64 0,.int .i64 0,.bool false] 106):=⟨_,rfl⟩;have hal:=(Below.refl w2.heap.size w2).alloc (Nat.le_refl _) (.cells #[.slice a n cap,.int .i64 (st:Int),.int .i64 ((st:Int)+(k:Int)),.int .i64 0,.int .i64 0,.bool false] 106);rw[←hwC] at hal;have HC:=hid (show CurM wC w2.heap.size (.slice a n cap) (st+k) (.ok st) from by rw[hwC];exact zu w2 106 (zau (.slice a n cap) (st:Int) ((st:Int)+(k:Int)) 0 0 false));have HwC:=hid hwC;have HMC:=hid (HM2.out.later hal);have HGC:=hid (HG2.out.later hal);have Hgs:=hid (show w.heap.size≤w2.heap.size from HM2.out.gr.size);have Hgn:=hid (show some w.heap.size≠some w2.heap.size from fun e=>by have:=HM2.out.hi;injection e;omega);have HbC:=hid (Hb2.out.trans (hal.mono Hgs.out));rw[←HwC.out];clear hwC hal;generalize w2.heap.size=g at*;have l0:=HGC.out.cell 0 rfl;have l1:=HGC.out.cell 1 rfl;have l2:=HGC.out.cell 2 rfl;have l3:=HGC.out.cell 3 rfl;have l4:=HGC.out.cell 4 rfl;go_wp2_with fail;refine(HRd.out wC g (st+k) st HbC.out Hgs.out Hdat.out.2.2.2 HC.out Hdat.out.2.1 (Nat.le_add_right _ _)).mono ?_;rintro e w3 hres;unfold ji zr at hres;obtain⟨hg3,hres⟩:=hres;have HM3:=hid (HMC.out.grown HC.out (by rintro(h | h | h) <;> cases h) (by decide) (by decide) hg3 Hgs.out);have HG3:=hid (HGC.out.grown hg3 Hgn.out);clear hg3 l0 l1 l2 l3 l4
   cases hdec:zx (za l (st+k)) (st+k) L st with
   | error x=>
    rw[hdec] at hres;obtain⟨⟨qc,hC3⟩,rfl⟩:=hres;have hone:=zb3 Hhh.out hdec;have c3:=hC3.cell 3 rfl;have c4:=hC3.cell 4 rfl;have c5:=hC3.cell 5 rfl;by_cases h0:x.1=0
    · rw[if_pos h0] at hone;have HP:=hid (show jq l L ks es (0,q) from⟨q,hI.out.1,hone⟩);simp only[h0,decide_true] at c3 c5;clear hone hdec hC3 h0 c4;go_wp2_with fail;refine bodyPost_ret (zdj rfl _ _ _) rfl ?_;exact zdk HM3.out HP.out rfl
    · rw[if_neg h0] at hone;have HP:=hid (show jq l L ks es x from⟨q,hI.out.1,hone⟩);have hd:((x.1:Int) != 0)=true:=by rw[bne_iff_ne];omega
      rw[if_neg h0] at c4;clear hone hdec hC3 h0 c5;go_wp2_with fail;go_quiet (fail);go_wp2_with fail;refine bodyPost_ret (zdj rfl _ _ _) rfl ?_
      exact zdk (HM3.out.later (zq (Below.refl _ _) _)) HP.out rfl
   | ok y=>
    obtain⟨kk,qe⟩:=y;rw[hdec] at hres;obtain⟨hC3,K,rfl,hK⟩:=hres;obtain⟨ka,kc,rfl,-⟩:=hK.frags;have hpay:=zh1 Hl.out hdec;have c3:=Row.cell hC3 3 rfl;have c5:=Row.cell hC3 5 rfl;have HK3:=hid hK;have Hdec:=hid hdec;have hEn:st+k≤n:=by have:=hpay.2.1;have:=Hlen.out;omega
    have hsub:IntKind.i64.wrap ((n:Int) - (st:Int))=((n - st:Nat):Int):=by have:=Hn.out;rw[IntKind.wrap_i64];omega
    have hsub2:IntKind.i64.wrap (((n - st:Nat):Int) - (k:Int))=((n - st - k:Nat):Int):=by have:=Hn.out;rw[IntKind.wrap_i64];omega
    clear hC3 hK hdec;by_cases hsh:l.length<st+k+4
    · have hd1:decide (((n - st - k:Nat):Int)<4)=true:=by have:=Hlen.out;rw[decide_eq_true_iff];omega
      have hd2:decide (n - st - k<4)=true:=by have:=Hlen.out;rw[decide_eq_true_iff];omega
      have HP:=hid (show jq l L ks es (0,q) from⟨q,hI.out.1,by unfold zy;rw[Hhh.out];simp only;rw[Hdec.out];simp only;rw[if_pos hsh]⟩);clear hsh hpay hEn;go_wp2_with fail;refine bodyPost_ret (zdj rfl _ _ _) rfl ?_;exact zdk HM3.out HP.out rfl
    · have hd1:decide (((n - st - k:Nat):Int)<4)=false:=by have:=Hlen.out;rw[decide_eq_false_iff_not];omega
      have hd2:decide (n - st - k<4)=false:=by have:=Hlen.out;rw[decide_eq_false_iff_not];omega
      obtain⟨sk,hsk⟩:∃sk,sk=st+k:=⟨_,rfl⟩;obtain⟨r,hr⟩:∃r,r=decide (qt (sum ((l.drop st).take k))=(l.drop sk).take 4):=⟨_,rfl⟩
      have Hone:=hid (show zy l L q=if r=true then .ok (kk,sk+4) else .error (14,sk) from by
       unfold zy;rw[Hhh.out];simp only;rw[Hdec.out];simp only;rw[if_neg hsh,hr,←hsk];split <;> rename_i h <;> simp[h])
      have hrm:=(HB.out _ Hb.out).room
      have hpay2:∀W,Below w.heap.size w W→Byts W (a.map fun x=>x.add st) k (cap - st) ((l.drop st).take k):=fun W h=>by
       have hx:=zh7 (HB.out W h) (s:=st) (e:=st+k) (by omega) hEn;unfold zcr at hx;rw[show st+k - st=k by omega,if_neg (by have:=Hlen.out;omega)] at hx;exact hx
      have HPay:=hid hpay2;have hes:st+k - st=k:=by omega
      have hec:st+k+4≤cap:=by have:=Hlen.out;omega
      have Hfit:=hid (show sk+4≤n from by have:=Hlen.out;omega);have Hb3:=hid (zbm (Below.refl _ _) HM3.out.gr);have Hsk:=hid hsk;have Hr:=hid hr;clear hsh hpay hEn hrm hpay2 hr;go_wp2_with fail;refine(zwm _ _ _ _ _ (HPay.out _ Hb3.out)).mono ?_;rintro e w4 ⟨rfl,rfl⟩;have Hslt:=hid (show sum ((l.drop st).take k)<4294967296 from zes (zb9 (by omega) (HPay.out _ Hb3.out).lt));go_wp2_with fail;refine(zwo _ _ Hslt.out).mono ?_;rintro e w4 ⟨rfl,rfl⟩;obtain⟨S,hS⟩:∃S,S=qt (sum ((l.drop st).take k)):=⟨_,rfl⟩;have hSl:S.length=4:=by rw[hS];rfl
      have hSlt:∀x∈S,x<256:=by rw[hS];exact zgf Hslt.out
      rw[←hS];have hal:=(Below.refl w3.heap.size w3).alloc (Nat.le_refl _) (.cells (u8s S).toArray 5);have HBS:=hid (show Byts (w3.alloc (.cells (u8s S).toArray 5)) (some ⟨w3.heap.size,0,none⟩) 4 4 S from zbk _ _ _ _ _ _ _ rfl hSl rfl hSlt (by omega));have HM4:=hid (HM3.out.later hal);have HG4:=hid (HG3.out.later hal);have HK4:=hid (HK3.out.later hal);have HBl:=hid (HB.out _ (Hb3.out.trans (hal.mono HM3.out.gr.size)));have HS:=hid hS;have HSl:=hid hSl;clear hS hSl hSlt hal;generalize w3.alloc (.cells (u8s S).toArray 5)=W at*;go_wp2_with fail;go_loopw [18] (fun i wr=>∃j d:Nat,j≤4∧i=.int .i64 j∧wr=W.drewN d∧Hid (∀t,t<j→nth S t=nth l (sk+t))) (fun i _=>4 - (intOf i).toNat)
      case atStart=>exact⟨0,0,by omega,rfl,rfl,hid fun t ht=>by omega⟩
      case round=>
       obtain⟨j,d,hj,rfl,rfl,ht⟩:=hrel;by_cases hj4:j<4
       · obtain⟨g1,o1,e1,hc1⟩:=HBS.out.cells (by omega);cases e1;obtain⟨g2,o2,e2,hc2⟩:=HBl.out.cells (by have:=Hfit.out;omega);cases e2;have hcS:=hc1 j hj4;rw[Nat.zero_add] at hcS;obtain⟨sj,hsj⟩:∃sj:Nat,sj=st+k+j:=⟨_,rfl⟩;have hsjn:sj<n:=by have:=Hfit.out;have:=Hsk.out;omega
         have hcl:=hc2 sj hsjn;have hadj:IntKind.i64.wrap ((st:Int)+(k:Int)+(j:Int))=((sj:Nat):Int):=by have:=Hn.out;rw[IntKind.wrap_i64];omega
         clear hc1 hc2;by_cases he:nth l sj=nth S j
         · have Ht:=hid (show ∀t,t<j+1→nth S t=nth l (sk+t) from fun t h=>by
            rcases Nat.lt_or_ge t j with h' | h'
            · exact ht.out t h'
            · obtain rfl:t=j:=by omega
              rw[Hsk.out,←hsj,he])
           rw[he] at hcl;generalize nth S j=c at*;clear he hsj;go_wp2_with fail;go_quiet (fail);go_wp2_with fail;go_roundw
           case rel=>exact⟨j+1,_,by omega,by go_num,rfl,Ht⟩
           case measure=>simp[intOf];omega
         · have hrf:r=false:=by
            rw[Hr.out];refine decide_eq_false fun heq=>he ?_
            rw[←HS.out] at heq;rw[heq,hsj,←Hsk.out];simp[nth,hj4]
           have hone:=Hone.out;rw[hrf] at hone;have HP:=hid (show jq l L ks es (14,sk) from⟨q,hI.out.1,hone⟩);have hne2:(((nth l sj:Nat):Int) != ((nth S j:Nat):Int))=true:=by rw[bne_iff_ne];omega
           generalize nth S j=c at*;generalize nth l sj=c' at*;clear he hsj hone hrf;go_wp2_with fail;go_quiet (fail);go_wp2_with fail;refine bodyPost_ret (zdj rfl _ _ _) rfl ?_;exact zdk (HM4.out.later (zq (Below.refl _ _) _)) HP.out (by rw[Hsk.out];rfl)
       · obtain rfl:j=4:=by omega
         have hrt:r=true:=by
          rw[Hr.out];refine decide_eq_true ?_;rw[←HS.out];have h0:=ht.out 0 (by omega);have h1:=ht.out 1 (by omega);have h2:=ht.out 2 (by omega);have h3:=ht.out 3 (by omega);have hl:=Hlen.out;have hf:=Hfit.out;have hS4:=HSl.out;rw[zc4 l sk (by omega),zc4 l (sk+1) (by omega),zc4 l (sk+1+1) (by omega),zc4 l (sk+1+1+1) (by omega)];simp only[List.take_succ_cons,List.take_zero];rcases S with _ | ⟨x0,_ | ⟨x1,_ | ⟨x2,_ | ⟨x3,_ | ⟨x4,S⟩⟩⟩⟩⟩ <;> simp at hS4
          simp[nth] at h0 h1 h2 h3 ⊢;exact⟨h0,h1,h2,h3⟩
         have hone:=Hone.out;rw[hrt,if_pos rfl] at hone;have hq:=zh2 Hl.out hone;have hlk:=zei Hl.out hI.out.1;have hle:=zf3 hI.out.1;have hI2:=hid (show vt l L (ks++[kk]) (es++[sk+4]) 0 (sk+4)∧sk+4≤n from⟨zf2 hI.out.1 hone,Hfit.out⟩);have Hqq:=hid hq.1;have hs4:sk+4=st+k+4:=by rw[Hsk.out]
         obtain⟨q4,hq4⟩:∃q4,q4=sk+4:=⟨_,rfl⟩;rw[←hq4] at hI2 Hqq;have ha4:IntKind.i64.wrap ((st:Int)+(k:Int)+4)=(q4:Int):=by have:=Hn.out;have:=Hfit.out;rw[IntKind.wrap_i64];omega
         have hbd:=zq (Below.refl W.heap.size W) d;have HM5:=hid (HM4.out.later hbd);have HG5:=hid (HG4.out.later hbd);have HK5:=hid (HK4.out.later hbd);obtain⟨oa,oc,rfl⟩:=HM5.out.kn.slice;obtain⟨ea,ec,rfl⟩:=qv HM5.out.en;obtain⟨o',w5,e1,E',w6,e2,hM6,hrow⟩:=HM5.out.push HK5.out q4 (by have:=hI.out.2;have:=Hn.out;omega) (by have:=hI.out.2;have:=Hn.out;omega);have HG6:=hid (hrow _ _ _ (by decide) (by decide) HG5.out);have HM6:=hid hM6;clear hrow hM6 hlk hle hq hone hrt hs4 hq4 hbd;go_wp2_with (first | (at_builtin;refine ym _ _ 55 rfl rfl _ _ rfl rfl _ _ e1 ?_) | (at_builtin;refine ym _ _ 60 rfl rfl _ _ rfl rfl _ _ e2 ?_));clear e1 e2;go_roundw
         case rel=>exact⟨ks++[kk],es++[q4],q4,rfl,HM6,HG6,hI2⟩
         case measure=>have:=Hqq.out;have:=hI2.out.2;simp[intOf];omega
end
section
open Go.RowKit
attribute [local go_sem] jc Tryz.eqGuard_if
set_option maxRecDepth 20000 in
theorem zx2 (a:Option Addr) (n cap:Nat) (l:List Nat) (L:zb) (w:World) (hB:Byts w a n cap l) (hL:LimsI L) (hD:Door w):
 Calls Tryz.prog 10 #[.slice a n cap,lmV L] w fun e w'=>e=.returned (.bool true)∧Below w.heap.size w w':=by
 obtain⟨wB,hwB⟩:∃wB,wB=w.alloc (.cells #[.int .i64 L.1,.int .i64 L.2.1,.int .i64 L.2.2.1,.int .i64 L.2.2.2.1,.int .i64 L.2.2.2.2] 24):=⟨_,rfl⟩;have hbB:Below w.heap.size w wB:=by rw[hwB];exact(Below.refl _ _).alloc (Nat.le_refl _) _
 have HG:=hid (show Row wB w.heap.size 24 [.int .i64 L.1,.int .i64 L.2.1,.int .i64 L.2.2.1,.int .i64 L.2.2.2.1,.int .i64 L.2.2.2.2] from by rw[hwB];exact zu w _ _);have HwB:=hid hwB;have HbB:=hid hbB;have HsB:=hid hbB.size;have HA:=hid (fun W (h:Below w.heap.size w W)=>znk W (hD.below (Nat.le_refl _) h));have hnm:n≤9223372036854775807:=Nat.le_trans hB.room hB.most;have Hl:=hid hB.lt;have Hlen:=hid hB.len;have l0:=HG.out.cell 0 rfl;have l1:=HG.out.cell 1 rfl;have l2:=HG.out.cell 2 rfl;have l3:=HG.out.cell 3 rfl;have l4:=HG.out.cell 4 rfl;by_cases h1:1000<n
 · have hd:decide (1000<(n:Int))=true:=by rw[decide_eq_true_iff];omega
   have hd':decide (1000<n)=true:=by rw[decide_eq_true_iff];omega
   clear hB hL hD hwB hbB h1;unfold lmV;go_enter Tryz.func10,Tryz.ntmps10;go_upto_region 1 with fail
   rw[←HwB.out];go_wp2_with fail;refine(HA.out _ HbB.out).mono ?_;rintro e w1 ⟨rfl,hb1⟩;have Hb1:=hid (HbB.out.trans (hb1.mono HsB.out));clear hb1;go_wp2_with fail;go_ret;exact⟨rfl,Hb1.out⟩
 have hd:decide (1000<(n:Int))=false:=by rw[decide_eq_false_iff_not];omega
 have hd':decide (1000<n)=false:=by rw[decide_eq_false_iff_not];omega
 by_cases h2:1099511627776<L.1
 · have hd2:decide ((1099511627776:Int)<L.1)=true:=decide_eq_true h2;clear hB hL hD hwB hbB h1;unfold lmV;go_enter Tryz.func10,Tryz.ntmps10;go_upto_region 1 with fail
   rw[←HwB.out];go_wp2_with fail;refine(HA.out _ HbB.out).mono ?_;rintro e w1 ⟨rfl,hb1⟩;have Hb1:=hid (HbB.out.trans (hb1.mono HsB.out));clear hb1;go_wp2_with fail;go_ret;exact⟨rfl,Hb1.out⟩
 have hd2:decide ((1099511627776:Int)<L.1)=false:=decide_eq_false h2;have HP:=hid (fun W (h:Below w.heap.size w W)=>zni a n cap l L W (hB.below h) (hD.below (Nat.le_refl _) h) hL (by omega));have HR:=hid (fun W (h:Below w.heap.size w W)=>zx1 a n cap l L W (hB.below h) hL (by omega) (by omega));have HN:=hid (fun W (h:Below w.heap.size w W)=>znj a n cap l L W (hB.below h) (hD.below (Nat.le_refl _) h) hL (by omega));have Hn:=hid (show n≤1000 from by omega);clear hB hL hD hwB hbB h1;unfold lmV at HP HR HN ⊢;go_enter Tryz.func10,Tryz.ntmps10;go_upto_region 1 with fail
 rw[←HwB.out];go_wp2_with fail;refine(HP.out _ HbB.out).mono ?_;rintro e w1 ⟨⟨ks,es,x,V,hP,rfl,hK⟩,hb1⟩;have HG1:=hid (HG.out.later hb1);have Hb1:=hid (HbB.out.trans (hb1.mono HsB.out));have Hs1:=hid (Nat.le_trans HsB.out hb1.size);have HPs:=hid hP;clear hb1 hP l0 l1 l2 l3 l4;obtain⟨wC,hwC⟩:∃wC,wC=w1.alloc (.cells #[.int .i64 (x.1:Int),.int .i64 (x.2:Int)] 64):=⟨_,rfl⟩;have hbC:=(Below.refl w1.heap.size w1).alloc (Nat.le_refl _) (.cells #[.int .i64 (x.1:Int),.int .i64 (x.2:Int)] 64);rw[←hwC] at hbC;have HX:=hid (show Row wC w1.heap.size 64 [.int .i64 (x.1:Int),.int .i64 (x.2:Int)] from by rw[hwC];exact zu w1 64 _);have HwC:=hid hwC;have HKC:=hid (hK.later hbC);have HGC:=hid (HG1.out.later hbC);have HbC:=hid (Hb1.out.trans (hbC.mono Hs1.out));have HsC:=hid (Nat.le_trans Hs1.out hbC.size);clear hwC hbC hK;go_upto_region 4 with fail
 rw[←HwC.out];generalize w1.heap.size=g at*;have l0:=HGC.out.cell 0 rfl;have l1:=HGC.out.cell 1 rfl;have l2:=HGC.out.cell 2 rfl;have l3:=HGC.out.cell 3 rfl;have l4:=HGC.out.cell 4 rfl;go_wp2_with fail;refine(HR.out _ HbC.out).mono ?_;rintro e w3 ⟨⟨ks2,es2,x2,V2,E2,hP2,rfl,hK2,hE2⟩,hb3⟩;obtain⟨rfl,rfl,rfl⟩:=zdf HPs.out hP2;have HK3:=hid (HKC.out.later hb3);have HG3:=hid (HGC.out.later hb3);have HX3:=hid (HX.out.later hb3);have Hb3:=hid (HbC.out.trans (hb3.mono HsC.out));have Hs3:=hid (Nat.le_trans HsC.out hb3.size);have HK23:=hid hK2;have HE3:=hid hE2;clear hb3 hP2 hK2 hE2 l0 l1 l2 l3 l4;go_wp2_with fail;refine(HA.out _ Hb3.out).mono ?_;rintro e w4 ⟨rfl,hb4⟩;have hKa:=HK3.out.later hb4;have hKb:=HK23.out.later hb4;have HG4:=hid (HG3.out.later hb4);have HX4:=hid (HX3.out.later hb4);have HE4:=hid (yf HE3.out hb4);have Hb4:=hid (Hb3.out.trans (hb4.mono Hs3.out));have Hs4:=hid (Nat.le_trans Hs3.out hb4.size);obtain⟨va,vc,rfl,hSa⟩:=hKa.read;obtain⟨ua,uc,rfl,hSb⟩:=hKb.read;have HSm:=hid (zxy _ _ _ _ _ _ _ _ w4 hSa hSb);clear hb4 hKa hKb hSa hSb;go_wp2_with fail;refine HSm.out.mono ?_;rintro e w5 ⟨⟨r,rfl,hr⟩,hb5⟩;obtain rfl:r=1:=by rcases hr with ⟨h,-⟩ | ⟨-,h⟩;exact h;exact absurd rfl h
 have HG5:=hid (HG4.out.later hb5);have HX5:=hid (HX4.out.later hb5);have HE5:=hid (yf HE4.out hb5);have Hb5:=hid (Hb4.out.trans (hb5.mono Hs4.out));have Hs5:=hid (Nat.le_trans Hs4.out hb5.size);have l0:=HG5.out.cell 0 rfl;have l1:=HG5.out.cell 1 rfl;have l2:=HG5.out.cell 2 rfl;have l3:=HG5.out.cell 3 rfl;have l4:=HG5.out.cell 4 rfl;have x0:=HX5.out.cell 0 rfl;have x1:=HX5.out.cell 1 rfl;clear hb5 hr HSm;go_wp2_with fail;refine(HN.out _ Hb5.out).mono ?_;rintro e w6 ⟨⟨ks3,es3,x3,E3,hP3,rfl,hE3⟩,hb6⟩;obtain⟨rfl,rfl,rfl⟩:=zdf HPs.out hP3;have HE6:=hid (yf HE5.out hb6);have HE36:=hid hE3;have Hb6:=hid (Hb5.out.trans (hb6.mono Hs5.out));have Hs6:=hid (Nat.le_trans Hs5.out hb6.size)
 have Hle:=hid (show es3.length≤1000 from by
  obtain⟨q,h1,h2⟩:=HPs.out;have:=(zei Hl.out h1).1;have:=(zei Hl.out h1).2 (Nat.zero_le _);have:=zf3 h1;have:=Hn.out;have:=Hlen.out;omega)
 clear hb6 hP3 hE3 x0 x1 l0 l1 l2 l3 l4;go_wp2_with fail;refine(zjz _ _ _ _ es3 es3 _ HE36.out HE6.out Hle.out Hle.out).mono ?_;rintro e w7 ⟨rfl,hb7⟩;have Hb7:=hid (Hb6.out.trans (hb7.mono Hs6.out));have hde:decide (es3=es3)=true:=decide_eq_true rfl;rw[hde];clear hb7 hde;go_wp2_with fail;go_ret;exact⟨rfl,Hb7.out⟩
end
