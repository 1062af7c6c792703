/- Part 21. -/
import Derived.Deep.Onto
import Derived.Laws.ResultCell
import Derived.Test.YtdnipikdddfhfaaGreatDoorOb20
set_option linter.unusedVariables false
set_option maxHeartbeats 16000000
namespace Go.Proofs.YtdnipikdddfhfaaGreatDoor
open Lib (hid)
section
open Go.RowKit
attribute [local go_sem] qj Tryz.eqGuard_if
set_option maxRecDepth 20000 in
theorem zuh (w:World) (base R:Nat) (L:za) (s:WS) (h:WkR w base R L s) (ht:s.tag=4) (hl:yg s.l):Calls Tryz.prog 28 #[.pointer (some ⟨R,0,none⟩)] w fun e w'=>(∃K,e=.returned K∧KnoS w' K (zt s.vs s.l s.ix))∧Below w.heap.size w w':=by
 obtain⟨hR0,part,K,U,C,hU,hC,hR,hu,hB⟩:=h;obtain⟨hn,-⟩:=zgi hB (by omega);simp only[ht,decide_true,Bool.not_true] at hn;unfold WkB at hB;simp only[ht] at hB;obtain⟨rfl,hM⟩:=hB;have hK:KnoS w K (zt s.vs s.l s.ix):=⟨_,_,_,_,hM,hl,rfl⟩;obtain⟨a,c,rfl,-⟩:=hM.frags hl;have q9:=hR.cell 9 rfl;have q5:=hR.cell 5 rfl;have q2:=hR.cell 6 rfl;have HK:=hid hK;unfold zbc at q5 hn;clear hR hu hM hl ht hK;go_enter Tryz.func28,Tryz.ntmps28;go_wp2_with fail;go_ret;exact⟨⟨_,rfl,HK.out⟩,Below.refl _ _⟩
def zbi (r:RR Kno) (e:Ending) (w':World):Prop:=match r with
 | .error x=>e=.returned (.tuple #[.slice none 0 0,.int .i64 0,if x.1=0 then .nilIface else jg x.1 x.2])
 | .ok y=>∃K,e=.returned (.tuple #[K,.int .i64 (y.2:Nat),.nilIface])∧KnoS w' K y.1
def zb7 (a:Option Addr) (l cap:Nat):Option Addr:=if cap=l then a else a.map fun x=>x.add l
theorem zlo {w:World} {a:Option Addr} {n cap:Nat} {l:List Nat} (h:Byts w a n cap l) {s e:Nat} (h1:s≤e) (h2:e≤n):Byts w (zb7 a s cap) (e - s) (cap - s) ((l.drop s).take (e - s)):=by
 have hr:=h.room;unfold zb7;by_cases hc:cap=s
 · rw[if_pos hc];subst hc;rw[show e - cap=0 by omega,List.take_zero];exact⟨rfl,by simp,by omega,by omega,fun _=>by omega,fun h=>absurd h (Nat.lt_irrefl 0)⟩
 · rw[if_neg hc];rcases a with _ | ⟨b,o,k⟩
   · have:=h.nilc rfl;omega
   · by_cases hn:0<n
     · obtain⟨b',o',e',-⟩:=h.cells hn;cases e';have:=h.sub s e h1 h2 (by omega);rw[Option.map_some,ye];exact this
     · obtain rfl:n=0:=by omega
       obtain rfl:e=0:=by omega
       obtain rfl:s=0:=by omega
       exact⟨by simp,by simp,by omega,by(have:=h.most;omega),(by intro h;cases h),fun h=>absurd h (Nat.lt_irrefl 0)⟩
theorem zlp {B:Nat} {a w:World} (h:Below B a w) (q:Nat):Below B a (w.drewN q):=⟨h.os,h.tape,h.output,h.size,h.block⟩
theorem zui {α:Type} (l:List α) (z:α):(List.range l.length).map (fun i=>l.getD i z)=l:=by
 refine List.ext_getElem (by simp) fun i h1 h2=>?_
 simp[List.getD_eq_getElem?_getD,h2]
theorem zuj (a:Act) (hs:a.tmps.size=121) (hd:a.defers=[]):∃f:Nat→Value,a={ tmps:=⟨(List.range 121).map f⟩,defers:=[] }:=by
 obtain⟨⟨l⟩,d⟩:=a;have hs:l.length=121:=hs;have hd:d=[]:=hd;subst hd;refine⟨fun i=>l.getD i undef,?_⟩;have h:(List.range 121).map (fun i=>l.getD i undef)=l:=by rw[←hs];exact zui l undef
 exact congrArg (fun x=>({ tmps:=⟨x⟩,defers:=[] }:Act)) h.symm
theorem zax {l:Nat} {J:Act→World→Prop} {Q:Exit→Act→World→Prop} {a:Act} {w:World} (h:Q .ret a w):Exit.jump l J Q .ret a w:=h
def zuk (r:RR Kno) (p B:Nat) (w:World) (a:Act) (w':World):Prop:=a.tmps.size=121∧a.defers=[]∧r=.error (0,p)∧Below B w w'
theorem zlq {l:List Nat} {st k pc:Nat}:(l.take (st+k)).drop (st+pc)=((l.drop st).take (min k (l.length - st))).drop pc:=by
 rw[←List.drop_drop,List.drop_take,show st+k - st=k by omega];congr 1;by_cases h:k≤l.length - st
 · rw[Nat.min_eq_left h]
 · rw[Nat.min_eq_right (by omega),List.take_of_length_le (by rw[List.length_drop];omega),List.take_of_length_le (by rw[List.length_drop];omega)]
theorem zul {l:List Nat} {st k pc c:Nat} (h:zq l (st+k) (st+pc)=.error c):∃c':Nat,j4 ((l.drop st).take (min k (l.length - st))) pc=(0,0,some ((c':Int),some (pc:Int)))∧((c'=5∧c=if st+k≤l.length then 5 else 0)∨(c'=6∧c=6)):=by
 unfold zq at h;rw[zlq] at h;unfold j4;generalize zk (((l.drop st).take (min k (l.length - st))).drop pc) 0 0=s at h;obtain⟨a,x,j⟩:=s;rcases a with _ | _ | _ | a
 · injection h with h;exact⟨5,rfl,.inl ⟨rfl,h.symm⟩⟩
 · cases h
 · injection h with h;exact⟨6,rfl,.inr ⟨rfl,h.symm⟩⟩
 · injection h with h;exact⟨5,rfl,.inl ⟨rfl,h.symm⟩⟩
theorem zum {l:List Nat} {st k pc x q:Nat} (h:zq l (st+k) (st+pc)=.ok (x,q)):∃j,q=st+j∧j4 ((l.drop st).take (min k (l.length - st))) pc=(x,j,none):=by
 unfold zq at h;rw[zlq] at h;unfold j4;generalize zk (((l.drop st).take (min k (l.length - st))).drop pc) 0 0=s at h;obtain⟨a,y,j⟩:=s;rcases a with _ | _ | _ | a
 · cases h
 · injection h with h;injection h with h1 h2;subst h1 h2;exact⟨pc+j,by omega,rfl⟩
 · cases h
 · cases h
structure RdO (L:za) (l:List Nat) (st k:Nat) (s:WS) (pc:Nat):Prop where
 j:RdJ s (st+pc)
 pl:pc≤min k (l.length - st)
 eq:j9 (zq l (st+k)) (st+k) L s (st+pc)=yl (zq l (st+k)) (st+k) L st
theorem RdO.start {L:za} {l:List Nat} {st k:Nat}:RdO L l st k ws0 0:=⟨RdJ.start.mono (Nat.zero_le _),Nat.zero_le _,rfl⟩
theorem RdO.next {L:za} {l:List Nat} {st k:Nat} {s s':WS} {pc x j:Nat} (hl:∀c∈l,c<256) (h:RdO L l st k s pc) (ht:zq l (st+k) (st+pc)=.ok (x,st+j)) (hs:zr (st+k) L s x (st+pc) (st+j)=.ok s') (h4:s'.tag<4):RdO L l st k s' j:=by
 obtain⟨t1,t2,t3,t4,-⟩:=zby hl ht;refine⟨h.j.next t4 t1 hs h4,by omega,?_⟩;have:=(zag h.j h.eq).2 _ _ ht;rw[hs] at this;exact this.symm
set_option maxRecDepth 20000 in
theorem zun (a:Option Addr) (n cap p:Nat) (l:List Nat) (L:za) (w:World) (hB:Byts w a n cap l) (hD:Door w) (hL:LimsI L) (hn:n≤900000000000) (hp:p≤n):
 Calls Tryz.prog 123 #[.slice a n cap,.int .i64 p,lmV L] w fun e w'=>zbi (zn l L p) e w'∧Below w.heap.size w w':=by
 have HH:=hid (fun W (h:Below w.heap.size w W)=>zqb a n cap p L.1 l W (hD.below (Nat.le_refl _) h) (hB.below h) hp (by omega) hL.1.1 hL.1.2);rw[ztq] at HH;have HX0:=hid (fun x g W (h:W.cell? ⟨g,0,none⟩=some (.int .i64 5))=>zss x 5 g W h);obtain⟨r,hr⟩:∃r,r=zn l L p:=⟨_,rfl⟩;rw[←hr];unfold lmV;have Hb0:=hid ((Below.refl w.heap.size w).alloc (Nat.le_refl _) (.cells #[.int .i64 L.1,.int .i64 L.2.1,.int .i64 L.2.2.1,.int .i64 L.2.2.2.1,.int .i64 L.2.2.2.2] 24));have HG:=hid (yf w 24 [.int .i64 L.1,.int .i64 L.2.1,.int .i64 L.2.2.1,.int .i64 L.2.2.2.1,.int .i64 L.2.2.2.2]);obtain⟨B,hBw⟩:∃B,w.heap.size=B:=⟨_,rfl⟩;go_enter Tryz.func123,Tryz.ntmps123;go_upto_region 1 with fail
 generalize w.alloc (.cells #[.int .i64 L.1,.int .i64 L.2.1,.int .i64 L.2.2.1,.int .i64 L.2.2.2.1,.int .i64 L.2.2.2.2] 24)=w0 at*;have Hs0:=hid Hb0.out.size;simp only[hBw] at HH Hb0 HG Hs0 ⊢;have c0:=HG.out.cell 0 rfl;have c1:=HG.out.cell 1 rfl;refine wp_scope_jumps 0 (zuk r p B w) (fun _ _=>0) rfl ?_ ?_
 · cases hh:yd l p L.1 with
   | error x=>
    rw[hh] at HH;simp only[zh] at HH;have HX:=hid (HX0.out (some ((x.1:Int),some (x.2:Int))));simp only[zh,zbd] at HX;go_wp2_with fail;refine(HH.out _ Hb0.out).mono ?_;rintro e w1 ⟨rfl,hb1⟩;have Hb1:=hid (Hb0.out.trans (hb1.mono Hs0.out));have Hs1:=hid (Nat.le_trans Hs0.out hb1.size);clear hb1 HH;go_wp2_with fail;have hbA:=(Below.refl w1.heap.size w1).alloc (Nat.le_refl _) (.cells #[.int .i64 5] 35);refine(HX.out _ _ ((yf w1 35 [.int .i64 5]).cell 0 rfl)).mono ?_;rintro e w2 ⟨rfl,hb2⟩;have Hb2:=hid (Hb1.out.trans ((hbA.trans (hb2.mono (by simp))).mono Hs1.out));clear hb2 hbA;by_cases h5:x.1=5
    · have hd:decide ((x.1:Int)=5)=true:=by rw[decide_eq_true_iff];omega
      have Hres:=hid (show r=.error (0,p) from by rw[hr];unfold zn;rw[hh];simp only;rw[if_pos h5]);clear h5;go_wp2_with fail;refine zax ?_;go_ret3
      exact⟨by rw[Hres.out];rfl,by rw[hBw];exact Hb2.out⟩
    · have hd:decide ((x.1:Int)=5)=false:=by rw[decide_eq_false_iff_not];omega
      have Hres:=hid (show r=.error x from by rw[hr];unfold zn;rw[hh];simp only;rw[if_neg h5]);have Hx0:=hid (show ¬x.1=0 from by rcases zlc hh with e | ⟨e,-⟩ | ⟨e,-⟩ | ⟨e | e,-⟩ <;> simp[e]);clear h5;go_wp2_with fail;refine zax ?_;go_ret3
      exact⟨by rw[Hres.out];unfold zbi;simp only;rw[if_neg Hx0.out];rfl,by rw[hBw];exact Hb2.out⟩
   | ok y=>
    obtain⟨st,k⟩:=y;rw[hh] at HH;simp only[zh] at HH;have HX:=hid (HX0.out none);simp only[zh,zbd] at HX;have hok:=zbf hB.lt hh;have hlen:=hB.len;have hmx:k≤9223372036854775807:=by have:=hok.2.2.2.1;have:=hL.1.2;omega
    have h1:st≤n:=by omega
    obtain⟨hv,hhv⟩:∃hv,hv=min k (l.length - st):=⟨_,rfl⟩;have hvn:st+hv≤n:=by omega
    have hsub:IntKind.i64.wrap ((n:Int) - (st:Int))=((n - st:Nat):Int):=by rw[IntKind.wrap_i64];omega
    have hmin:min (k:Int) ((n - st:Nat):Int)=(hv:Int):=by omega
    have hPay:Byts w (zb7 a st cap) hv (cap - st) ((l.drop st).take hv):=by
     have:=zlo hB (s:=st) (e:=st+hv) (by omega) hvn;rw[show st+hv - st=hv by omega] at this;exact this
    obtain⟨pa,hpa⟩:∃pa,zb7 a st cap=pa:=⟨_,rfl⟩;rw[hpa] at hPay;unfold zb7 at hpa;have hpa1:(if cap=st then a else a.map fun x=>x.add (st*1))=pa:=by rw[Nat.mul_one];exact hpa
    have hadd:IntKind.i64.wrap ((st:Int)+(hv:Int))=((st+hv:Nat):Int):=by rw[IntKind.wrap_i64];omega
    have hes:st+hv - st=hv:=by omega
    have hec:st+hv≤cap:=by have:=hB.room;omega
    have Hdat:=hid (show hv=min k (l.length - st)∧st+hv≤n∧st≤n∧n=l.length∧n≤900000000000∧k≤9223372036854775807 from⟨hhv,hvn,h1,hlen.symm,hn,hmx⟩);have HPay:=hid hPay;clear hok hlen hmx h1 hvn hPay hhv;go_wp2_with fail;refine(HH.out _ Hb0.out).mono ?_;rintro e w1 ⟨rfl,hb1⟩;have Hb1:=hid (Hb0.out.trans (hb1.mono Hs0.out));have Hs1:=hid (Nat.le_trans Hs0.out hb1.size);clear HH;go_wp2_with fail;have hbA:=(Below.refl w1.heap.size w1).alloc (Nat.le_refl _) (.cells #[.int .i64 5] 35);refine(HX.out _ _ ((yf w1 35 [.int .i64 5]).cell 0 rfl)).mono ?_;rintro e w2 ⟨rfl,hb2⟩;have Hb2:=hid (Hb1.out.trans ((hbA.trans (hb2.mono (by simp))).mono Hs1.out));have HG2:=hid ((HG.out.later hb1).later (hbA.trans (hb2.mono (by simp))));have Hs2:=hid (Nat.le_trans Hs1.out (hbA.trans (hb2.mono (by simp))).size);have l0:=HG2.out.cell 0 rfl;have l1:=HG2.out.cell 1 rfl;have l2:=HG2.out.cell 2 rfl;have l3:=HG2.out.cell 3 rfl;have l4:=HG2.out.cell 4 rfl;clear hb1 hb2 hbA c0 c1;go_wp2_with fail;clear hpa hpa1 hes hec hadd hmin l0 l1 l2 l3 l4 HX;have HBg:=hid (fun W=>ztm L W);unfold lmV at HBg;refine(HBg.out _).mono ?_;rintro e w3 ⟨R,rfl,hR,hb3⟩;have Hb3:=hid (Hb2.out.trans (hb3.mono Hs2.out));obtain⟨base,hbase⟩:∃base,w2.heap.size=base:=⟨_,rfl⟩;rw[hbase] at hR hb3;have Hs3:=hid (show B≤base from hbase ▸ Hs2.out);have HR:=hid hR;clear hR hb3 HBg HG HG2 hbase;have HDw:=hid (fun W (h:Below B w W)=>hD.below (Nat.le_refl _) (hBw.symm ▸ h));have HBw:=hid (fun W (h:Below B w W)=>HPay.out.below (hBw.symm ▸ h));have HB2:=hid (fun W (h:Below B w W)=>hB.below (hBw.symm ▸ h));have HLI:=hid hL;have Hgl:=hid (show 0<base from by have:=ze (p:=⟨0,0,none⟩) hD;have:=Hs3.out;omega);have Hl:=hid hB.lt;have Hhd:=hid hh;have Hhok:=hid (zbf hB.lt hh);have Hr:=hid (show ∀e,yl (zq l (st+k)) (st+k) L st=.error e→r=if e.1=0 then .error (0,p) else .error e from fun e he=>by rw[hr];exact zbh hh he);clear hD hL hh;go_wp2_with fail;go_step3
    go_wp2_with fail;go_loopw [15] (fun i wr=>∃(pc:Nat) (s:WS),i=.int .i64 pc∧Hid (Below B w wr)∧Hid (WkR wr base R L s)∧Hid (RdO L l st k s pc)) (fun i _=>hv - (intOf i).toNat)
    case atStart=>exact⟨0,ws0,rfl,Hb3,HR,hid RdO.start⟩
    case round=>
     obtain⟨pc,s,rfl,hb,hR,hI⟩:=hrel;have Hsr:=hid (show B≤wr.heap.size from hBw ▸ hb.out.size);have hrd:=zh0 pa hv (cap - st) pc _ wr (HBw.out _ hb.out) (by have:=hI.out.pl;have:=Hdat.out.1;omega);rw[Hdat.out.1] at hrd
     cases htk:zq l (st+k) (st+pc) with
     | error c=>
      obtain⟨c',hrr,hcc⟩:=zul htk;rw[hrr] at hrd;have hrx:=Hr.out _ ((zag hI.out.j hI.out.eq).1 _ htk);have HX:=hid (HX0.out (some ((c':Int),some (pc:Int))));simp only[zh,zbd] at hrd HX;rw[←Hdat.out.1] at hrd;have Hrd:=hid hrd;have Hrx:=hid hrx;have Hcc:=hid hcc;clear hrd hrx hcc hrr htk;go_wp2_with fail;refine Hrd.out.mono ?_;rintro e w4 ⟨rfl,hb4⟩;have Hb4:=hid (hb.out.trans (hb4.mono Hsr.out));have Hs4:=hid (Nat.le_trans Hsr.out hb4.size);clear hb4;go_wp2_with fail;have hbA:=(Below.refl w4.heap.size w4).alloc (Nat.le_refl _) (.cells #[.int .i64 5] 35);refine(HX.out _ _ ((yf w4 35 [.int .i64 5]).cell 0 rfl)).mono ?_;rintro e w5 ⟨rfl,hb5⟩;have Hb5:=hid (Hb4.out.trans ((hbA.trans (hb5.mono (by simp))).mono Hs4.out));have Hs5:=hid (Nat.le_trans Hs4.out (hbA.trans (hb5.mono (by simp))).size);clear hb5 hbA;by_cases hea:c'=5∧hv<k
      · have hd1:decide ((c':Int)=5)=true:=by rw[decide_eq_true_iff];omega
        have hd2:decide ((hv:Int)<(k:Int))=true:=by rw[decide_eq_true_iff];omega
        have hd3:decide (hv<k)=true:=by rw[decide_eq_true_iff];omega
        have Hres:=hid (show r=.error (0,p) from by
         rw[Hrx.out];have h:=Hdat.out;rcases Hcc.out with ⟨-,h1⟩ | ⟨h1,-⟩
         · have h2:c=0:=by rw[h1,if_neg (by omega)]
           rw[h2];exact if_pos rfl
         · omega)
        clear hea;go_wp2_with fail;go_step3
        exact⟨rfl,rfl,rfl,Hres.out,Hb5.out⟩
      · have hx:(decide ((c':Int)=5) && decide ((hv:Int)<(k:Int)))=false:=by rw[Bool.and_eq_false_iff,decide_eq_false_iff_not,decide_eq_false_iff_not];omega
        have hcn:c≠0∧c=c':=by
         have h:=Hdat.out;rcases Hcc.out with ⟨h1,h2⟩ | ⟨h1,h2⟩
         · rw[if_pos (by omega)] at h2;omega
         · omega
        have Hres:=hid (show r=.error (c',st+pc) from by rw[Hrx.out,if_neg hcn.1,hcn.2]);have Hc0:=hid (show c'≠0 from by omega);have HSh:=hid (zst c' pc st w5 (HDw.out _ Hb5.out) (by have:=hI.out.pl;have:=Hdat.out;omega));unfold jg at HSh;by_cases h5:c'=5
        · have hd1:decide ((c':Int)=5)=true:=by rw[decide_eq_true_iff];omega
          have hd2:decide ((hv:Int)<(k:Int))=false:=by rw[decide_eq_false_iff_not];omega
          have hd3:decide (hv<k)=false:=by rw[decide_eq_false_iff_not];omega
          clear hea hx hcn h5;go_wp2_with fail;refine HSh.out.mono ?_;rintro e w6 ⟨rfl,hb6⟩;have Hb6:=hid (Hb5.out.trans (hb6.mono Hs5.out));clear hb6;go_wp2_with fail;refine zax ?_;go_ret3
          exact⟨by rw[Hres.out];unfold zbi;simp only;rw[if_neg Hc0.out,Nat.add_comm st pc];rfl,by rw[hBw];exact Hb6.out⟩
        · have hd1:decide ((c':Int)=5)=false:=by rw[decide_eq_false_iff_not];omega
          clear hea hx hcn h5;go_wp2_with fail;refine HSh.out.mono ?_;rintro e w6 ⟨rfl,hb6⟩;have Hb6:=hid (Hb5.out.trans (hb6.mono Hs5.out));clear hb6;go_wp2_with fail;refine zax ?_;go_ret3
          exact⟨by rw[Hres.out];unfold zbi;simp only;rw[if_neg Hc0.out,Nat.add_comm st pc];rfl,by rw[hBw];exact Hb6.out⟩
     | ok y=>
      obtain⟨x,q⟩:=y;obtain⟨j,rfl,hrr⟩:=zum htk;rw[hrr] at hrd;obtain⟨t1,t2,t3,t4,-⟩:=zby Hl.out htk;have t5:=(zby Hl.out htk).2.2.2.2;have hgo:=(zag hI.out.j hI.out.eq).2 _ _ htk;have HX:=hid (HX0.out none);simp only[zh,zbd] at hrd HX;rw[←Hdat.out.1] at hrd;have hso:=hI.out.j.ok (L:=L) (E:=st+k) (x:=x) (q:=st+j) HLI.out t4 (by omega) t3 (by have:=Hdat.out;omega) (by have:=Hdat.out;omega);have hnq:IntKind.i64.wrap ((k:Int) - (j:Int))=((st+k - (st+j):Nat):Int):=by have:=Hdat.out;rw[IntKind.wrap_i64];omega
      have hsp:IntKind.i64.wrap ((st:Int)+(pc:Int))=((st+pc:Nat):Int):=by have:=Hdat.out;have:=hI.out.pl;rw[IntKind.wrap_i64];omega
      have HPut:=hid (fun W (h1:Below B w W) (h2:WkR W base R L s)=>zug base R L s (st+k) x (st+pc) (st+j) W W (Below.refl _ _) h2 (HDw.out _ h1) Hgl.out hso (fun s' h=>(zd6 hI.out.j.inv hI.out.j.tag h).tag));have Hnx:=hid (fun s' h h4=>hI.out.next Hl.out htk (s':=s') h h4);obtain⟨res,hres⟩:∃res,zr (st+k) L s x (st+pc) (st+j)=res:=⟨_,rfl⟩;rw[hres] at hgo HPut Hnx;have Hfit:=hid (fun s' (h:res=.ok s')=>zf2 hI.out.j.fit hI.out.j.inv hI.out.j.tag t4 t1 (hres.trans h));have Htag:=hid (fun s' (h:res=.ok s')=>(zd6 hI.out.j.inv hI.out.j.tag (hres.trans h)).tag);have Hrd:=hid hrd;have Hgo:=hid hgo;have Hlt:=hid (show pc<j∧j≤hv from by have:=Hdat.out;omega);have hres0:=hid hres;clear hrd hgo hres hso hrr htk t1 t2 t3 t4 t5;go_wp2_with fail;refine Hrd.out.mono ?_;rintro e w4 ⟨rfl,hb4⟩;have Hb4:=hid (hb.out.trans (hb4.mono Hsr.out));have Hs4:=hid (Nat.le_trans Hsr.out hb4.size);have HR4:=hid (hR.out.later hb4);clear hb4;go_wp2_with fail;have hbA:=(Below.refl w4.heap.size w4).alloc (Nat.le_refl _) (.cells #[.int .i64 5] 35);refine(HX.out _ _ ((yf w4 35 [.int .i64 5]).cell 0 rfl)).mono ?_;rintro e w5 ⟨rfl,hb5⟩;have hb5':=hbA.trans (hb5.mono (by simp));have Hb5:=hid (Hb4.out.trans (hb5'.mono Hs4.out));have HP:=hid (HPut.out w5 Hb5.out (HR4.out.later hb5'));clear hb5 hb5' hbA HPut;go_wp2_with fail;refine HP.out.mono ?_;rintro e w6 ⟨hb6,hr6⟩;have Hb6:=hid (Hb5.out.trans (hb6.mono Hs3.out));clear hb6 HP
      cases res with
      | error y=>
       obtain⟨rfl,C,hC,hc9⟩:=hr6;have Hy0:=hid (zlk (fun lh le r c h=>zgb h) hres0.out);have Hres:=hid (show r=.error y from by rw[Hr.out _ Hgo.out,if_neg Hy0.out]);clear hC hc9;unfold jg;go_wp2_with fail;refine zax ?_;go_ret3
       exact⟨by rw[Hres.out];unfold zbi;simp only;rw[if_neg Hy0.out];rfl,by rw[hBw];exact Hb6.out⟩
      | ok s'=>
       obtain⟨rfl,hr6⟩:=hr6;by_cases h4:s'.tag=4
       · have hd:decide (s'.tag=4)=true:=decide_eq_true h4;have HK:=hid (fun W (h:Below w6.heap.size w6 W)=>zuh W base R L s' (hr6.later h) h4 (Hfit.out s' rfl).l);have Hcw:=hid (show j9 (zq l (st+k)) (st+k) L s' (st+j)=.ok (zt s'.vs s'.l s'.ix,st+j) by unfold j9;simp only[h4]);have Hdec:=hid (show yl (zq l (st+k)) (st+k) L st=.ok (zt s'.vs s'.l s'.ix,st+j) from by rw[Hgo.out];exact Hcw.out);clear hr6 h4 Hcw Hgo;have hE:=(zlf Hl.out Hdec.out).2.1;have hd0:=Hdat.out;have hvk:hv=k:=by omega
         have hsub2:IntKind.i64.wrap (((n - st:Nat):Int) - (k:Int))=((n - st - k:Nat):Int):=by rw[IntKind.wrap_i64];omega
         by_cases hsh:l.length<st+k+4
         · have hd1:decide (((n - st - k:Nat):Int)<4)=true:=by rw[decide_eq_true_iff];omega
           have hd2:decide (n - st - k<4)=true:=by rw[decide_eq_true_iff];omega
           have Hres:=hid (show r=.error (0,p) from by rw[hr];unfold zn;rw[Hhd.out];simp only;rw[Hdec.out];simp only;rw[if_pos hsh]);clear hsh hE hd0 hvk HK;go_wp2_with fail;go_step3
           exact⟨rfl,rfl,rfl,Hres.out,Hb6.out⟩
         · have hd1:decide (((n - st - k:Nat):Int)<4)=false:=by rw[decide_eq_false_iff_not];omega
           have hd2:decide (n - st - k<4)=false:=by rw[decide_eq_false_iff_not];omega
           have hadd2:IntKind.i64.wrap ((st:Int)+(k:Int))=((st+k:Nat):Int):=by rw[IntKind.wrap_i64];omega
           have hadd3:IntKind.i64.wrap ((st:Int)+(k:Int)+4)=((st+k+4:Nat):Int):=by rw[IntKind.wrap_i64];omega
           obtain⟨b,hb⟩:∃b,b=decide (qo (sum ((l.drop st).take hv))=(l.drop (st+k)).take 4):=⟨_,rfl⟩
           have Hres:=hid (show r=if b=true then .ok (zt s'.vs s'.l s'.ix,st+k+4) else .error (14,st+k) from by
            rw[hr];unfold zn;rw[Hhd.out];simp only;rw[Hdec.out];simp only;rw[if_neg hsh,hb,hvk];split <;> rename_i h <;> simp[h])
           have hrm:=(HB2.out _ Hb6.out).room
           have HSm:=hid (fun W (h:Below B w W)=>show Byts W (a.map fun x=>x.add (st+k)) 4 (cap - (st+k)) ((l.drop (st+k)).take 4) from by
            have:=zlo (HB2.out W h) (s:=st+k) (e:=st+k+4) (by omega) (by omega);unfold zb7 at this;rw[show st+k+4 - (st+k)=4 by omega,if_neg (by omega)] at this;exact this)
           have hes:st+k+4 - (st+k)=4:=by omega
           have hec:st+k+4≤cap:=by omega
           have hlt:=(HPay.out).lt;have Hslt:=hid (show sum ((l.drop st).take hv)<4294967296 from zev (zdd (by omega) hlt));have Hbb:=hid hb;clear hsh hE hd0 hvk hb hlt hrm;go_wp2_with fail;refine(zg8 _ _ _ _ _ (HBw.out _ Hb6.out)).mono ?_;rintro e w7 ⟨rfl,hb7⟩;have Hs6:=hid (show B≤w6.heap.size from hBw ▸ Hb6.out.size);have Hb67:=hid hb7;have Hb7:=hid (Hb6.out.trans (hb7.mono Hs6.out));clear hb7;go_wp2_with fail;refine(zmp (.slice none 0 0) 0 w7.heap.size [] _ _ Hslt.out (World.ownsRow_nil _ _ _ _) (Nat.le_refl _) (by omega)).mono ?_;rintro e w8 ⟨v8,rfl,ho8,hg8⟩;have hb8:=zce (Below.refl w7.heap.size w7) hg8;obtain⟨a8,c8,rfl,hB8⟩:=zew (l:=qo (sum ((l.drop st).take hv))) ho8 (zgz Hslt.out);have Hb68:=hid (Hb67.out.trans (hb8.mono Hb67.out.size));have Hb8:=hid (Hb6.out.trans (Hb68.out.mono Hs6.out));have HB8:=hid hB8;clear hB8 ho8 hg8 hb8 Hb67;go_wp2_with fail;refine(zmr _ _ _ _ _ _ _ _ _ HB8.out (HSm.out _ Hb8.out) b Hbb.out).mono ?_;rintro e w9 ⟨rfl,q9,rfl⟩;have Hb9:=hid (zlp Hb8.out q9);have Hb69:=hid (zlp Hb68.out q9);generalize w8.drewN q9=w9 at*;cases b
           · go_wp2_with fail;refine(vd (c:=14) (o:=st+k) (by decide) _).mono ?_;rintro e w10 ⟨rfl,rfl⟩;unfold jg;go_wp2_with fail;refine zax ?_;go_ret3
             exact⟨by rw[Hres.out];rfl,by rw[hBw];exact Hb9.out⟩
           · go_wp2_with fail;refine(HK.out _ Hb69.out).mono ?_;rintro e w10 ⟨⟨K,rfl,hK⟩,hb10⟩;have Hb10:=hid (Hb9.out.trans (hb10.mono (by have:=Hb69.out.size;have:=Hs6.out;omega)));have HKn:=hid hK;clear hK hb10;go_wp2_with fail;refine zax ?_;go_ret3
             exact⟨by rw[Hres.out];exact⟨K,rfl,HKn.out⟩,by rw[hBw];exact Hb10.out⟩
       · have hd:decide (s'.tag=4)=false:=decide_eq_false h4;have HN:=hid (Hnx.out s' rfl (by have:=Htag.out s' rfl;omega));have HR6:=hid hr6;clear hr6 h4;go_wp2_with fail;go_roundw
         case rel=>exact⟨j,s',rfl,Hb6,HR6,HN⟩
         case measure=>have:=Hlt.out;simp[intOf];omega
 · intro a1 w1 ⟨h1,h2,h3,h4⟩;obtain⟨f,rfl⟩:=zuj a1 h1 h2;have H3:=hid h3;have H4:=hid h4;clear h1 h2 h3 h4 HH HX0;simp only[List.range,List.range.loop,List.map];go_wp2;refine zax ?_;go_ret3
   exact⟨by rw[H3.out];rfl,by rw[hBw];exact H4.out⟩
end
section
open Go.RowKit
attribute [local go_sem] qj Tryz.eqGuard_if
def KnosL (w:World):List Value→List Kno→Prop
 | [],[]=>True
 | K :: Ks,k :: ks=>KnoS w K k∧KnosL w Ks ks
 | _,_=>False
theorem KnosL.steady {w w':World} (hs:Steady 0 qh w w'):∀{Ks:List Value} {ks:List Kno},KnosL w Ks ks→KnosL w' Ks ks
 | [],[],_=>trivial
 | _ :: _,_ :: _,h=>⟨h.1.steady hs,KnosL.steady hs h.2⟩
 | [],_ :: _,h=>h.elim
 | _ :: _,[],h=>h.elim
theorem KnosL.len {w:World}:∀{Ks:List Value} {ks:List Kno},KnosL w Ks ks→Ks.length=ks.length
 | [],[],_=>rfl
 | _ :: _,_ :: _,h=>by rw[List.length_cons,List.length_cons,KnosL.len h.2]
 | [],_ :: _,h=>h.elim
 | _ :: _,[],h=>h.elim
theorem KnosL.snoc {w:World} {K:Value} {k:Kno} (hK:KnoS w K k):∀{Ks:List Value} {ks:List Kno},KnosL w Ks ks→KnosL w (Ks++[K]) (ks++[k])
 | [],[],_=>⟨hK,trivial⟩
 | _ :: _,_ :: _,h=>⟨h.1,KnosL.snoc hK h.2⟩
 | [],_ :: _,h=>h.elim
 | _ :: _,[],h=>h.elim
theorem KnosL.at {w:World}:∀{Ks:List Value} {ks:List Kno} {i:Nat},KnosL w Ks ks→(hi:i<ks.length)→∃K,Ks[i]?=some K∧KnoS w K ks[i]
 | [],[],i,_,hi=>absurd hi (Nat.not_lt_zero i)
 | K :: _,_ :: _,0,h,_=>⟨K,rfl,h.1⟩
 | _ :: _,_ :: _,i+1,h,hi=>KnosL.at h.2 (Nat.lt_of_succ_lt_succ hi)
 | [],_ :: _,_,h,_=>h.elim
 | _ :: _,[],_,h,_=>h.elim
def KnosM (w:World) (base:Nat) (V:Value) (ks:List Kno):Prop:=∃Ks,w.ownsRow base 27 1 V ks.length Ks∧KnosL w Ks ks
theorem zuo (w:World) (base:Nat):KnosM w base (.slice none 0 0) []:=⟨[],World.ownsRow_nil _ _ _ _,trivial⟩
theorem KnosM.later {w w':World} {base:Nat} {V:Value} {ks:List Kno} (h:KnosM w base V ks) (hb:Below w.heap.size w w'):KnosM w' base V ks:=by
 obtain⟨Ks,h1,h2⟩:=h;exact⟨Ks,zx h1 hb,h2.steady (.of_below hb)⟩
theorem KnosM.slice {w:World} {base:Nat} {V:Value} {ks:List Kno} (h:KnosM w base V ks):∃a c,V=.slice a ks.length c:=by
 obtain⟨Ks,h1,-⟩:=h;exact j1 h1
theorem Tryz.info_kno:(Tryz.prog.info? 27).map (fun i=>(i.zero,i.size,i.bytes))=some (some (.slice none 0 0),1,24):=by kernel_rfl
theorem zup {w:World} {base:Nat} {V K:Value} {ks:List Kno} {k:Kno} (h:KnosM w base V ks) (hK:KnoS w K k) (hb:ks.length≤1000000) (hbase:base≤w.heap.size):
 ∃V' w',(Builtin.append_ #[55,55] 55 #[V,.slice (some ⟨w.heap.size,0,none⟩) 1 1]).run Tryz.prog (w.alloc (.cells #[K] 27))=.ok V' w'∧KnosM w' base V' (ks++[k])∧
  ∃Ks,(w.alloc (.cells #[K] 27)).ownsRow base 27 1 V ks.length Ks∧(w.alloc (.cells #[K] 27)).grownBy w' V.ownBlock:=by
 have hal:=(Below.refl w.heap.size w).alloc (Nat.le_refl _) (.cells #[K] 27);obtain⟨Ks,h1,h2⟩:=h;have h1':=zx h1 hal;have h2':=h2.steady (.of_below hal);have hK':=hK.later hal
 obtain⟨V',w',e1,e2,e3⟩:=za4 base 55 55 27 _ 1 24 Tryz.underlying55 Tryz.info_kno rfl (by omega) V ks.length Ks h1' (some ⟨w.heap.size,0,none⟩) 1 1 [K] (zhl _ _ _ 1 _ rfl rfl) (by
  intro u hu;obtain rfl:=List.mem_singleton.1 hu;obtain⟨a,c,rfl,-⟩:=hK.frags
  rfl) (by unfold maxLen;omega) (by omega) (by simp only[World.size_alloc];omega)
 have hs:Steady 0 qh _ w':=(Steady.grown (base:=base) h1' e3 (show ¬qh 27 by rintro(h | h | h) <;> cases h)).lower (Nat.zero_le _);exact⟨V',w',e1,⟨Ks++[K],by rw[List.length_append];exact e2,(h2'.steady hs).snoc (hK'.steady hs)⟩,Ks,h1',e3⟩
structure TwoM (w wr:World) (base:Nat) (o E:Value) (ks:List Kno) (es:List Nat):Prop where
 lo:w.heap.size≤base
 hi:base≤wr.heap.size
 kn:KnosM wr base o ks
 en:wr.ownsRow base 3 1 E es.length (yj es)
 gr:w.grownBy wr none
theorem TwoM.later {w wr w':World} {base:Nat} {o E:Value} {ks:List Kno} {es:List Nat} (h:TwoM w wr base o E ks es) (hb:Below wr.heap.size wr w'):TwoM w w' base o E ks es:=
 ⟨h.lo,Nat.le_trans h.hi hb.size,h.kn.later hb,zx h.en hb,zbp h.gr hb⟩
theorem TwoM.push {w wr:World} {base:Nat} {o E K:Value} {ks:List Kno} {es:List Nat} {k:Kno} (h:TwoM w wr base o E ks es) (hK:KnoS wr K k) (q:Nat) (h1:ks.length≤1000000) (h2:es.length+1≤1000000):
 ∃o' w2,(Builtin.append_ #[55,55] 55 #[o,.slice (some ⟨wr.heap.size,0,none⟩) 1 1]).run Tryz.prog (wr.alloc (.cells #[K] 27))=.ok o' w2∧
 ∃E' w4,(Builtin.append_ #[60,60] 60 #[E,.slice (some ⟨w2.heap.size,0,none⟩) 1 1]).run Tryz.prog (w2.alloc (.cells #[.int .i64 (q:Nat)] 3))=.ok E' w4∧TwoM w w4 base o' E' (ks++[k]) (es++[q])∧
  ∀g T C,T≠27→T≠3→Row wr g T C→Row w4 g T C:=by
 have hal:=(Below.refl wr.heap.size wr).alloc (Nat.le_refl _) (.cells #[K] 27);obtain⟨o',w2,e1,hkn,Ks,ho,hg⟩:=zup h.kn hK h1 h.hi;have hen2:w2.ownsRow base 3 1 E es.length (yj es):=yu (zx h.en hal) fun j hj=>hg.block j ((zx h.en hal).lt j hj).2 fun e=>kd (zx h.en hal) ho (by decide) j hj e.symm
 have hgr2:=zf3 (zbp h.gr hal) hg fun j hj=>Nat.le_trans h.lo (ho.lt j hj).1
 have hhi2:base≤w2.heap.size:=Nat.le_trans h.hi (Nat.le_trans hal.size hg.size);have hal2:=(Below.refl w2.heap.size w2).alloc (Nat.le_refl _) (.cells #[.int .i64 (q:Nat)] 3);have hen3:=zx hen2 hal2;obtain⟨E',w4,e3,e4,e5⟩:=zht base E es.length es hen3 (some ⟨w2.heap.size,0,none⟩) 1 1 [q] (zhl _ _ _ 1 _ rfl rfl) h2 (Nat.le_trans hhi2 hal2.size);have hkn3:=hkn.later hal2;refine⟨o',w2,e1,E',w4,e3,⟨h.lo,Nat.le_trans hhi2 (Nat.le_trans hal2.size e5.size),?_,by rw[List.length_append];exact e4,zf3 (zbp hgr2 hal2) e5 fun j hj=>Nat.le_trans h.lo (hen3.lt j hj).1⟩,fun g T C t1 t2 hr=>?_⟩
 · obtain⟨Ks3,k1,k2⟩:=hkn3;refine⟨Ks3,yu k1 fun j hj=>e5.block j (k1.lt j hj).2 fun e=>kd k1 hen3 (by decide) j hj e.symm,k2.steady ?_⟩;exact(Steady.grown (base:=base) hen3 e5 (show ¬qh 3 by rintro(h | h | h) <;> cases h)).lower (Nat.zero_le _)
 · have r1:=hr.later hal;have r2:=r1.grown hg fun e=>r1.ne_own ho t1 _ e.symm rfl
   have r3:=r2.later hal2;exact r3.grown e5 fun e=>r3.ne_own hen3 t2 _ e.symm rfl
theorem TwoM.put {w wr:World} {base g i:Nat} {o E:Value} {ks:List Kno} {es:List Nat} {T:TypeId} {C:List Value} (h:TwoM w wr base o E ks es) (hr:Row wr g T C) (hT:¬qh T) (hg:w.heap.size≤g) (hb:g<base) (v:Value):TwoM w (wr.setCell ⟨g,i,none⟩ v) base o E ks es:=by
 obtain⟨Ks,k1,k2⟩:=h.kn;exact⟨h.lo,by have:=h.hi;simpa using this,⟨Ks,ownsRow_setCell_below k1 hb _,k2.steady (Steady.setCell (a:=⟨g,i,none⟩) (C:=C.toArray) (e:=T) (fr:=(0,0)) hr (Nat.zero_le _) hT)⟩,ownsRow_setCell_below h.en hb _,jd h.gr v (.inl hg)⟩
theorem KnosM.mono {w:World} {base b:Nat} {V:Value} {ks:List Kno} (h:KnosM w base V ks) (hb:b≤base):KnosM w b V ks:=by
 obtain⟨Ks,h1,h2⟩:=h;exact⟨Ks,j3 h1 hb,h2⟩
theorem zlr {P:Program} {fn:Func} {t u p:Tmp} {ty:TypeId} (h:fn.results= #[.tmp t,.tmp u,.cell p ty]) (tmps:Array Value) (w:World) (g:Nat) (t':TypeId) (cs:Array Value) (fr:Nat×Nat) (d:TypeDesc)
 (hp:tmps.getD p undef=.pointer (some ⟨g,0,none⟩)) (hg:w.heap[g]?=some (.cells cs t' fr))
 (hu:P.underlying ty=some d) (hd:(match d with | .struct _ | .array _ _=>true | _=>false)=true) (hi:(P.info? ty).map (·.size)=some cs.size):
 (results fn tmps).run P w=.ok (.tuple #[tmps.getD t undef,tmps.getD u undef,.agg cs]) w:=by
 have hp':tmps[p]?.getD undef=.pointer (some ⟨g,0,none⟩):=by simpa using hp
 have hl:=run_loadVar_row (P:=P) w g t' ty cs fr d hg hu hd hi;have ha:(asAddr (tmps[p]?.getD undef)).run P w=.ok (⟨g,0,none⟩:Addr) w:=by rw[hp'];rfl
 clear hp hp' hg hu hd hi;simp only[results,h];simp[Sem.run_bind,Result.andThen,ha,hl]
theorem zuq {P:Program} {fn:Func} {t p:Tmp} {ty:TypeId} (h:fn.results= #[.tmp t,.cell p ty]) (tmps:Array Value) (w:World) (g:Nat) (t':TypeId) (cs:Array Value) (fr:Nat×Nat) (d:TypeDesc)
 (hp:tmps.getD p undef=.pointer (some ⟨g,0,none⟩)) (hg:w.heap[g]?=some (.cells cs t' fr))
 (hu:P.underlying ty=some d) (hd:(match d with | .struct _ | .array _ _=>true | _=>false)=true) (hi:(P.info? ty).map (·.size)=some cs.size):
 (results fn tmps).run P w=.ok (.tuple #[tmps.getD t undef,.agg cs]) w:=by
 have hp':tmps[p]?.getD undef=.pointer (some ⟨g,0,none⟩):=by simpa using hp
 have hl:=run_loadVar_row (P:=P) w g t' ty cs fr d hg hu hd hi;have ha:(asAddr (tmps[p]?.getD undef)).run P w=.ok (⟨g,0,none⟩:Addr) w:=by rw[hp'];rfl
 clear hp hp' hg hu hd hi;simp only[results,h];simp[Sem.run_bind,Result.andThen,ha,hl]
def zur (l:List Nat) (L:za) (base:Nat) (e:Ending) (w':World):Prop:=
 ∃ks es x V E,jb l L ks es x∧e=.returned (.tuple #[V,E,.agg #[.int .i64 (x.1:Nat),.int .i64 (x.2:Nat)]])∧KnosM w' base V ks∧w'.ownsRow base 3 1 E es.length (yj es)
set_option maxRecDepth 20000 in
theorem zls (a:Option Addr) (n cap:Nat) (l:List Nat) (L:za) (w:World) (hB:Byts w a n cap l) (hD:Door w) (hL:LimsI L) (hn:n≤1000000):
 Calls Tryz.prog 83 #[.slice a n cap,lmV L] w fun e w'=>zur l L w.heap.size e w'∧Below w.heap.size w w':=by
 have HO:=hid (fun q W (h:Below w.heap.size w W) (hq:q≤n)=>zun a n cap q l L W (hB.below h) (hD.below (Nat.le_refl _) h) hL (by omega) hq);have HC:=hid (fun c o W (h:Below w.heap.size w W)=>kx (some (((c:Nat):Int),some ((o:Nat):Int))) W (hD.below (Nat.le_refl _) h));have HA:=hid (fun c o W (h:Below w.heap.size w W)=>zns (some (((c:Nat):Int),some ((o:Nat):Int))) W (hD.below (Nat.le_refl _) h));simp only[zh,kh,zg5] at HC HA;unfold lmV at HO ⊢;have Hl:=hid hB.lt;have Hlen:=hid hB.len;obtain⟨wB,hwB⟩:∃wB,wB=(w.alloc (.cells #[.int .i64 L.1,.int .i64 L.2.1,.int .i64 L.2.2.1,.int .i64 L.2.2.2.1,.int .i64 L.2.2.2.2] 24)).alloc (.cells #[.int .i64 0,.int .i64 0] 64):=⟨_,rfl⟩
 have HT0:=hid (show TwoM w wB (w.heap.size+2) (.slice none 0 0) (.slice none 0 0) [] [] from⟨by omega,by rw[hwB];simp,zuo _ _,World.ownsRow_nil _ _ _ _,by
  rw[hwB];exact zbp (za7 w none) (((Below.refl _ w).alloc (Nat.le_refl _) _).alloc (by simp) _)⟩)
 have HG0:=hid (show Row wB w.heap.size 24 [.int .i64 L.1,.int .i64 L.2.1,.int .i64 L.2.2.1,.int .i64 L.2.2.2.1,.int .i64 L.2.2.2.2] from by rw[hwB];exact(yf w _ _).later ((Below.refl _ _).alloc (Nat.le_refl _) _));have HV0:=hid (show Row wB (w.heap.size+1) 64 [.int .i64 0,.int .i64 0] from by rw[hwB];have:=yf (w.alloc (.cells #[.int .i64 L.1,.int .i64 L.2.1,.int .i64 L.2.2.1,.int .i64 L.2.2.2.1,.int .i64 L.2.2.2.2] 24)) 64 [.int .i64 0,.int .i64 0];simpa using this);have HwB:=hid hwB;clear hwB hB hD hL;have Hn:=hid hn;clear hn;go_enter Tryz.func83,Tryz.ntmps83;go_upto_region 1 with fail
 rw[←HwB.out];go_wp2_with fail;go_loopw [7,8,9] (fun o E i wr=>∃(ks:List Kno) (es:List Nat) (q:Nat),i=.int .i64 q∧Hid (TwoM w wr (w.heap.size+2) o E ks es)∧Hid (Row wr w.heap.size 24 [.int .i64 L.1,.int .i64 L.2.1,.int .i64 L.2.2.1,.int .i64 L.2.2.2.1,.int .i64 L.2.2.2.2])∧Hid (Row wr (w.heap.size+1) 64 [.int .i64 0,.int .i64 0])∧Hid (jz l L ks es 0 q∧q≤n)) (fun o E i _=>n - (intOf i).toNat)
 case atStart=>exact⟨[],[],0,rfl,HT0,HG0,HV0,hid ⟨rfl,Nat.zero_le _⟩⟩
 case round=>
  obtain⟨ks,es,q,rfl,hM,hG,hV,hI⟩:=hrel;have Hb:=hid (zce (Below.refl _ _) hM.out.gr);have HO1:=hid (HO.out q wr Hb.out hI.out.2);have Hsz:=hid hM.out.gr.size;have l0:=hG.out.cell 0 rfl;have l1:=hG.out.cell 1 rfl;have l2:=hG.out.cell 2 rfl;have l3:=hG.out.cell 3 rfl;have l4:=hG.out.cell 4 rfl;go_wp2_with fail;refine HO1.out.mono ?_;rintro e w2 ⟨hr,hb2⟩;have HM2:=hid (hM.out.later hb2);have HG2:=hid (hG.out.later hb2);have HV2:=hid (hV.out.later hb2);have Hb2:=hid (Hb.out.trans (hb2.mono Hsz.out));have Hsz2:=hid HM2.out.gr.size;clear l0 l1 l2 l3 l4 hb2 HO1
  cases h1:zn l L q with
  | error x=>
   rw[h1] at hr;have hP:jb l L ks es x:=⟨q,hI.out.1,h1⟩;obtain⟨c,o⟩:=x;by_cases h0:c=0
   · subst h0;obtain rfl:=zem h1;have HP:=hid hP;unfold zbi at hr;simp only[if_true] at hr;subst hr;have f0:=HV2.out.fz 0;have f1:=HV2.out.fz 1;have c0:=HV2.out.cell 0 rfl;have c1:=HV2.out.cell 1 rfl;have HVf:=hid ((HV2.out.set 0 (.int .i64 0)).set 1 (.int .i64 (o:Int)));have HMf:=hid ((HM2.out.put HV2.out (by rintro(h | h | h) <;> cases h) (by omega) (by omega) (i:=0) (.int .i64 0)).put (HV2.out.set 0 (.int .i64 0)) (by rintro(h | h | h) <;> cases h) (by omega) (by omega) (i:=1) (.int .i64 (o:Int)));clear h1 hP;go_wp2_with fail;refine bodyPost_ret (zlr rfl _ _ (w.heap.size+1) 64 #[.int .i64 0,.int .i64 (o:Int)] (0,0) _ rfl HVf.out Tryz.underlying64 rfl (by kernel_rfl)) rfl ?_;exact⟨⟨ks,es,(0,o),_,_,HP.out,rfl,HMf.out.kn.mono (by omega),j3 HMf.out.en (by omega)⟩,zce (Below.refl _ _) HMf.out.gr⟩
   · have HP:=hid hP;unfold zbi at hr;simp only[if_neg h0] at hr;subst hr;unfold jg;clear h1 hP h0;go_wp2_with fail;refine(HC.out c o _ Hb2.out).mono ?_;rintro e w3 ⟨rfl,hb3⟩;have Hb3:=hid (Hb2.out.trans (hb3.mono Hsz2.out));have HM3:=hid (HM2.out.later hb3);have HV3:=hid (HV2.out.later hb3);have Hsz3:=hid HM3.out.gr.size;clear hb3;go_wp2_with fail;refine(HA.out c o _ Hb3.out).mono ?_;rintro e w4 ⟨rfl,hb4⟩;have HM4:=hid (HM3.out.later hb4);have HV4:=hid (HV3.out.later hb4);have f0:=HV4.out.fz 0;have f1:=HV4.out.fz 1;have c0:=HV4.out.cell 0 rfl;have c1:=HV4.out.cell 1 rfl;have HVf:=hid ((HV4.out.set 0 (.int .i64 (c:Int))).set 1 (.int .i64 (o:Int)));have HMf:=hid ((HM4.out.put HV4.out (by rintro(h | h | h) <;> cases h) (by omega) (by omega) (i:=0) (.int .i64 (c:Int))).put (HV4.out.set 0 (.int .i64 (c:Int))) (by rintro(h | h | h) <;> cases h) (by omega) (by omega) (i:=1) (.int .i64 (o:Int)));clear hb4;go_wp2_with fail;refine bodyPost_ret (zlr rfl _ _ (w.heap.size+1) 64 #[.int .i64 (c:Int),.int .i64 (o:Int)] (0,0) _ rfl HVf.out Tryz.underlying64 rfl (by kernel_rfl)) rfl ?_
     exact⟨⟨ks,es,(c,o),_,_,HP.out,rfl,HMf.out.kn.mono (by omega),j3 HMf.out.en (by omega)⟩,zce (Below.refl _ _) HMf.out.gr⟩
  | ok y=>
   obtain⟨k,q'⟩:=y;rw[h1] at hr;obtain⟨K,rfl,hK⟩:=hr;obtain⟨ka,kc,rfl,-⟩:=hK.frags;obtain⟨oa,oc,rfl⟩:=HM2.out.kn.slice;obtain⟨ea,ec,rfl⟩:=j1 HM2.out.en;have hq:=zlg Hl.out h1;have hlk:=zen Hl.out hI.out.1;have hle:=zlb hI.out.1;have hI2:=hid (show jz l L (ks++[k]) (es++[q']) 0 q'∧q'≤n from⟨zgc hI.out.1 h1,by have:=Hlen.out;omega⟩);have hne:((q':Int) == 0)=false:=by rw[beq_eq_false_iff_ne];omega
   have Hqq:=hid hq.1;obtain⟨o',w3,e1,E',w4,e2,hM4,hrow⟩:=HM2.out.push hK q' (by have:=hI.out.2;have:=Hn.out;omega) (by have:=hI.out.2;have:=Hn.out;omega);have HG4:=hid (hrow _ _ _ (by decide) (by decide) HG2.out);have HV4:=hid (hrow _ _ _ (by decide) (by decide) HV2.out);have HM4:=hid hM4;clear hrow hM4 hlk hle hK hq h1;go_wp2_with (first | (at_builtin;refine qf _ _ 55 rfl rfl _ _ rfl rfl _ _ e1 ?_) | (at_builtin;refine qf _ _ 60 rfl rfl _ _ rfl rfl _ _ e2 ?_));clear e1 e2;go_roundw
   case rel=>exact⟨ks++[k],es++[q'],q',rfl,HM4,HG4,HV4,hI2⟩
   case measure=>have:=Hqq.out;have:=hI2.out.2;simp[intOf];omega
end
